/- Words, rules and walks of several kinds, laid together: MaFmtS, Pl, PlOk, FgN, FgT, FgE, FgV, FgX, PlZ, FgZ, AccT, ParN, Stk, CopyTy, LookP, AnyH. No conditions but those that each theorem states. -/
import Derived.Test.YtmpepccpnnldoaaQh0f9ffd1e
import Derived.Test.YtmpepccpnnldoaaQh04771900
import Derived.Test.YtmpepccpnnldoaaQh88715e30
import Derived.Deep.AppendLies
set_option linter.unusedSimpArgs false
set_option linter.unusedVariables false
namespace Go.Proofs.Ytmpepccpnnldoaa
set_option maxRecDepth 100000
set_option maxHeartbeats 40000000
noncomputable section
open Go.RowKit Go.Proofs
set_option linter.unusedSimpArgs false
set_option linter.unusedVariables false

attribute [local irreducible] lt

def sl1In_T (m : Int → Int → Int → Option Bool) : Prop := ∀ (px : Int) (plo : Int) (phi : Int) (r : Bool), m px plo phi = some r → AFun Try.prog 101 [pI px, pI plo, pI phi] (pB r : PV)
def sl1In_M (fu : Nat) (px plo phi : Int) : Option Bool :=
 sw (decide ((px : Int) ≥ plo))
 (some (decide ((px : Int) ≤ phi)))
 (some false)
theorem sl1In_ok (fu : Nat)   : sl1In_T (sl1In_M fu) := by
  intro px plo phi r H
  have H := hd0 H
  refine qI Try.func101 (fun C hC => ?_)
  refine qS (qR (q1 rMv (qN (qS (qR ?_)))))
  iterate 2 refine q1 rMv ?_
  refine q1 rGe (q1 rMv ?_)
  refine spB 10 H (fun g1 H => ?_) fun g1 H => ?_
  · refine qg g1 rMv (qg g1 rMv (qg g1 rLe (q1 (rPt g1) (q1 rMv (qN (AWP.ret ?_))))))
    obtain rfl : _ = r := (smI H :)
    exact qe1
  iterate 3 refine qk g1 ?_
  refine q1 (rPf g1) (q1 rMv (qN (AWP.ret ?_)))
  obtain rfl : _ = r := (smI H :)
  exact qe1

def sl1Has_T (m : (List ByteArray) → ByteArray → Option Bool) : Prop := ∀ (plist : List ByteArray) (ps : ByteArray) (r : Bool), m plist ps = some r → AFun Try.prog 128 [rS plist, pS ps] (pB r : PV)
def sl1Has_F1 (fu : Nat) (plist : List ByteArray) (ps : ByteArray) : Nat → Unit → Option (LR Unit Bool) :=
 fun i1 _ => sw (decide (atD plist i1 = ps))
 (some (.ret true))
 (some (.next ()))
def sl1Has_R1 (fu : Nat) (plist : List ByteArray) (ps : ByteArray) : Option (Bool ⊕ Unit) :=
 loopN (sl1Has_F1 fu plist ps) (plist.length - 0) 0 ()
def sl1Has_M (fu : Nat) (plist : List ByteArray) (ps : ByteArray) : Option Bool :=
 so (sl1Has_R1 fu plist ps) (fun _ =>
 some false)
theorem sl1Has_ok (fu : Nat)   : sl1Has_T (sl1Has_M fu) := by
  intro plist ps r H
  have H := hd0 H
  refine qI Try.func128 (fun C hC => ?_)
  refine qS (qR (q1 rMv (qN ?_)))
  iterate 2 refine qS ?_
  refine qR (q1 rMv (qN ?_))
  refine lenF 0 (strTrs_len _) (fun hl2 => ?_)
  refine loopB (σ := Unit) (fun i1 _ => ⟨[(0, rS plist), (1, pS ps), (4, pB false), (5, pN i1)], ⟨[], []⟩⟩) (fun _ => ⟨[(4, pB false)], ⟨[], []⟩⟩) (soI H) ?_ ?_
  · rintro i1 ⟨⟩ H
    iterate 2 refine qS ?_
    refine qR ?_
    iterate 2 refine q1 rMv ?_
    refine q1 (rLn el24 (strTrs_len _)) (q1 rLt (qN ?_))
    refine cndL H (fun h3 h3l H => ?_) (fun h3 H => ?_)
    · have h3n := nat_lt_of h3
      refine AWP.skip (qS (AWP.block (qS (qR ?_))))
      iterate 2 refine q1 rMv ?_
      refine q1 (rIx h3n el24) (q1 (rK1 sh9) (q1 rMv (q1 rSe (qN ?_))))
      refine cndB H (fun h4 H => ?_) (fun h4 H => ?_)
      · refine qS (qR (q1 rMv (qN (AWP.ret ?_))))
        obtain rfl : _ = r := (lkR (smI H) :)
        exact qe1
      refine AWP.skip (qR (q1 rMv (q1 (AOp.addI rfl rfl rfl rfl (c := ((i1 + 1 : Nat) : Int)) (by omega) (by omega)) (q1 rMv (qN ?_)))))
      exact lpN h3l ⟨_, (smI H :), wkA⟩
    refine AWP.exit ?_; exact lpX ⟨_, H, wkA⟩
  rintro ⟨⟩ H
  refine qS (qR (q1 rMv (qN (AWP.ret ?_))))
  obtain rfl : _ = r := (smI H :)
  exact qe1

def sIsReserved_T (m : ByteArray → Option Bool) : Prop := ∀ (ps : ByteArray) (r : Bool), m ps = some r → AFun Try.prog 102 [pS ps] (pB r : PV)
def sIsReserved_M (fu : Nat) (ps : ByteArray) : Option Bool :=
 bd (sl1Has_M fu ([s_int, s_bool, s_assoc, s_dyn, s_if, s_let, s_case, s_new, s_method, s_pack, s_true, s_false] : List ByteArray) ps) (fun x2 =>
 some x2)
theorem sIsReserved_ok (fu : Nat)   : sIsReserved_T (sIsReserved_M fu) := by
  intro ps r H
  have H := hd0 H
  refine qI Try.func102 (fun C hC => ?_)
  refine qS (qR (q1 rMv (qN (qS (qR (q1 (rBs ([s_int, s_bool, s_assoc, s_dyn, s_if, s_let, s_case, s_new, s_method, s_pack, s_true, s_false] : List ByteArray) el24 zr9) (q1 rMv (bdE H fun x2 z1 H => (q1 (rCf Try.func128 (sl1Has_ok fu ([s_int, s_bool, s_assoc, s_dyn, s_if, s_let, s_case, s_new, s_method, s_pack, s_true, s_false] : List ByteArray) ps _ z1)) (q1 rMv (qN (AWP.ret ?_))))))))))))
  obtain rfl : _ = r := (smI H :)
  exact qe1

def sIsValidName_T (m : ByteArray → Option Bool) : Prop := ∀ (ps : ByteArray) (r : Bool), m ps = some r → AFun Try.prog 69 [pS ps] (pB r : PV)
def sIsValidName_F1 (fu : Nat) (ps : ByteArray) (x2 x5 : Bool) : Nat → Unit → Option (LR Unit Bool) :=
 fun i7 _ => gd (i7 < (ps).size)
 (sw (decide ((((bAt ps i7).toNat : Int) : Int) ≥ 97))
 (sw (!(decide ((((bAt ps i7).toNat : Int) : Int) ≤ 122)))
 (sw (decide ((((i7 : Nat) : Int) : Int) = 0))
 (some (.ret false))
 (sw (decide ((((bAt ps i7).toNat : Int) : Int) < 48))
 (some (.ret false))
 (sw (decide ((((bAt ps i7).toNat : Int) : Int) > 57))
 (some (.ret false))
 (some (.next ())))))
 (some (.next ())))
 (sw (decide ((((i7 : Nat) : Int) : Int) = 0))
 (some (.ret false))
 (sw (decide ((((bAt ps i7).toNat : Int) : Int) < 48))
 (some (.ret false))
 (sw (decide ((((bAt ps i7).toNat : Int) : Int) > 57))
 (some (.ret false))
 (some (.next ()))))))
def sIsValidName_R1 (fu : Nat) (ps : ByteArray) (x2 x5 : Bool) : Option (Bool ⊕ Unit) :=
 loopN (sIsValidName_F1 fu ps x2 x5) (ps.size - 0) 0 ()
def sIsValidName_M (fu : Nat) (ps : ByteArray) : Option Bool :=
 bd (sl1In_M fu ((ps.size : Nat) : Int) 1 8) (fun x2 =>
 sw (!(x2))
 (some false)
 (bd (sIsReserved_M fu ps) (fun x5 =>
 sw (x5)
 (some false)
 (so (sIsValidName_R1 fu ps x2 x5) (fun _ =>
 some true)))))
theorem sIsValidName_ok (fu : Nat)   : sIsValidName_T (sIsValidName_M fu) := by
  intro ps r H
  have H := hd0 H
  refine qI Try.func69 (fun C hC => ?_)
  refine qS (qR (q1 rMv (qN ?_)))
  iterate 2 refine qS ?_
  refine qR (q1 rMv (q1 (AOp.lenS rfl rfl rfl Try.underlying9) (bdE H fun x2 z1 H => (q1 (rCf Try.func101 (sl1In_ok fu ((ps.size : Nat) : Int) 1 8 _ z1)) (q1 rNo (q1 rMv ?_))))))
  refine spB 9 H (fun g3 H => ?_) fun g3 H => ?_
  · refine qk g3 (qk g3 (q1 (rPt g3) (qN (cndT rfl (qS (qR (q1 rMv (qN (AWP.ret ?_)))))))))
    obtain rfl : _ = r := (smI H :)
    exact qe1
  refine qg g3 rMv (bdE H fun x5 z4 H => (qg g3 (rCf Try.func102 (sIsReserved_ok fu ps _ z4)) (q1 (rPf g3) (qN ?_))))
  refine cndB H (fun h6 H => ?_) (fun h6 H => ?_)
  · refine qS (qR (q1 rMv (qN (AWP.ret ?_))))
    obtain rfl : _ = r := (smI H :)
    exact qe1
  refine AWP.skip ?_
  iterate 2 refine qS ?_
  refine qR (q1 rMv (qN ?_))
  refine szF 0 (fun hl8 => ?_)
  refine loopB (σ := Unit) (fun i7 _ => ⟨[(0, pS ps), (2, pB false), (3, pN i7)], ⟨[], []⟩⟩) (fun _ => ⟨[(2, pB false)], ⟨[], []⟩⟩) (soI H) ?_ ?_
  · rintro i7 ⟨⟩ H
    iterate 2 refine qS ?_
    refine qR ?_
    iterate 2 refine q1 rMv ?_
    refine q1 (AOp.lenS rfl rfl rfl Try.underlying9) (q1 rLt (qN ?_))
    refine cndL H (fun h9 h9l H => ?_) (fun h9 H => ?_)
    · have h9n : i7 < ps.size := by have := of_decide_eq_true h9; omega
      refine AWP.skip (qS (AWP.block (qS (qR ?_))))
      iterate 2 refine q1 rMv ?_
      refine gdE H fun z10 H => (q1 (AOp.indexS (k := i7) rfl rfl rfl rfl z10 Try.underlying9) (q1 rGe (q1 rMv ?_)))
      refine spB 23 H (fun g11 H => ?_) fun g11 H => ?_
      · refine qg g11 rMv (qg g11 rMv (qg g11 (AOp.indexS (k := i7) rfl rfl rfl rfl z10 Try.underlying9) (qg g11 rLe (q1 (rPt g11) (q1 rMv (qN (qS (qR (q1 rMv (q1 rNo (q1 rMv ?_)))))))))))
        refine spB 31 H (fun g12 H => ?_) fun g12 H => ?_
        · refine qg g12 rMv (qg g12 rEq (qg g12 rMv ?_))
          refine spB 34 H (fun g13 H => ?_) fun g13 H => ?_
          · refine qk g13 ?_
            iterate 3 refine qk g13 ?_
            refine qg g12 (rPt g13) (qg g12 rMv ?_)
            iterate 4 refine qk rfl ?_
            refine qg g12 (rPt rfl) (q1 (rPt g12) (qN (cndT rfl (qS (qR (q1 rMv (qN (AWP.ret ?_))))))))
            obtain rfl : _ = r := (lkR (smI H) :)
            exact qe1
          iterate 2 refine qg g13 rMv ?_
          refine qg g13 (AOp.indexS (k := i7) rfl rfl rfl rfl z10 Try.underlying9) (qg g13 rLt (qg g12 (rPf g13) (qg g12 rMv ?_)))
          refine spB 40 H (fun g14 H => ?_) fun g14 H => ?_
          · refine qk g14 ?_
            iterate 3 refine qk g14 ?_
            refine qg g12 (rPt g14) (q1 (rPt g12) (qN (cndT rfl (qS (qR (q1 rMv (qN (AWP.ret ?_))))))))
            obtain rfl : _ = r := (lkR (smI H) :)
            exact qe1
          iterate 2 refine qg g14 rMv ?_
          refine qg g14 (AOp.indexS (k := i7) rfl rfl rfl rfl z10 Try.underlying9) (qg g14 rGt (qg g12 (rPf g14) (q1 (rPt g12) (qN ?_))))
          refine cndB H (fun h15 H => ?_) (fun h15 H => ?_)
          · refine qS (qR (q1 rMv (qN (AWP.ret ?_))))
            obtain rfl : _ = r := (lkR (smI H) :)
            exact qe1
          refine AWP.skip (qR (q1 rMv (q1 (AOp.addI rfl rfl rfl rfl (c := ((i7 + 1 : Nat) : Int)) (by omega) (by omega)) (q1 rMv (qN ?_)))))
          exact lpN h9l ⟨_, (smI H :), wkA⟩
        iterate 3 refine qk g12 ?_
        iterate 4 refine qku ?_
        iterate 2 refine qk g12 ?_
        iterate 4 refine qku ?_
        refine qk g12 (q1 (rPf g12) (qN (cndF rfl (AWP.skip (qR (q1 rMv (q1 (AOp.addI rfl rfl rfl rfl (c := ((i7 + 1 : Nat) : Int)) (by omega) (by omega)) (q1 rMv (qN ?_)))))))))
        exact lpN h9l ⟨_, (smI H :), wkA⟩
      iterate 4 refine qk g11 ?_
      refine q1 (rPf g11) (q1 rMv (qN (qS (qR (q1 rMv (q1 rNo (q1 rMv (qg (congrArg (fun b => !b) (rfl : false = false)) rMv (qg (congrArg (fun b => !b) (rfl : false = false)) rEq (qg (congrArg (fun b => !b) (rfl : false = false)) rMv ?_))))))))))
      refine spB 34 H (fun g16 H => ?_) fun g16 H => ?_
      · refine qk g16 ?_
        iterate 3 refine qk g16 ?_
        refine qg (congrArg (fun b => !b) (rfl : false = false)) (rPt g16) (qg (congrArg (fun b => !b) (rfl : false = false)) rMv ?_)
        iterate 4 refine qk rfl ?_
        refine qg (congrArg (fun b => !b) (rfl : false = false)) (rPt rfl) (q1 (rPt (congrArg (fun b => !b) (rfl : false = false))) (qN (cndT rfl (qS (qR (q1 rMv (qN (AWP.ret ?_))))))))
        obtain rfl : _ = r := (lkR (smI H) :)
        exact qe1
      iterate 2 refine qg g16 rMv ?_
      refine qg g16 (AOp.indexS (k := i7) rfl rfl rfl rfl z10 Try.underlying9) (qg g16 rLt (qg (congrArg (fun b => !b) (rfl : false = false)) (rPf g16) (qg (congrArg (fun b => !b) (rfl : false = false)) rMv ?_)))
      refine spB 40 H (fun g17 H => ?_) fun g17 H => ?_
      · refine qk g17 ?_
        iterate 3 refine qk g17 ?_
        refine qg (congrArg (fun b => !b) (rfl : false = false)) (rPt g17) (q1 (rPt (congrArg (fun b => !b) (rfl : false = false))) (qN (cndT rfl (qS (qR (q1 rMv (qN (AWP.ret ?_))))))))
        obtain rfl : _ = r := (lkR (smI H) :)
        exact qe1
      iterate 2 refine qg g17 rMv ?_
      refine qg g17 (AOp.indexS (k := i7) rfl rfl rfl rfl z10 Try.underlying9) (qg g17 rGt (qg (congrArg (fun b => !b) (rfl : false = false)) (rPf g17) (q1 (rPt (congrArg (fun b => !b) (rfl : false = false))) (qN ?_))))
      refine cndB H (fun h18 H => ?_) (fun h18 H => ?_)
      · refine qS (qR (q1 rMv (qN (AWP.ret ?_))))
        obtain rfl : _ = r := (lkR (smI H) :)
        exact qe1
      refine AWP.skip (qR (q1 rMv (q1 (AOp.addI rfl rfl rfl rfl (c := ((i7 + 1 : Nat) : Int)) (by omega) (by omega)) (q1 rMv (qN ?_)))))
      exact lpN h9l ⟨_, (smI H :), wkA⟩
    refine AWP.exit ?_; exact lpX ⟨_, H, wkA⟩
  rintro ⟨⟩ H
  refine qS (qR (q1 rMv (qN (AWP.ret ?_))))
  obtain rfl : _ = r := (smI H :)
  exact qe1

abbrev sl4Left_Y := GType → Int → Option Int
def sl4Left_T (m : sl4Left_Y) : Prop := ∀ (pt : GType) (pleft : Int) (r : Int), m pt pleft = some r → AFun Try.prog 103 [(GType.pv pt), pI pleft] (pI r : PV)
def sl4Left_F1 (fu : Nat) (r_sl4Left : sl4Left_Y) (pt : GType) (pleft : Int) : Nat → Int → Option (LR Int Int) :=
 fun i1 v2 => sw (decide ((v2 : Int) ≥ 0))
 (bd (r_sl4Left (atD pt.gArgs i1) v2) (fun x7 =>
 some (.next x7)))
 (some (.brk v2))
def sl4Left_R1 (fu : Nat) (r_sl4Left : sl4Left_Y) (pt : GType) (pleft : Int) : Option (Int ⊕ Int) :=
 loopN (sl4Left_F1 fu r_sl4Left pt pleft) (pt.gArgs.length - 0) 0 (wrap64 (pleft - 1))
def sl4Left_G (fu : Nat) (r_sl4Left : sl4Left_Y) (pt : GType) (pleft : Int) : Option Int :=
 so (sl4Left_R1 fu r_sl4Left pt pleft) (fun v2 =>
 some v2)
theorem sl4Left_step (fu : Nat) (r_sl4Left : sl4Left_Y) (h_sl4Left : sl4Left_T r_sl4Left) : sl4Left_T (sl4Left_G fu r_sl4Left) := by
  intro pt pleft r H
  have H := hd0 H
  refine qI Try.func103 (fun C hC => ?_)
  refine qS (qR (q1 (rBx (cType pt)) (q1 rMv (qN (qS (qR (q1 rMv (q1 rSw (q1 rMv (qN ?_))))))))))
  iterate 2 refine qS ?_
  refine qR (q1 rMv (qN ?_))
  refine AWP.fact (box_lenN 0 2 rfl rfl rfl (GType.trs_len _)) (fun hl3 => ?_)
  refine loopB (σ := Int) (fun i1 v2 => ⟨[(1, pI v2), (2, .ptr 0 0), (4, pI 0), (5, pN i1)], ⟨[some ⟨27, cType pt⟩], []⟩⟩) (fun v2 => ⟨[(1, pI v2), (4, pI 0)], ⟨[some ⟨27, cType pt⟩], []⟩⟩) (soI H) ?_ ?_
  · rintro i1 v2 H
    iterate 2 refine qS ?_
    refine qR (q1 rMv (q1 (rFp fo27_2) (q1 (rL1 sh25) (q1 (rLn el25 (GType.trs_len _)) (q1 rLt (q1 rMv ?_))))))
    refine AL.splitB 13 rfl (fun g4 => ?_) (fun g4 => ?_)
    · have g4l := nat_lt_of2 g4
      have H := lnT g4l H
      have g4n := nat_lt_of g4
      refine qg g4 rMv (qg g4 rGe (q1 (rPt g4) (qN ?_)))
      refine cndB H (fun h5 H => ?_) (fun h5 H => ?_)
      · refine AWP.skip (qS (AWP.block (qR (q1 (rFp fo27_2) (q1 (rL1 sh25) (q1 rMv (q1 (rIx g4n el25) (q1 (rKe (GType.cs (atD pt.gArgs i1)) sh27) (q1 rMv (bdE H fun x7 z6 H => (q1 (rCf Try.func103 (h_sl4Left (atD pt.gArgs i1) v2 _ z6)) (q1 rMv (qN ?_)))))))))))))
        refine qR (q1 rMv (q1 (AOp.addI rfl rfl rfl rfl (c := ((i1 + 1 : Nat) : Int)) (by omega) (by omega)) (q1 rMv (qN ?_))))
        exact lpN g4l ⟨_, (smI H :), wkA⟩
      refine AWP.exit ?_; exact lpB ⟨_, (smI H :), wkA⟩
    have H := lnE (nat_ge_of2 g4) H
    iterate 2 refine qk g4 ?_
    refine q1 (rPf g4) (qN (cndF rfl (AWP.exit ?_)))
    exact lpX ⟨_, H, wkA⟩
  rintro v2 H
  refine qS (qR ?_)
  iterate 2 refine q1 rMv ?_
  refine qN (AWP.ret ?_)
  obtain rfl : _ = r := (smI H :)
  exact qe1
def sl4Left_M : Nat → GType → Int → Option Int
  | 0, _, _ => none
  | fu + 1, pt, pleft => sl4Left_G fu (sl4Left_M fu) pt pleft
theorem sl4Left_all (fu : Nat) : sl4Left_T (sl4Left_M fu) := by
  induction fu with
  | zero => exact (fun pt pleft r H => by simp only [sl4Left_M] at H; cases H)
  | succ fu ih => exact (fun pt pleft r H => by simp only [sl4Left_M] at H; exact sl4Left_step fu (sl4Left_M fu) ih pt pleft r H)
theorem sl4Left_ok (fu : Nat) : sl4Left_T (sl4Left_M fu) := (sl4Left_all fu)

def sl1Max_T (m : Int → Int → Option Int) : Prop := ∀ (pa : Int) (pb : Int) (r : Int), m pa pb = some r → AFun Try.prog 130 [pI pa, pI pb] (pI r : PV)
def sl1Max_M (fu : Nat) (pa pb : Int) : Option Int :=
 sw (decide ((pa : Int) > pb))
 (some pa)
 (some pb)
theorem sl1Max_ok (fu : Nat)   : sl1Max_T (sl1Max_M fu) := by
  intro pa pb r H
  have H := hd0 H
  refine qI Try.func130 (fun C hC => ?_)
  refine qS (qR (q1 rMv (qN ?_)))
  iterate 2 refine qS ?_
  refine qR ?_
  iterate 2 refine q1 rMv ?_
  refine q1 rGt (qN ?_)
  refine cndB H (fun h1 H => ?_) (fun h1 H => ?_)
  · refine qS (qR ?_)
    iterate 2 refine q1 rMv ?_
    refine qN (AWP.ret ?_)
    obtain rfl : _ = r := (smI H :)
    exact qe1
  refine AWP.skip (qS (qR ?_))
  iterate 2 refine q1 rMv ?_
  refine qN (AWP.ret ?_)
  obtain rfl : _ = r := (smI H :)
  exact qe1

abbrev sTypeDepth_Y := GType → Option Int
def sTypeDepth_T (m : sTypeDepth_Y) : Prop := ∀ (pt : GType) (r : Int), m pt = some r → AFun Try.prog 104 [(GType.pv pt)] (pI r : PV)
def sTypeDepth_F1 (fu : Nat) (r_sTypeDepth : sTypeDepth_Y) (pt : GType) : Nat → Int → Option (LR Int Int) :=
 fun i1 v2 => bd (r_sTypeDepth (atD pt.gArgs i1)) (fun x6 =>
 bd (sl1Max_M fu v2 (wrap64 (1 + x6))) (fun x8 =>
 some (.next x8)))
def sTypeDepth_R1 (fu : Nat) (r_sTypeDepth : sTypeDepth_Y) (pt : GType) : Option (Int ⊕ Int) :=
 loopN (sTypeDepth_F1 fu r_sTypeDepth pt) (pt.gArgs.length - 0) 0 0
def sTypeDepth_G (fu : Nat) (r_sTypeDepth : sTypeDepth_Y) (pt : GType) : Option Int :=
 so (sTypeDepth_R1 fu r_sTypeDepth pt) (fun v2 =>
 some v2)
theorem sTypeDepth_step (fu : Nat) (r_sTypeDepth : sTypeDepth_Y) (h_sTypeDepth : sTypeDepth_T r_sTypeDepth) : sTypeDepth_T (sTypeDepth_G fu r_sTypeDepth) := by
  intro pt r H
  have H := hd0 H
  refine qI Try.func104 (fun C hC => ?_)
  refine qS (qR (q1 (rBx (cType pt)) (q1 rMv (qN (qS (qR (q1 rMv (qN ?_))))))))
  iterate 2 refine qS ?_
  refine qR (q1 rMv (qN ?_))
  refine AWP.fact (box_lenN 0 2 rfl rfl rfl (GType.trs_len _)) (fun hl3 => ?_)
  refine loopB (σ := Int) (fun i1 v2 => ⟨[(1, .ptr 0 0), (2, pI 0), (3, pI v2), (4, pN i1)], ⟨[some ⟨27, cType pt⟩], []⟩⟩) (fun v2 => ⟨[(2, pI 0), (3, pI v2)], ⟨[some ⟨27, cType pt⟩], []⟩⟩) (soI H) ?_ ?_
  · rintro i1 v2 H
    iterate 2 refine qS ?_
    refine qR (q1 rMv (q1 (rFp fo27_2) (q1 (rL1 sh25) (q1 (rLn el25 (GType.trs_len _)) (q1 rLt (qN ?_))))))
    refine cndL H (fun h4 h4l H => ?_) (fun h4 H => ?_)
    · have h4n := nat_lt_of h4
      refine AWP.skip (qS (AWP.block (qR (q1 rMv (q1 (rFp fo27_2) (q1 (rL1 sh25) (q1 rMv (q1 (rIx h4n el25) (q1 (rKe (GType.cs (atD pt.gArgs i1)) sh27) (bdE H fun x6 z5 H => (q1 (rCf Try.func104 (h_sTypeDepth (atD pt.gArgs i1) _ z5)) (q1 rAw (bdE H fun x8 z7 H => ?_)))))))))))))
      refine q1 (rCf Try.func130 (sl1Max_ok fu v2 (wrap64 (1 + x6)) _ z7)) (q1 rMv (qN (qR (q1 rMv (q1 (AOp.addI rfl rfl rfl rfl (c := ((i1 + 1 : Nat) : Int)) (by omega) (by omega)) (q1 rMv (qN ?_)))))))
      exact lpN h4l ⟨_, (smI H :), wkA⟩
    refine AWP.exit ?_; exact lpX ⟨_, H, wkA⟩
  rintro v2 H
  refine qS (qR ?_)
  iterate 2 refine q1 rMv ?_
  refine qN (AWP.ret ?_)
  obtain rfl : _ = r := (smI H :)
  exact qe1
def sTypeDepth_M : Nat → GType → Option Int
  | 0, _ => none
  | fu + 1, pt => sTypeDepth_G fu (sTypeDepth_M fu) pt
theorem sTypeDepth_all (fu : Nat) : sTypeDepth_T (sTypeDepth_M fu) := by
  induction fu with
  | zero => exact (fun pt r H => by simp only [sTypeDepth_M] at H; cases H)
  | succ fu ih => exact (fun pt r H => by simp only [sTypeDepth_M] at H; exact sTypeDepth_step fu (sTypeDepth_M fu) ih pt r H)
theorem sTypeDepth_ok (fu : Nat) : sTypeDepth_T (sTypeDepth_M fu) := (sTypeDepth_all fu)

def sl4Base_T (m : ByteArray → Option Bool) : Prop := ∀ (ps : ByteArray) (r : Bool), m ps = some r → AFun Try.prog 131 [pS ps] (pB r : PV)
def sl4Base_M (fu : Nat) (ps : ByteArray) : Option Bool :=
 sw (decide (ps = s_int))
 (some true)
 (some (decide (ps = s_bool)))
theorem sl4Base_ok (fu : Nat)   : sl4Base_T (sl4Base_M fu) := by
  intro ps r H
  have H := hd0 H
  refine qI Try.func131 (fun C hC => ?_)
  refine qS (qR (q1 rMv (qN (qS (qR (q1 rMv (q1 rSe (q1 rMv ?_))))))))
  refine spB 5 H (fun g1 H => ?_) fun g1 H => ?_
  · refine qk g1 (qk g1 (q1 (rPt g1) (q1 rMv (qN (AWP.ret ?_)))))
    obtain rfl : _ = r := (smI H :)
    exact qe1
  refine qg g1 rMv (qg g1 rSe (q1 (rPf g1) (q1 rMv (qN (AWP.ret ?_)))))
  obtain rfl : _ = r := (smI H :)
  exact qe1

abbrev sl4Form_Y := GType → Option Bool
def sl4Form_T (m : sl4Form_Y) : Prop := ∀ (pa0 : GType) (r : Bool), m pa0 = some r → AFun Try.prog 105 [(GType.pv pa0)] (pB r : PV)
def sl4Form_C2 (fu : Nat) (r_sl4Form : sl4Form_Y) (pa0 : GType) (x2 : Bool) : Option ((Bool ⊕ Bool) ⊕ Bool) :=
 sw (decide ((pa0.gKind : Int) = 1))
 (some (.inr (decide ((pa0.gKind : Int) = 1))))
 (some (.inr (decide ((pa0.gKind : Int) = 4))))
def sl4Form_C1 (fu : Nat) (r_sl4Form : sl4Form_Y) (pa0 : GType) (x2 : Bool) : Option (Bool ⊕ Bool) :=
 so (sl4Form_C2 fu r_sl4Form pa0 x2) (fun v4 =>
 sw (v4)
 (sw (x2)
 (some (.inr (decide ((((pa0.gArgs.length : Nat) : Int) : Int) = 0))))
 (some (.inr false)))
 (sw (decide ((pa0.gKind : Int) = 3))
 (sw (x2)
 (some (.inr (decide ((((pa0.gArgs.length : Nat) : Int) : Int) = 1))))
 (some (.inr false)))
 (sw (decide ((pa0.gKind : Int) = 2))
 (sw (x2)
 (sw (decide ((((pa0.gArgs.length : Nat) : Int) : Int) ≤ 3))
 (some (.inr true))
 (bd (sl4Base_M fu pa0.gName) (fun x14 =>
 sw (x14)
 (some (.inr (decide ((((pa0.gArgs.length : Nat) : Int) : Int) = 0))))
 (some (.inr false)))))
 (bd (sl4Base_M fu pa0.gName) (fun x17 =>
 sw (x17)
 (some (.inr (decide ((((pa0.gArgs.length : Nat) : Int) : Int) = 0))))
 (some (.inr false)))))
 (some (.inl false)))))
def sl4Form_F3 (fu : Nat) (r_sl4Form : sl4Form_Y) (pa0 : GType) (x2 v3 : Bool) : Nat → Bool → Option (LR Bool Bool) :=
 fun i19 v20 => sw (v20)
 (bd (r_sl4Form (atD pa0.gArgs i19)) (fun x25 =>
 some (.next x25)))
 (some (.next false))
def sl4Form_R3 (fu : Nat) (r_sl4Form : sl4Form_Y) (pa0 : GType) (x2 v3 : Bool) : Option (Bool ⊕ Bool) :=
 loopN (sl4Form_F3 fu r_sl4Form pa0 x2 v3) (pa0.gArgs.length - 0) 0 v3
def sl4Form_G (fu : Nat) (r_sl4Form : sl4Form_Y) (pa0 : GType) : Option Bool :=
 bd (sIsValidName_M fu pa0.gName) (fun x2 =>
 so (sl4Form_C1 fu r_sl4Form pa0 x2) (fun v3 =>
 so (sl4Form_R3 fu r_sl4Form pa0 x2 v3) (fun v20 =>
 some v20)))
theorem sl4Form_step (fu : Nat) (r_sl4Form : sl4Form_Y) (h_sl4Form : sl4Form_T r_sl4Form) : sl4Form_T (sl4Form_G fu r_sl4Form) := by
  intro pa0 r H
  have H := hd0 H
  refine qI Try.func105 (fun C hC => ?_)
  refine qS (qR (q1 (rBx (cType pa0)) (q1 rMv (qN (qS (qR (q1 (rFp fo27_1) (q1 (rL1 sh9) (bdE H fun x2 z1 H => (q1 (rCf Try.func69 (sIsValidName_ok fu pa0.gName _ z1)) (q1 rMv (qN (qS ?_)))))))))))))
  refine cutB (σ := Bool) (fun v3 => ⟨[(1, .ptr 0 0), (2, pB false), (3, pB v3)], ⟨[some ⟨27, cType pa0⟩], []⟩⟩) (soI H) (fun H => ?_) ?_
  · refine qS (qR (q1 (rFp fo27_0) (q1 (rL1 sh3) (qN (AWP.block (qS ?_))))))
    refine cutB (σ := Bool) (fun v4 => ⟨[(1, .ptr 0 0), (2, pB false), (3, pB x2), (9, pI pa0.gKind), (10, pB v4)], ⟨[some ⟨27, cType pa0⟩], []⟩⟩) (soI H) (fun H => ?_) ?_
    · refine qS (qR (q1 rEq (q1 rMv (qN ?_))))
      refine cndB H (fun h5 H => ?_) (fun h5 H => ?_)
      · refine AWP.skip ?_; exact cutX ⟨_, (smI H :), wkA⟩
      refine qR (q1 rEq (q1 rMv (qN ?_)))
      exact cutX ⟨_, (smI H :), wkA⟩
    rintro v4 H
    refine cndB H (fun h6 H => ?_) (fun h6 H => ?_)
    · refine qR ?_
      iterate 2 refine q1 rMv ?_
      refine spB 14 H (fun g7 H => ?_) fun g7 H => ?_
      · refine qg g7 (rFp fo27_2) (qg g7 (rL1 sh25) (qg g7 (rLn el25 (GType.trs_len _)) (qg g7 rEq (q1 (rPt g7) (q1 rMv (qN ?_))))))
        exact cutX ⟨_, (smI H :), wkA⟩
      iterate 4 refine qk g7 ?_
      refine q1 (rPf g7) (q1 rMv (qN ?_))
      exact cutX ⟨_, (smI H :), wkA⟩
    refine qS (qR (q1 rEq (q1 rMv (qN ?_))))
    refine cndB H (fun h8 H => ?_) (fun h8 H => ?_)
    · refine qR ?_
      iterate 2 refine q1 rMv ?_
      refine spB 23 H (fun g9 H => ?_) fun g9 H => ?_
      · refine qg g9 (rFp fo27_2) (qg g9 (rL1 sh25) (qg g9 (rLn el25 (GType.trs_len _)) (qg g9 rEq (q1 (rPt g9) (q1 rMv (qN ?_))))))
        exact cutX ⟨_, (smI H :), wkA⟩
      iterate 4 refine qk g9 ?_
      refine q1 (rPf g9) (q1 rMv (qN ?_))
      exact cutX ⟨_, (smI H :), wkA⟩
    refine qS (qR (q1 rEq (q1 rMv (qN ?_))))
    refine cndB H (fun h10 H => ?_) (fun h10 H => ?_)
    · refine qR ?_
      iterate 2 refine q1 rMv ?_
      refine spB 32 H (fun g11 H => ?_) fun g11 H => ?_
      · refine qg g11 (rFp fo27_2) (qg g11 (rL1 sh25) (qg g11 (rLn el25 (GType.trs_len _)) (qg g11 rLe (q1 (rPt g11) (q1 rMv ?_)))))
        refine spB 38 H (fun g12 H => ?_) fun g12 H => ?_
        · refine qk g12 ?_
          iterate 3 refine qk g12 ?_
          iterate 4 refine qku ?_
          refine qk g12 (q1 (rPt g12) (q1 rMv (qN ?_)))
          exact cutX ⟨_, (smI H :), wkA⟩
        refine qg g12 (rFp fo27_1) (qg g12 (rL1 sh9) (bdE H fun x14 z13 H => (qg g12 (rCf Try.func131 (sl4Base_ok fu pa0.gName _ z13)) (qg g12 rMv ?_))))
        refine spB 42 H (fun g15 H => ?_) fun g15 H => ?_
        · refine qg g15 (rFp fo27_2) (qg g15 (rL1 sh25) (qg g15 (rLn el25 (GType.trs_len _)) (qg g15 rEq (qg g12 (rPt g15) (q1 (rPf g12) (q1 rMv (qN ?_)))))))
          exact cutX ⟨_, (smI H :), wkA⟩
        iterate 4 refine qk g15 ?_
        refine qg g12 (rPf g15) (q1 (rPf g12) (q1 rMv (qN ?_)))
        exact cutX ⟨_, (smI H :), wkA⟩
      iterate 4 refine qk g11 ?_
      refine q1 (rPf g11) (q1 rMv (qg rfl (rFp fo27_1) (qg rfl (rL1 sh9) (bdE H fun x17 z16 H => (qg rfl (rCf Try.func131 (sl4Base_ok fu pa0.gName _ z16)) (qg rfl rMv ?_))))))
      refine spB 42 H (fun g18 H => ?_) fun g18 H => ?_
      · refine qg g18 (rFp fo27_2) (qg g18 (rL1 sh25) (qg g18 (rLn el25 (GType.trs_len _)) (qg g18 rEq (qg rfl (rPt g18) (q1 (rPf rfl) (q1 rMv (qN ?_)))))))
        exact cutX ⟨_, (smI H :), wkA⟩
      iterate 4 refine qk g18 ?_
      refine qg rfl (rPf g18) (q1 (rPf rfl) (q1 rMv (qN ?_)))
      exact cutX ⟨_, (smI H :), wkA⟩
    refine qS (qR (q1 rMv (qN (AWP.ret ?_))))
    obtain rfl : _ = r := (skL (smI H) :)
    exact qe1
  rintro v3 H
  iterate 2 refine qS ?_
  refine qR (q1 rMv (qN ?_))
  refine AWP.fact (box_lenN 0 2 rfl rfl rfl (GType.trs_len _)) (fun hl21 => ?_)
  refine loopB (σ := Bool) (fun i19 v20 => ⟨[(1, .ptr 0 0), (2, pB false), (3, pB v20), (4, pN i19)], ⟨[some ⟨27, cType pa0⟩], []⟩⟩) (fun v20 => ⟨[(2, pB false), (3, pB v20)], ⟨[some ⟨27, cType pa0⟩], []⟩⟩) (soI H) ?_ ?_
  · rintro i19 v20 H
    iterate 2 refine qS ?_
    refine qR (q1 rMv (q1 (rFp fo27_2) (q1 (rL1 sh25) (q1 (rLn el25 (GType.trs_len _)) (q1 rLt (qN ?_))))))
    refine cndL H (fun h22 h22l H => ?_) (fun h22 H => ?_)
    · have h22n := nat_lt_of h22
      refine AWP.skip (qS (AWP.block (qR ?_)))
      iterate 2 refine q1 rMv ?_
      refine spB 57 H (fun g23 H => ?_) fun g23 H => ?_
      · refine qg g23 (rFp fo27_2) (qg g23 (rL1 sh25) (qg g23 rMv (qg g23 (rIx h22n el25) (qg g23 (rKe (GType.cs (atD pa0.gArgs i19)) sh27) (bdE H fun x25 z24 H => (qg g23 (rCf Try.func105 (h_sl4Form (atD pa0.gArgs i19) _ z24)) (q1 (rPt g23) (q1 rMv (qN (qR (q1 rMv (q1 (AOp.addI rfl rfl rfl rfl (c := ((i19 + 1 : Nat) : Int)) (by omega) (by omega)) (q1 rMv ?_)))))))))))))
        refine qN ?_; exact lpN h22l ⟨_, (smI H :), wkA⟩
      iterate 6 refine qk g23 ?_
      refine q1 (rPf g23) (q1 rMv (qN (qR (q1 rMv (q1 (AOp.addI rfl rfl rfl rfl (c := ((i19 + 1 : Nat) : Int)) (by omega) (by omega)) (q1 rMv (qN ?_)))))))
      exact lpN h22l ⟨_, (smI H :), wkA⟩
    refine AWP.exit ?_; exact lpX ⟨_, H, wkA⟩
  rintro v20 H
  refine qS (qR ?_)
  iterate 2 refine q1 rMv ?_
  refine qN (AWP.ret ?_)
  obtain rfl : _ = r := (smI H :)
  exact qe1
def sl4Form_M : Nat → GType → Option Bool
  | 0, _ => none
  | fu + 1, pa0 => sl4Form_G fu (sl4Form_M fu) pa0
theorem sl4Form_all (fu : Nat) : sl4Form_T (sl4Form_M fu) := by
  induction fu with
  | zero => exact (fun pa0 r H => by simp only [sl4Form_M] at H; cases H)
  | succ fu ih => exact (fun pa0 r H => by simp only [sl4Form_M] at H; exact sl4Form_step fu (sl4Form_M fu) ih pa0 r H)
theorem sl4Form_ok (fu : Nat) : sl4Form_T (sl4Form_M fu) := (sl4Form_all fu)

def sIsValidType_T (m : GType → Option Bool) : Prop := ∀ (pt : GType) (r : Bool), m pt = some r → AFun Try.prog 70 [(GType.pv pt)] (pB r : PV)
def sIsValidType_M (fu : Nat) (pt : GType) : Option Bool :=
 bd (sl4Left_M fu pt 60) (fun x2 =>
 sw (decide ((x2 : Int) ≥ 0))
 (bd (sTypeDepth_M fu pt) (fun x5 =>
 sw (decide ((x5 : Int) ≤ 6))
 (bd (sl4Form_M fu pt) (fun x8 =>
 some x8))
 (some false)))
 (some false))
theorem sIsValidType_ok (fu : Nat)   : sIsValidType_T (sIsValidType_M fu) := by
  intro pt r H
  have H := hd0 H
  refine qI Try.func70 (fun C hC => ?_)
  refine qS (qR (q1 (rBx (cType pt)) (q1 rMv (qN (qS (qR (q1 (rLp [pI pt.gKind, pS pt.gName, rType pt.gArgs] sh27) (bdE H fun x2 z1 H => (q1 (rCf Try.func103 (sl4Left_ok fu pt 60 _ z1)) (q1 rGe (q1 rMv ?_)))))))))))
  refine spB 6 H (fun g3 H => ?_) fun g3 H => ?_
  · refine qg g3 (rLp [pI pt.gKind, pS pt.gName, rType pt.gArgs] sh27) (bdE H fun x5 z4 H => (qg g3 (rCf Try.func104 (sTypeDepth_ok fu pt _ z4)) (qg g3 rLe (q1 (rPt g3) (q1 rMv ?_)))))
    refine spB 11 H (fun g6 H => ?_) fun g6 H => ?_
    · refine qg g6 (rLp [pI pt.gKind, pS pt.gName, rType pt.gArgs] sh27) (bdE H fun x8 z7 H => (qg g6 (rCf Try.func105 (sl4Form_ok fu pt _ z7)) (q1 (rPt g6) (q1 rMv (qN (AWP.ret ?_))))))
      obtain rfl : _ = r := (smI H :)
      exact qe1
    iterate 2 refine qk g6 ?_
    refine q1 (rPf g6) (q1 rMv (qN (AWP.ret ?_)))
    obtain rfl : _ = r := (smI H :)
    exact qe1
  iterate 3 refine qk g3 ?_
  refine q1 (rPf g3) (q1 rMv ?_)
  iterate 2 refine qk rfl ?_
  refine q1 (rPf rfl) (q1 rMv (qN (AWP.ret ?_)))
  obtain rfl : _ = r := (smI H :)
  exact qe1

def sIsValidBound_T (m : GBound → Option Bool) : Prop := ∀ (pb : GBound) (r : Bool), m pb = some r → AFun Try.prog 34 [(GBound.pv pb)] (pB r : PV)
def sIsValidBound_M (fu : Nat) (pb : GBound) : Option Bool :=
 bd (sIsValidName_M fu pb.gTrait) (fun x2 =>
 sw (x2)
 (bd (sIsValidType_M fu pb.gType) (fun x5 =>
 some x5))
 (some false))
theorem sIsValidBound_ok (fu : Nat)   : sIsValidBound_T (sIsValidBound_M fu) := by
  intro pb r H
  have H := hd0 H
  refine qI Try.func34 (fun C hC => ?_)
  refine qS (qR (q1 (rBx (cBound pb)) (q1 rMv (qN (qS (qR (q1 (rFp fo41_0) (q1 (rL1 sh9) (bdE H fun x2 z1 H => (q1 (rCf Try.func69 (sIsValidName_ok fu pb.gTrait _ z1)) (q1 rMv ?_)))))))))))
  refine spB 6 H (fun g3 H => ?_) fun g3 H => ?_
  · refine qg g3 (rFp fo41_1) (qg g3 (rLp [pI pb.gType.gKind, pS pb.gType.gName, rType pb.gType.gArgs] sh27) (bdE H fun x5 z4 H => (qg g3 (rCf Try.func70 (sIsValidType_ok fu pb.gType _ z4)) (q1 (rPt g3) (q1 rMv (qN (AWP.ret ?_)))))))
    obtain rfl : _ = r := (smI H :)
    exact qe1
  iterate 3 refine qk g3 ?_
  refine q1 (rPf g3) (q1 rMv (qN (AWP.ret ?_)))
  obtain rfl : _ = r := (smI H :)
  exact qe1

def sl2Atom_T (m : ByteArray → Option GSExpr) : Prop := ∀ (ps : ByteArray) (r : GSExpr), m ps = some r → AFun Try.prog 107 [pS ps] ((GSExpr.pv r) : PV)
def sl2Atom_M (fu : Nat) (ps : ByteArray) : Option GSExpr :=
 some (GSExpr.mk ps [])
theorem sl2Atom_ok (fu : Nat)   : sl2Atom_T (sl2Atom_M fu) := by
  intro ps r H
  have H := hd0 H
  refine qI Try.func107 (fun C hC => ?_)
  refine qS (qR (q1 (rAl zr73) (qN (qS (qR (q1 rMv (q1 (rBd zr73 pl73) (q1 (rSu sz73) (qN (AWP.ret ?_))))))))))
  obtain rfl : _ = r := (smI H :)
  exact qe1 (hr := ⟨⟨_, _, _, rfl, rfl, sh73, rfl, rfl⟩, trivial⟩)

def sl2List_T (m : (List GSExpr) → Option GSExpr) : Prop := ∀ (plist : List GSExpr) (r : GSExpr), m plist = some r → AOwn Try.prog 108 [rSExpr plist] ⟨[], []⟩ [] 73 2 (GSExpr.trs (r.gList)) (fun k => .agg [pS r.gAtom, aSExpr r.gList k])
theorem sl2List_pl {m : (List GSExpr) → Option GSExpr} (h : sl2List_T m) (plist : List GSExpr) (r : GSExpr) (H : m plist = some r) : AFun Try.prog 108 [rSExpr plist] ((GSExpr.pv r) : PV) := (h plist r H).plain (fun _ => leA) (hp := keep0n)
def sl2List_M (fu : Nat) (plist : List GSExpr) : Option GSExpr :=
 gd (([] : List GSExpr).length + (plist).length ≤ 68719476736)
 (some (GSExpr.mk s_ (([]) ++ plist)))
theorem sl2List_ok (fu : Nat)   : sl2List_T (sl2List_M fu) := by
  intro plist r H
  unfold AOwn
  have H := hd0 H
  refine qI Try.func108 (fun C hC => ?_)
  refine qS (qR (q1 (rAl zr73) (qN (qS (qR (q1 (rBa ([] : List GSExpr) el71 zr73) (q1 rMv (gdE H fun z1 H => (q1 (rAp z1 el71 ze71) (q1 (rBd zr73 pl73) (q1 (rSu sz73) (qN (AWP.ret ?_)))))))))))))
  obtain rfl : _ = r := (smI H :)
  exact qe1 (st' := ⟨[], [⟨73, 2, GSExpr.trs (([]) ++ plist), false⟩]⟩) ⟨0, rfl, rfl, rfl⟩ (hr := ⟨⟨_, _, _, rfl, rfl, sh73, rfl, rfl⟩, trivial⟩)

abbrev sl5Sx_Y := GType → Option GSExpr
def sl5Sx_T (m : sl5Sx_Y) : Prop := ∀ (pa0 : GType) (r : GSExpr), m pa0 = some r → AFun Try.prog 72 [(GType.pv pa0)] ((GSExpr.pv r) : PV)
def sl5Sx_C1 (fu : Nat) (r_sl5Sx : sl5Sx_Y) (pa0 : GType) : Option (GSExpr ⊕ Unit) :=
 sw (decide ((pa0.gKind : Int) = 1))
 (gd ((x_27).size + (pa0.gName).size ≤ 1099511627776)
 (bd (sl2Atom_M fu (x_27 ++ pa0.gName)) (fun x4 =>
 some (.inl x4))))
 (sw (decide ((pa0.gKind : Int) = 4))
 (bd (sl2Atom_M fu s_dyn) (fun x7 =>
 bd (sl2Atom_M fu pa0.gName) (fun x9 =>
 bd (sl2List_M fu ([x7, x9] : List GSExpr)) (fun x11 =>
 some (.inl x11)))))
 (sw (decide ((pa0.gKind : Int) = 2))
 (sw (decide ((((pa0.gArgs.length : Nat) : Int) : Int) = 0))
 (bd (sl2Atom_M fu pa0.gName) (fun x15 =>
 some (.inl x15)))
 (some (.inr ())))
 (some (.inr ()))))
def sl5Sx_C2 (fu : Nat) (r_sl5Sx : sl5Sx_Y) (pa0 : GType) : Option (GSExpr ⊕ ((List GSExpr))) :=
 sw (decide ((pa0.gKind : Int) = 3))
 (bd (sl2Atom_M fu s_assoc) (fun x20 =>
 gd (([] : List GSExpr).length + (([x20] : List GSExpr)).length ≤ 68719476736)
 (some (.inr (([]) ++ ([x20] : List GSExpr))))))
 (some (.inr ([])))
def sl5Sx_F3 (fu : Nat) (r_sl5Sx : sl5Sx_Y) (pa0 : GType) (v17 : List GSExpr) (x23 : GSExpr) : Nat → ((List GSExpr)) → Option (LR ((List GSExpr)) GSExpr) :=
 fun i25 v27 => bd (r_sl5Sx (atD pa0.gArgs i25)) (fun x31 =>
 gd ((v27).length + (([x31] : List GSExpr)).length ≤ 68719476736)
 (some (.next (v27 ++ ([x31] : List GSExpr)))))
def sl5Sx_R3 (fu : Nat) (r_sl5Sx : sl5Sx_Y) (pa0 : GType) (v17 : List GSExpr) (x23 : GSExpr) : Option (GSExpr ⊕ ((List GSExpr))) :=
 loopN (sl5Sx_F3 fu r_sl5Sx pa0 v17 x23) (pa0.gArgs.length - 0) 0 (v17 ++ ([x23] : List GSExpr))
def sl5Sx_G (fu : Nat) (r_sl5Sx : sl5Sx_Y) (pa0 : GType) : Option GSExpr :=
 so (sl5Sx_C1 fu r_sl5Sx pa0) (fun _ =>
 so (sl5Sx_C2 fu r_sl5Sx pa0) (fun v17 =>
 bd (sl2Atom_M fu pa0.gName) (fun x23 =>
 gd ((v17).length + (([x23] : List GSExpr)).length ≤ 68719476736)
 (so (sl5Sx_R3 fu r_sl5Sx pa0 v17 x23) (fun v27 =>
 some (GSExpr.mk s_ v27))))))
theorem sl5Sx_step (fu : Nat) (r_sl5Sx : sl5Sx_Y) (h_sl5Sx : sl5Sx_T r_sl5Sx) : sl5Sx_T (sl5Sx_G fu r_sl5Sx) := by
  intro pa0 r H
  have H := hd0 H
  refine qI Try.func72 (fun C hC => ?_)
  refine qS (qR (q1 (rBx (cType pa0)) (q1 (rAl zr73) (qN (qS ?_)))))
  refine cutB (σ := Unit) (fun _ => ⟨[(1, .ptr 0 0), (2, .ptr 1 0)], ⟨[some ⟨27, cType pa0⟩, some ⟨73, [pS s_, .nil]⟩], []⟩⟩) (soI H) (fun H => ?_) ?_
  · refine AWP.block (qS (qR (q1 (rFp fo27_0) (q1 (rL1 sh3) (q1 rEq (q1 rMv (qN ?_)))))))
    refine cndB H (fun h1 H => ?_) (fun h1 H => ?_)
    · refine qS (qR (q1 (rFp fo27_1) (q1 (rL1 sh9) (gdE H fun z2 H => (q1 (AOp.addS rfl rfl rfl rfl (Nat.le_trans z2 (by decide))) (bdE H fun x4 z3 H => (q1 (rCf Try.func107 (sl2Atom_ok fu (x_27 ++ pa0.gName) _ z3)) (q1 (rSu sz73) (qN (AWP.ret ?_))))))))))
      obtain rfl : _ = r := (skL (smI H) :)
      exact qe1 (hr := ⟨⟨_, _, _, rfl, rfl, sh73, rfl, rfl⟩, trivial⟩)
    refine qS (qR (q1 (rFp fo27_0) (q1 (rL1 sh3) (q1 rEq (q1 rMv (qN ?_))))))
    refine cndB H (fun h5 H => ?_) (fun h5 H => ?_)
    · refine qS (bdE H fun x7 z6 H => (bdE H fun x9 z8 H => (bdE H fun x11 z10 H => (dW (dI [] (rCf Try.func107 (sl2Atom_ok fu s_dyn _ z6)) (dI [1] (rFp fo27_1) (dD [18] (rL1 sh9) (dI [19] (rCf Try.func107 (sl2Atom_ok fu pa0.gName _ z8)) (dI [17, 20] (rBs ([x7, x9] : List GSExpr) el71 zr73) (dI [21] (rCf Try.func108 (sl2List_pl (sl2List_ok fu) ([x7, x9] : List GSExpr) _ z10)) (dE0 [2, 22] (rSu sz73) (dN (AWP.ret ?_)))))))))))))
      obtain rfl : _ = r := (skL (smI H) :)
      exact qe1 (hr := ⟨⟨_, _, _, rfl, rfl, sh73, rfl, rfl⟩, trivial⟩)
    refine qS (qR (q1 (rFp fo27_0) (q1 (rL1 sh3) (q1 rEq (q1 rMv ?_)))))
    refine spB 27 H (fun g12 H => ?_) fun g12 H => ?_
    · refine qg g12 (rFp fo27_2) (qg g12 (rL1 sh25) (qg g12 (rLn el25 (GType.trs_len _)) (qg g12 rEq (q1 (rPt g12) (q1 rMv (qN ?_))))))
      refine cndB H (fun h13 H => ?_) (fun h13 H => ?_)
      · refine qS (qR (q1 (rFp fo27_1) (q1 (rL1 sh9) (bdE H fun x15 z14 H => (q1 (rCf Try.func107 (sl2Atom_ok fu pa0.gName _ z14)) (q1 (rSu sz73) (qN (AWP.ret ?_))))))))
        obtain rfl : _ = r := (skL (smI H) :)
        exact qe1 (hr := ⟨⟨_, _, _, rfl, rfl, sh73, rfl, rfl⟩, trivial⟩)
      refine AWP.skip ?_; exact cutX ⟨_, (smI H :), wkA⟩
    iterate 4 refine qk g12 ?_
    refine q1 (rPf g12) (q1 rMv (qN (cndF rfl (AWP.skip ?_))))
    exact cutX ⟨_, (smI H :), wkA⟩
  rintro ⟨⟩ H
  refine qS (qR (q1 (rBd zr73 pl73) (q1 (rAl zr73) (q1 (rSu sz73) (qN (qS (AWP.wk (Wk.regBox (k := 2) (j := 1) 73 2 (by decide) rfl rfl) ?_)))))))
  refine cutB (σ := (List GSExpr)) (fun v17 => ⟨[(1, .ptr 0 0), (2, .ptr 1 0), (3, .ptr 2 0)], ⟨[some ⟨27, cType pa0⟩, some ⟨73, [pS s_, .nil]⟩, some ⟨73, [pS s_, aSExpr v17 0]⟩], [⟨73, 2, GSExpr.trs (v17), false⟩]⟩⟩) (soI H) (fun H => ?_) ?_
  · refine qS (qR (q1 (rFp fo27_0) (q1 (rL1 sh3) (q1 rEq (qN ?_)))))
    refine cndB H (fun h18 H => ?_) (fun h18 H => ?_)
    · refine bdE H fun x20 z19 H => (gdE H fun z21 H => (dW (dI [3] (rFp fo73_1) (dD [40] (rL1 sh71) (dI [] (rCf Try.func107 (sl2Atom_ok fu s_assoc _ z19)) (dI [42] (rBs ([x20] : List GSExpr) el71 zr73) (dE [41, 43] (rAp z21 el71 ze71) (dI [3] (rFp fo73_1) (dE0 [45, 44] (rSu sz71) (dN ?_))))))))))
      exact cutX ⟨_, (smI H :), wkA⟩
    refine AWP.skip ?_; exact cutX ⟨_, (smI H :), wkA⟩
  rintro v17 H
  refine qS (bdE H fun x23 z22 H => (gdE H fun z24 H => (dW (dI [3] (rFp fo73_1) (dD [46] (rL1 sh71) (dI [1] (rFp fo27_1) (dD [48] (rL1 sh9) (dI [49] (rCf Try.func107 (sl2Atom_ok fu pa0.gName _ z22)) (dI [50] (rBs ([x23] : List GSExpr) el71 zr73) (dE [47, 51] (rAp z24 el71 ze71) (dI [3] (rFp fo73_1) (dE0 [53, 52] (rSu sz71) (dN ?_)))))))))))))
  iterate 2 refine qS ?_
  refine qR (q1 rMv (qN ?_))
  refine AWP.fact (box_lenN 0 2 rfl rfl rfl (GType.trs_len _)) (fun hl28 => ?_)
  refine loopB (σ := (List GSExpr)) (fun i25 v27 => ⟨[(1, .ptr 0 0), (2, .ptr 1 0), (3, .ptr 2 0), (4, pN i25)], ⟨[some ⟨27, cType pa0⟩, some ⟨73, [pS s_, .nil]⟩, some ⟨73, [pS s_, aSExpr v27 0]⟩], [⟨73, 2, GSExpr.trs (v27), false⟩]⟩⟩) (fun v27 => ⟨[(2, .ptr 1 0), (3, .ptr 2 0)], ⟨[some ⟨27, cType pa0⟩, some ⟨73, [pS s_, .nil]⟩, some ⟨73, [pS s_, aSExpr v27 0]⟩], [⟨73, 2, GSExpr.trs (v27), false⟩]⟩⟩) (soI H) ?_ ?_
  · rintro i25 v27 H
    iterate 2 refine qS ?_
    refine qR (q1 rMv (q1 (rFp fo27_2) (q1 (rL1 sh25) (q1 (rLn el25 (GType.trs_len _)) (q1 rLt (qN ?_))))))
    refine cndL H (fun h29 h29l H => ?_) (fun h29 H => ?_)
    · have h29n := nat_lt_of h29
      refine AWP.skip (qS (AWP.block (bdE H fun x31 z30 H => (gdE H fun z32 H => (dW (dI [3] (rFp fo73_1) (dD [61] (rL1 sh71) (dI [1] (rFp fo27_2) (dD [63] (rL1 sh25) (dI [4] rMv (dI [64, 65] (rIx h29n el25) (dI [66] (rKe (GType.cs (atD pa0.gArgs i25)) sh27) (dI [67] (rCf Try.func72 (h_sl5Sx (atD pa0.gArgs i25) _ z30)) ?_)))))))))))))
      refine dI [68] (rBs ([x31] : List GSExpr) el71 zr73) (dE [62, 69] (rAp z32 el71 ze71) (dI [3] (rFp fo73_1) (dE0 [71, 70] (rSu sz71) (dN (qR (q1 rMv (q1 (AOp.addI rfl rfl rfl rfl (c := ((i25 + 1 : Nat) : Int)) (by omega) (by omega)) (q1 rMv (qN ?_)))))))))
      exact lpN h29l ⟨_, (smI H :), wkA⟩
    refine AWP.exit ?_; exact lpX ⟨_, H, wkA⟩
  rintro v27 H
  refine qS (qR (q1 (rLp [pS s_, aSExpr v27 0] sh73) (q1 (rSu sz73) (qN (AWP.ret ?_)))))
  obtain rfl : _ = r := (smI H :)
  exact qe1 (hr := ⟨⟨_, _, _, rfl, rfl, sh73, rfl, rfl⟩, trivial⟩)
def sl5Sx_M : Nat → GType → Option GSExpr
  | 0, _ => none
  | fu + 1, pa0 => sl5Sx_G fu (sl5Sx_M fu) pa0
theorem sl5Sx_all (fu : Nat) : sl5Sx_T (sl5Sx_M fu) := by
  induction fu with
  | zero => exact (fun pa0 r H => by simp only [sl5Sx_M] at H; cases H)
  | succ fu ih => exact (fun pa0 r H => by simp only [sl5Sx_M] at H; exact sl5Sx_step fu (sl5Sx_M fu) ih pa0 r H)
theorem sl5Sx_ok (fu : Nat) : sl5Sx_T (sl5Sx_M fu) := (sl5Sx_all fu)

abbrev sl2Left_Y := GSExpr → Int → Option Int
def sl2Left_T (m : sl2Left_Y) : Prop := ∀ (px : GSExpr) (pleft : Int) (r : Int), m px pleft = some r → AFun Try.prog 120 [(GSExpr.pv px), pI pleft] (pI r : PV)
def sl2Left_F1 (fu : Nat) (r_sl2Left : sl2Left_Y) (px : GSExpr) (pleft : Int) : Nat → Int → Option (LR Int Int) :=
 fun i1 v2 => sw (decide ((v2 : Int) ≥ 0))
 (bd (r_sl2Left (atD px.gList i1) v2) (fun x7 =>
 some (.next x7)))
 (some (.brk v2))
def sl2Left_R1 (fu : Nat) (r_sl2Left : sl2Left_Y) (px : GSExpr) (pleft : Int) : Option (Int ⊕ Int) :=
 loopN (sl2Left_F1 fu r_sl2Left px pleft) (px.gList.length - 0) 0 (wrap64 (pleft - 1))
def sl2Left_G (fu : Nat) (r_sl2Left : sl2Left_Y) (px : GSExpr) (pleft : Int) : Option Int :=
 so (sl2Left_R1 fu r_sl2Left px pleft) (fun v2 =>
 some v2)
theorem sl2Left_step (fu : Nat) (r_sl2Left : sl2Left_Y) (h_sl2Left : sl2Left_T r_sl2Left) : sl2Left_T (sl2Left_G fu r_sl2Left) := by
  intro px pleft r H
  have H := hd0 H
  refine qI Try.func120 (fun C hC => ?_)
  refine qS (qR (q1 (rBx ([pS px.gAtom, rSExpr px.gList])) (q1 rMv (qN (qS (qR (q1 rMv (q1 rSw (q1 rMv (qN ?_))))))))))
  iterate 2 refine qS ?_
  refine qR (q1 rMv (qN ?_))
  refine AWP.fact (box_lenN 0 1 rfl rfl rfl (GSExpr.trs_len _)) (fun hl3 => ?_)
  refine loopB (σ := Int) (fun i1 v2 => ⟨[(1, pI v2), (2, .ptr 0 0), (4, pI 0), (5, pN i1)], ⟨[some ⟨73, [pS px.gAtom, rSExpr px.gList]⟩], []⟩⟩) (fun v2 => ⟨[(1, pI v2), (4, pI 0)], ⟨[some ⟨73, [pS px.gAtom, rSExpr px.gList]⟩], []⟩⟩) (soI H) ?_ ?_
  · rintro i1 v2 H
    iterate 2 refine qS ?_
    refine qR (q1 rMv (q1 (rFp fo73_1) (q1 (rL1 sh71) (q1 (rLn el71 (GSExpr.trs_len _)) (q1 rLt (q1 rMv ?_))))))
    refine AL.splitB 13 rfl (fun g4 => ?_) (fun g4 => ?_)
    · have g4l := nat_lt_of2 g4
      have H := lnT g4l H
      have g4n := nat_lt_of g4
      refine qg g4 rMv (qg g4 rGe (q1 (rPt g4) (qN ?_)))
      refine cndB H (fun h5 H => ?_) (fun h5 H => ?_)
      · refine AWP.skip (qS (AWP.block (qR (q1 (rFp fo73_1) (q1 (rL1 sh71) (q1 rMv (q1 (rIx g4n el71) (q1 (rKe (GSExpr.cs (atD px.gList i1)) sh73) (q1 rMv (bdE H fun x7 z6 H => (q1 (rCf Try.func120 (h_sl2Left (atD px.gList i1) v2 _ z6)) (q1 rMv (qN ?_)))))))))))))
        refine qR (q1 rMv (q1 (AOp.addI rfl rfl rfl rfl (c := ((i1 + 1 : Nat) : Int)) (by omega) (by omega)) (q1 rMv (qN ?_))))
        exact lpN g4l ⟨_, (smI H :), wkA⟩
      refine AWP.exit ?_; exact lpB ⟨_, (smI H :), wkA⟩
    have H := lnE (nat_ge_of2 g4) H
    iterate 2 refine qk g4 ?_
    refine q1 (rPf g4) (qN (cndF rfl (AWP.exit ?_)))
    exact lpX ⟨_, H, wkA⟩
  rintro v2 H
  refine qS (qR ?_)
  iterate 2 refine q1 rMv ?_
  refine qN (AWP.ret ?_)
  obtain rfl : _ = r := (smI H :)
  exact qe1
def sl2Left_M : Nat → GSExpr → Int → Option Int
  | 0, _, _ => none
  | fu + 1, px, pleft => sl2Left_G fu (sl2Left_M fu) px pleft
theorem sl2Left_all (fu : Nat) : sl2Left_T (sl2Left_M fu) := by
  induction fu with
  | zero => exact (fun px pleft r H => by simp only [sl2Left_M] at H; cases H)
  | succ fu ih => exact (fun px pleft r H => by simp only [sl2Left_M] at H; exact sl2Left_step fu (sl2Left_M fu) ih px pleft r H)
theorem sl2Left_ok (fu : Nat) : sl2Left_T (sl2Left_M fu) := (sl2Left_all fu)

def sl2Byte_T (m : UInt8 → Option Bool) : Prop := ∀ (px : UInt8) (r : Bool), m px = some r → AFun Try.prog 119 [pU px] (pB r : PV)
def sl2Byte_M (fu : Nat) (px : UInt8) : Option Bool :=
 sw (decide (((px.toNat : Int) : Int) ≥ 97))
 (sw (decide (((px.toNat : Int) : Int) ≤ 122))
 (some true)
 (sw (decide (((px.toNat : Int) : Int) ≥ 48))
 (sw (decide (((px.toNat : Int) : Int) ≤ 57))
 (some true)
 (sw (decide (((px.toNat : Int) : Int) = 39))
 (some true)
 (sw (decide (((px.toNat : Int) : Int) = 45))
 (some true)
 (sw (decide (((px.toNat : Int) : Int) = 43))
 (some true)
 (sw (decide (((px.toNat : Int) : Int) = 42))
 (some true)
 (sw (decide (((px.toNat : Int) : Int) = 60))
 (some true)
 (sw (decide (((px.toNat : Int) : Int) = 61))
 (some true)
 (some (decide (((px.toNat : Int) : Int) = 46))))))))))
 (sw (decide (((px.toNat : Int) : Int) = 39))
 (some true)
 (sw (decide (((px.toNat : Int) : Int) = 45))
 (some true)
 (sw (decide (((px.toNat : Int) : Int) = 43))
 (some true)
 (sw (decide (((px.toNat : Int) : Int) = 42))
 (some true)
 (sw (decide (((px.toNat : Int) : Int) = 60))
 (some true)
 (sw (decide (((px.toNat : Int) : Int) = 61))
 (some true)
 (some (decide (((px.toNat : Int) : Int) = 46)))))))))))
 (sw (decide (((px.toNat : Int) : Int) ≥ 48))
 (sw (decide (((px.toNat : Int) : Int) ≤ 57))
 (some true)
 (sw (decide (((px.toNat : Int) : Int) = 39))
 (some true)
 (sw (decide (((px.toNat : Int) : Int) = 45))
 (some true)
 (sw (decide (((px.toNat : Int) : Int) = 43))
 (some true)
 (sw (decide (((px.toNat : Int) : Int) = 42))
 (some true)
 (sw (decide (((px.toNat : Int) : Int) = 60))
 (some true)
 (sw (decide (((px.toNat : Int) : Int) = 61))
 (some true)
 (some (decide (((px.toNat : Int) : Int) = 46))))))))))
 (sw (decide (((px.toNat : Int) : Int) = 39))
 (some true)
 (sw (decide (((px.toNat : Int) : Int) = 45))
 (some true)
 (sw (decide (((px.toNat : Int) : Int) = 43))
 (some true)
 (sw (decide (((px.toNat : Int) : Int) = 42))
 (some true)
 (sw (decide (((px.toNat : Int) : Int) = 60))
 (some true)
 (sw (decide (((px.toNat : Int) : Int) = 61))
 (some true)
 (some (decide (((px.toNat : Int) : Int) = 46))))))))))
theorem sl2Byte_ok (fu : Nat)   : sl2Byte_T (sl2Byte_M fu) := by
  intro px r H
  have H := hd0 H
  refine qI Try.func119 (fun C hC => ?_)
  refine qS (qR (q1 rMv (qN (qS (qR (q1 rMv (q1 rGe (q1 rMv ?_))))))))
  refine spB 5 H (fun g1 H => ?_) fun g1 H => ?_
  · refine qg g1 rMv (qg g1 rLe (q1 (rPt g1) (q1 rMv ?_)))
    refine spB 9 H (fun g2 H => ?_) fun g2 H => ?_
    · refine qk g2 ?_
      iterate 2 refine qk g2 ?_
      iterate 2 refine qku ?_
      refine qk g2 (q1 (rPt g2) (q1 rMv ?_))
      iterate 2 refine qk rfl ?_
      refine q1 (rPt rfl) (q1 rMv ?_)
      iterate 2 refine qk rfl ?_
      refine q1 (rPt rfl) (q1 rMv ?_)
      iterate 2 refine qk rfl ?_
      refine q1 (rPt rfl) (q1 rMv ?_)
      iterate 2 refine qk rfl ?_
      refine q1 (rPt rfl) (q1 rMv ?_)
      iterate 2 refine qk rfl ?_
      refine q1 (rPt rfl) (q1 rMv ?_)
      iterate 2 refine qk rfl ?_
      refine q1 (rPt rfl) (q1 rMv ?_)
      iterate 2 refine qk rfl ?_
      refine q1 (rPt rfl) (q1 rMv (qN (AWP.ret ?_)))
      obtain rfl : _ = r := (smI H :)
      exact qe1
    refine qg g2 rMv (qg g2 rGe (qg g2 rMv ?_))
    refine spB 12 H (fun g3 H => ?_) fun g3 H => ?_
    · refine qg g3 rMv (qg g3 rLe (qg g2 (rPt g3) (q1 (rPf g2) (q1 rMv ?_))))
      refine spB 17 H (fun g4 H => ?_) fun g4 H => ?_
      · refine qk g4 (qk g4 (q1 (rPt g4) (q1 rMv ?_)))
        iterate 2 refine qk rfl ?_
        refine q1 (rPt rfl) (q1 rMv ?_)
        iterate 2 refine qk rfl ?_
        refine q1 (rPt rfl) (q1 rMv ?_)
        iterate 2 refine qk rfl ?_
        refine q1 (rPt rfl) (q1 rMv ?_)
        iterate 2 refine qk rfl ?_
        refine q1 (rPt rfl) (q1 rMv ?_)
        iterate 2 refine qk rfl ?_
        refine q1 (rPt rfl) (q1 rMv ?_)
        iterate 2 refine qk rfl ?_
        refine q1 (rPt rfl) (q1 rMv (qN (AWP.ret ?_)))
        obtain rfl : _ = r := (smI H :)
        exact qe1
      refine qg g4 rMv (qg g4 rEq (q1 (rPf g4) (q1 rMv ?_)))
      refine spB 21 H (fun g5 H => ?_) fun g5 H => ?_
      · refine qk g5 (qk g5 (q1 (rPt g5) (q1 rMv ?_)))
        iterate 2 refine qk rfl ?_
        refine q1 (rPt rfl) (q1 rMv ?_)
        iterate 2 refine qk rfl ?_
        refine q1 (rPt rfl) (q1 rMv ?_)
        iterate 2 refine qk rfl ?_
        refine q1 (rPt rfl) (q1 rMv ?_)
        iterate 2 refine qk rfl ?_
        refine q1 (rPt rfl) (q1 rMv ?_)
        iterate 2 refine qk rfl ?_
        refine q1 (rPt rfl) (q1 rMv (qN (AWP.ret ?_)))
        obtain rfl : _ = r := (smI H :)
        exact qe1
      refine qg g5 rMv (qg g5 rEq (q1 (rPf g5) (q1 rMv ?_)))
      refine spB 25 H (fun g6 H => ?_) fun g6 H => ?_
      · refine qk g6 (qk g6 (q1 (rPt g6) (q1 rMv ?_)))
        iterate 2 refine qk rfl ?_
        refine q1 (rPt rfl) (q1 rMv ?_)
        iterate 2 refine qk rfl ?_
        refine q1 (rPt rfl) (q1 rMv ?_)
        iterate 2 refine qk rfl ?_
        refine q1 (rPt rfl) (q1 rMv ?_)
        iterate 2 refine qk rfl ?_
        refine q1 (rPt rfl) (q1 rMv (qN (AWP.ret ?_)))
        obtain rfl : _ = r := (smI H :)
        exact qe1
      refine qg g6 rMv (qg g6 rEq (q1 (rPf g6) (q1 rMv ?_)))
      refine spB 29 H (fun g7 H => ?_) fun g7 H => ?_
      · refine qk g7 (qk g7 (q1 (rPt g7) (q1 rMv ?_)))
        iterate 2 refine qk rfl ?_
        refine q1 (rPt rfl) (q1 rMv ?_)
        iterate 2 refine qk rfl ?_
        refine q1 (rPt rfl) (q1 rMv ?_)
        iterate 2 refine qk rfl ?_
        refine q1 (rPt rfl) (q1 rMv (qN (AWP.ret ?_)))
        obtain rfl : _ = r := (smI H :)
        exact qe1
      refine qg g7 rMv (qg g7 rEq (q1 (rPf g7) (q1 rMv ?_)))
      refine spB 33 H (fun g8 H => ?_) fun g8 H => ?_
      · refine qk g8 (qk g8 (q1 (rPt g8) (q1 rMv ?_)))
        iterate 2 refine qk rfl ?_
        refine q1 (rPt rfl) (q1 rMv ?_)
        iterate 2 refine qk rfl ?_
        refine q1 (rPt rfl) (q1 rMv (qN (AWP.ret ?_)))
        obtain rfl : _ = r := (smI H :)
        exact qe1
      refine qg g8 rMv (qg g8 rEq (q1 (rPf g8) (q1 rMv ?_)))
      refine spB 37 H (fun g9 H => ?_) fun g9 H => ?_
      · refine qk g9 (qk g9 (q1 (rPt g9) (q1 rMv ?_)))
        iterate 2 refine qk rfl ?_
        refine q1 (rPt rfl) (q1 rMv (qN (AWP.ret ?_)))
        obtain rfl : _ = r := (smI H :)
        exact qe1
      refine qg g9 rMv (qg g9 rEq (q1 (rPf g9) (q1 rMv ?_)))
      refine spB 41 H (fun g10 H => ?_) fun g10 H => ?_
      · refine qk g10 (qk g10 (q1 (rPt g10) (q1 rMv (qN (AWP.ret ?_)))))
        obtain rfl : _ = r := (smI H :)
        exact qe1
      refine qg g10 rMv (qg g10 rEq (q1 (rPf g10) (q1 rMv (qN (AWP.ret ?_)))))
      obtain rfl : _ = r := (smI H :)
      exact qe1
    iterate 2 refine qk g3 ?_
    refine qg g2 (rPf g3) (q1 (rPf g2) (q1 rMv (qg rfl rMv (qg rfl rEq (q1 (rPf rfl) (q1 rMv ?_))))))
    refine spB 21 H (fun g11 H => ?_) fun g11 H => ?_
    · refine qk g11 (qk g11 (q1 (rPt g11) (q1 rMv ?_)))
      iterate 2 refine qk rfl ?_
      refine q1 (rPt rfl) (q1 rMv ?_)
      iterate 2 refine qk rfl ?_
      refine q1 (rPt rfl) (q1 rMv ?_)
      iterate 2 refine qk rfl ?_
      refine q1 (rPt rfl) (q1 rMv ?_)
      iterate 2 refine qk rfl ?_
      refine q1 (rPt rfl) (q1 rMv ?_)
      iterate 2 refine qk rfl ?_
      refine q1 (rPt rfl) (q1 rMv (qN (AWP.ret ?_)))
      obtain rfl : _ = r := (smI H :)
      exact qe1
    refine qg g11 rMv (qg g11 rEq (q1 (rPf g11) (q1 rMv ?_)))
    refine spB 25 H (fun g12 H => ?_) fun g12 H => ?_
    · refine qk g12 (qk g12 (q1 (rPt g12) (q1 rMv ?_)))
      iterate 2 refine qk rfl ?_
      refine q1 (rPt rfl) (q1 rMv ?_)
      iterate 2 refine qk rfl ?_
      refine q1 (rPt rfl) (q1 rMv ?_)
      iterate 2 refine qk rfl ?_
      refine q1 (rPt rfl) (q1 rMv ?_)
      iterate 2 refine qk rfl ?_
      refine q1 (rPt rfl) (q1 rMv (qN (AWP.ret ?_)))
      obtain rfl : _ = r := (smI H :)
      exact qe1
    refine qg g12 rMv (qg g12 rEq (q1 (rPf g12) (q1 rMv ?_)))
    refine spB 29 H (fun g13 H => ?_) fun g13 H => ?_
    · refine qk g13 (qk g13 (q1 (rPt g13) (q1 rMv ?_)))
      iterate 2 refine qk rfl ?_
      refine q1 (rPt rfl) (q1 rMv ?_)
      iterate 2 refine qk rfl ?_
      refine q1 (rPt rfl) (q1 rMv ?_)
      iterate 2 refine qk rfl ?_
      refine q1 (rPt rfl) (q1 rMv (qN (AWP.ret ?_)))
      obtain rfl : _ = r := (smI H :)
      exact qe1
    refine qg g13 rMv (qg g13 rEq (q1 (rPf g13) (q1 rMv ?_)))
    refine spB 33 H (fun g14 H => ?_) fun g14 H => ?_
    · refine qk g14 (qk g14 (q1 (rPt g14) (q1 rMv ?_)))
      iterate 2 refine qk rfl ?_
      refine q1 (rPt rfl) (q1 rMv ?_)
      iterate 2 refine qk rfl ?_
      refine q1 (rPt rfl) (q1 rMv (qN (AWP.ret ?_)))
      obtain rfl : _ = r := (smI H :)
      exact qe1
    refine qg g14 rMv (qg g14 rEq (q1 (rPf g14) (q1 rMv ?_)))
    refine spB 37 H (fun g15 H => ?_) fun g15 H => ?_
    · refine qk g15 (qk g15 (q1 (rPt g15) (q1 rMv ?_)))
      iterate 2 refine qk rfl ?_
      refine q1 (rPt rfl) (q1 rMv (qN (AWP.ret ?_)))
      obtain rfl : _ = r := (smI H :)
      exact qe1
    refine qg g15 rMv (qg g15 rEq (q1 (rPf g15) (q1 rMv ?_)))
    refine spB 41 H (fun g16 H => ?_) fun g16 H => ?_
    · refine qk g16 (qk g16 (q1 (rPt g16) (q1 rMv (qN (AWP.ret ?_)))))
      obtain rfl : _ = r := (smI H :)
      exact qe1
    refine qg g16 rMv (qg g16 rEq (q1 (rPf g16) (q1 rMv (qN (AWP.ret ?_)))))
    obtain rfl : _ = r := (smI H :)
    exact qe1
  iterate 2 refine qk g1 ?_
  refine q1 (rPf g1) (q1 rMv (qg rfl rMv (qg rfl rGe (qg rfl rMv ?_))))
  refine spB 12 H (fun g17 H => ?_) fun g17 H => ?_
  · refine qg g17 rMv (qg g17 rLe (qg rfl (rPt g17) (q1 (rPf rfl) (q1 rMv ?_))))
    refine spB 17 H (fun g18 H => ?_) fun g18 H => ?_
    · refine qk g18 (qk g18 (q1 (rPt g18) (q1 rMv ?_)))
      iterate 2 refine qk rfl ?_
      refine q1 (rPt rfl) (q1 rMv ?_)
      iterate 2 refine qk rfl ?_
      refine q1 (rPt rfl) (q1 rMv ?_)
      iterate 2 refine qk rfl ?_
      refine q1 (rPt rfl) (q1 rMv ?_)
      iterate 2 refine qk rfl ?_
      refine q1 (rPt rfl) (q1 rMv ?_)
      iterate 2 refine qk rfl ?_
      refine q1 (rPt rfl) (q1 rMv ?_)
      iterate 2 refine qk rfl ?_
      refine q1 (rPt rfl) (q1 rMv (qN (AWP.ret ?_)))
      obtain rfl : _ = r := (smI H :)
      exact qe1
    refine qg g18 rMv (qg g18 rEq (q1 (rPf g18) (q1 rMv ?_)))
    refine spB 21 H (fun g19 H => ?_) fun g19 H => ?_
    · refine qk g19 (qk g19 (q1 (rPt g19) (q1 rMv ?_)))
      iterate 2 refine qk rfl ?_
      refine q1 (rPt rfl) (q1 rMv ?_)
      iterate 2 refine qk rfl ?_
      refine q1 (rPt rfl) (q1 rMv ?_)
      iterate 2 refine qk rfl ?_
      refine q1 (rPt rfl) (q1 rMv ?_)
      iterate 2 refine qk rfl ?_
      refine q1 (rPt rfl) (q1 rMv ?_)
      iterate 2 refine qk rfl ?_
      refine q1 (rPt rfl) (q1 rMv (qN (AWP.ret ?_)))
      obtain rfl : _ = r := (smI H :)
      exact qe1
    refine qg g19 rMv (qg g19 rEq (q1 (rPf g19) (q1 rMv ?_)))
    refine spB 25 H (fun g20 H => ?_) fun g20 H => ?_
    · refine qk g20 (qk g20 (q1 (rPt g20) (q1 rMv ?_)))
      iterate 2 refine qk rfl ?_
      refine q1 (rPt rfl) (q1 rMv ?_)
      iterate 2 refine qk rfl ?_
      refine q1 (rPt rfl) (q1 rMv ?_)
      iterate 2 refine qk rfl ?_
      refine q1 (rPt rfl) (q1 rMv ?_)
      iterate 2 refine qk rfl ?_
      refine q1 (rPt rfl) (q1 rMv (qN (AWP.ret ?_)))
      obtain rfl : _ = r := (smI H :)
      exact qe1
    refine qg g20 rMv (qg g20 rEq (q1 (rPf g20) (q1 rMv ?_)))
    refine spB 29 H (fun g21 H => ?_) fun g21 H => ?_
    · refine qk g21 (qk g21 (q1 (rPt g21) (q1 rMv ?_)))
      iterate 2 refine qk rfl ?_
      refine q1 (rPt rfl) (q1 rMv ?_)
      iterate 2 refine qk rfl ?_
      refine q1 (rPt rfl) (q1 rMv ?_)
      iterate 2 refine qk rfl ?_
      refine q1 (rPt rfl) (q1 rMv (qN (AWP.ret ?_)))
      obtain rfl : _ = r := (smI H :)
      exact qe1
    refine qg g21 rMv (qg g21 rEq (q1 (rPf g21) (q1 rMv ?_)))
    refine spB 33 H (fun g22 H => ?_) fun g22 H => ?_
    · refine qk g22 (qk g22 (q1 (rPt g22) (q1 rMv ?_)))
      iterate 2 refine qk rfl ?_
      refine q1 (rPt rfl) (q1 rMv ?_)
      iterate 2 refine qk rfl ?_
      refine q1 (rPt rfl) (q1 rMv (qN (AWP.ret ?_)))
      obtain rfl : _ = r := (smI H :)
      exact qe1
    refine qg g22 rMv (qg g22 rEq (q1 (rPf g22) (q1 rMv ?_)))
    refine spB 37 H (fun g23 H => ?_) fun g23 H => ?_
    · refine qk g23 (qk g23 (q1 (rPt g23) (q1 rMv ?_)))
      iterate 2 refine qk rfl ?_
      refine q1 (rPt rfl) (q1 rMv (qN (AWP.ret ?_)))
      obtain rfl : _ = r := (smI H :)
      exact qe1
    refine qg g23 rMv (qg g23 rEq (q1 (rPf g23) (q1 rMv ?_)))
    refine spB 41 H (fun g24 H => ?_) fun g24 H => ?_
    · refine qk g24 (qk g24 (q1 (rPt g24) (q1 rMv (qN (AWP.ret ?_)))))
      obtain rfl : _ = r := (smI H :)
      exact qe1
    refine qg g24 rMv (qg g24 rEq (q1 (rPf g24) (q1 rMv (qN (AWP.ret ?_)))))
    obtain rfl : _ = r := (smI H :)
    exact qe1
  iterate 2 refine qk g17 ?_
  refine qg rfl (rPf g17) (q1 (rPf rfl) (q1 rMv (qg rfl rMv (qg rfl rEq (q1 (rPf rfl) (q1 rMv ?_))))))
  refine spB 21 H (fun g25 H => ?_) fun g25 H => ?_
  · refine qk g25 (qk g25 (q1 (rPt g25) (q1 rMv ?_)))
    iterate 2 refine qk rfl ?_
    refine q1 (rPt rfl) (q1 rMv ?_)
    iterate 2 refine qk rfl ?_
    refine q1 (rPt rfl) (q1 rMv ?_)
    iterate 2 refine qk rfl ?_
    refine q1 (rPt rfl) (q1 rMv ?_)
    iterate 2 refine qk rfl ?_
    refine q1 (rPt rfl) (q1 rMv ?_)
    iterate 2 refine qk rfl ?_
    refine q1 (rPt rfl) (q1 rMv (qN (AWP.ret ?_)))
    obtain rfl : _ = r := (smI H :)
    exact qe1
  refine qg g25 rMv (qg g25 rEq (q1 (rPf g25) (q1 rMv ?_)))
  refine spB 25 H (fun g26 H => ?_) fun g26 H => ?_
  · refine qk g26 (qk g26 (q1 (rPt g26) (q1 rMv ?_)))
    iterate 2 refine qk rfl ?_
    refine q1 (rPt rfl) (q1 rMv ?_)
    iterate 2 refine qk rfl ?_
    refine q1 (rPt rfl) (q1 rMv ?_)
    iterate 2 refine qk rfl ?_
    refine q1 (rPt rfl) (q1 rMv ?_)
    iterate 2 refine qk rfl ?_
    refine q1 (rPt rfl) (q1 rMv (qN (AWP.ret ?_)))
    obtain rfl : _ = r := (smI H :)
    exact qe1
  refine qg g26 rMv (qg g26 rEq (q1 (rPf g26) (q1 rMv ?_)))
  refine spB 29 H (fun g27 H => ?_) fun g27 H => ?_
  · refine qk g27 (qk g27 (q1 (rPt g27) (q1 rMv ?_)))
    iterate 2 refine qk rfl ?_
    refine q1 (rPt rfl) (q1 rMv ?_)
    iterate 2 refine qk rfl ?_
    refine q1 (rPt rfl) (q1 rMv ?_)
    iterate 2 refine qk rfl ?_
    refine q1 (rPt rfl) (q1 rMv (qN (AWP.ret ?_)))
    obtain rfl : _ = r := (smI H :)
    exact qe1
  refine qg g27 rMv (qg g27 rEq (q1 (rPf g27) (q1 rMv ?_)))
  refine spB 33 H (fun g28 H => ?_) fun g28 H => ?_
  · refine qk g28 (qk g28 (q1 (rPt g28) (q1 rMv ?_)))
    iterate 2 refine qk rfl ?_
    refine q1 (rPt rfl) (q1 rMv ?_)
    iterate 2 refine qk rfl ?_
    refine q1 (rPt rfl) (q1 rMv (qN (AWP.ret ?_)))
    obtain rfl : _ = r := (smI H :)
    exact qe1
  refine qg g28 rMv (qg g28 rEq (q1 (rPf g28) (q1 rMv ?_)))
  refine spB 37 H (fun g29 H => ?_) fun g29 H => ?_
  · refine qk g29 (qk g29 (q1 (rPt g29) (q1 rMv ?_)))
    iterate 2 refine qk rfl ?_
    refine q1 (rPt rfl) (q1 rMv (qN (AWP.ret ?_)))
    obtain rfl : _ = r := (smI H :)
    exact qe1
  refine qg g29 rMv (qg g29 rEq (q1 (rPf g29) (q1 rMv ?_)))
  refine spB 41 H (fun g30 H => ?_) fun g30 H => ?_
  · refine qk g30 (qk g30 (q1 (rPt g30) (q1 rMv (qN (AWP.ret ?_)))))
    obtain rfl : _ = r := (smI H :)
    exact qe1
  refine qg g30 rMv (qg g30 rEq (q1 (rPf g30) (q1 rMv (qN (AWP.ret ?_)))))
  obtain rfl : _ = r := (smI H :)
  exact qe1

def sIsValidAtom_T (m : ByteArray → Option Bool) : Prop := ∀ (ps : ByteArray) (r : Bool), m ps = some r → AFun Try.prog 140 [pS ps] (pB r : PV)
def sIsValidAtom_F1 (fu : Nat) (ps : ByteArray) : Nat → Unit → Option (LR Unit Bool) :=
 fun i1 _ => gd (i1 < (ps).size)
 (bd (sl2Byte_M fu (bAt ps i1)) (fun x6 =>
 sw (!(x6))
 (some (.ret false))
 (some (.next ()))))
def sIsValidAtom_R1 (fu : Nat) (ps : ByteArray) : Option (Bool ⊕ Unit) :=
 loopN (sIsValidAtom_F1 fu ps) (ps.size - 0) 0 ()
def sIsValidAtom_M (fu : Nat) (ps : ByteArray) : Option Bool :=
 so (sIsValidAtom_R1 fu ps) (fun _ =>
 bd (sl1In_M fu ((ps.size : Nat) : Int) 1 12) (fun x9 =>
 some x9))
theorem sIsValidAtom_ok (fu : Nat)   : sIsValidAtom_T (sIsValidAtom_M fu) := by
  intro ps r H
  have H := hd0 H
  refine qI Try.func140 (fun C hC => ?_)
  refine qS (qR (q1 rMv (qN ?_)))
  iterate 2 refine qS ?_
  refine qR (q1 rMv (qN ?_))
  refine szF 0 (fun hl2 => ?_)
  refine loopB (σ := Unit) (fun i1 _ => ⟨[(0, pS ps), (2, pB false), (3, pN i1)], ⟨[], []⟩⟩) (fun _ => ⟨[(0, pS ps), (2, pB false)], ⟨[], []⟩⟩) (soI H) ?_ ?_
  · rintro i1 ⟨⟩ H
    iterate 2 refine qS ?_
    refine qR ?_
    iterate 2 refine q1 rMv ?_
    refine q1 (AOp.lenS rfl rfl rfl Try.underlying9) (q1 rLt (qN ?_))
    refine cndL H (fun h3 h3l H => ?_) (fun h3 H => ?_)
    · have h3n : i1 < ps.size := by have := of_decide_eq_true h3; omega
      refine AWP.skip (qS (AWP.block (qS (qR ?_))))
      iterate 2 refine q1 rMv ?_
      refine gdE H fun z4 H => (q1 (AOp.indexS (k := i1) rfl rfl rfl rfl z4 Try.underlying9) (bdE H fun x6 z5 H => (q1 (rCf Try.func119 (sl2Byte_ok fu (bAt ps i1) _ z5)) (q1 rNo (qN ?_)))))
      refine cndB H (fun h7 H => ?_) (fun h7 H => ?_)
      · refine qS (qR (q1 rMv (qN (AWP.ret ?_))))
        obtain rfl : _ = r := (lkR (smI H) :)
        exact qe1
      refine AWP.skip (qR (q1 rMv (q1 (AOp.addI rfl rfl rfl rfl (c := ((i1 + 1 : Nat) : Int)) (by omega) (by omega)) (q1 rMv (qN ?_)))))
      exact lpN h3l ⟨_, (smI H :), wkA⟩
    refine AWP.exit ?_; exact lpX ⟨_, H, wkA⟩
  rintro ⟨⟩ H
  refine qS (qR (q1 rMv (q1 (AOp.lenS rfl rfl rfl Try.underlying9) (bdE H fun x9 z8 H => (q1 (rCf Try.func101 (sl1In_ok fu ((ps.size : Nat) : Int) 1 12 _ z8)) (q1 rMv (qN (AWP.ret ?_))))))))
  obtain rfl : _ = r := (smI H :)
  exact qe1

abbrev sl2Form_Y := GSExpr → Option Bool
def sl2Form_T (m : sl2Form_Y) : Prop := ∀ (px : GSExpr) (r : Bool), m px = some r → AFun Try.prog 121 [(GSExpr.pv px)] (pB r : PV)
def sl2Form_F1 (fu : Nat) (r_sl2Form : sl2Form_Y) (px : GSExpr) : Nat → Unit → Option (LR Unit Bool) :=
 fun i5 _ => bd (r_sl2Form (atD px.gList i5)) (fun x9 =>
 sw (!(x9))
 (some (.ret false))
 (some (.next ())))
def sl2Form_R1 (fu : Nat) (r_sl2Form : sl2Form_Y) (px : GSExpr) : Option (Bool ⊕ Unit) :=
 loopN (sl2Form_F1 fu r_sl2Form px) (px.gList.length - 0) 0 ()
def sl2Form_G (fu : Nat) (r_sl2Form : sl2Form_Y) (px : GSExpr) : Option Bool :=
 sw (!decide (px.gAtom = s_))
 (bd (sIsValidAtom_M fu px.gAtom) (fun x3 =>
 sw (x3)
 (some (decide ((((px.gList.length : Nat) : Int) : Int) = 0)))
 (some false)))
 (so (sl2Form_R1 fu r_sl2Form px) (fun _ =>
 some true))
theorem sl2Form_step (fu : Nat) (r_sl2Form : sl2Form_Y) (h_sl2Form : sl2Form_T r_sl2Form) : sl2Form_T (sl2Form_G fu r_sl2Form) := by
  intro px r H
  have H := hd0 H
  refine qI Try.func121 (fun C hC => ?_)
  refine qS (qR (q1 (rBx ([pS px.gAtom, rSExpr px.gList])) (q1 rMv (qN ?_))))
  iterate 2 refine qS ?_
  refine qR (q1 (rFp fo73_0) (q1 (rL1 sh9) (q1 rSn (qN ?_))))
  refine cndB H (fun h1 H => ?_) (fun h1 H => ?_)
  · refine qS (qR (q1 (rFp fo73_0) (q1 (rL1 sh9) (bdE H fun x3 z2 H => (q1 (rCf Try.func140 (sIsValidAtom_ok fu px.gAtom _ z2)) (q1 rMv ?_))))))
    refine spB 10 H (fun g4 H => ?_) fun g4 H => ?_
    · refine qg g4 (rFp fo73_1) (qg g4 (rL1 sh71) (qg g4 (rLn el71 (GSExpr.trs_len _)) (qg g4 rEq (q1 (rPt g4) (q1 rMv (qN (AWP.ret ?_)))))))
      obtain rfl : _ = r := (smI H :)
      exact qe1
    iterate 4 refine qk g4 ?_
    refine q1 (rPf g4) (q1 rMv (qN (AWP.ret ?_)))
    obtain rfl : _ = r := (smI H :)
    exact qe1
  refine AWP.skip ?_
  iterate 2 refine qS ?_
  refine qR (q1 rMv (qN ?_))
  refine AWP.fact (box_lenN 0 1 rfl rfl rfl (GSExpr.trs_len _)) (fun hl6 => ?_)
  refine loopB (σ := Unit) (fun i5 _ => ⟨[(1, .ptr 0 0), (2, pB false), (3, pN i5)], ⟨[some ⟨73, [pS px.gAtom, rSExpr px.gList]⟩], []⟩⟩) (fun _ => ⟨[(2, pB false)], ⟨[some ⟨73, [pS px.gAtom, rSExpr px.gList]⟩], []⟩⟩) (soI H) ?_ ?_
  · rintro i5 ⟨⟩ H
    iterate 2 refine qS ?_
    refine qR (q1 rMv (q1 (rFp fo73_1) (q1 (rL1 sh71) (q1 (rLn el71 (GSExpr.trs_len _)) (q1 rLt (qN ?_))))))
    refine cndL H (fun h7 h7l H => ?_) (fun h7 H => ?_)
    · have h7n := nat_lt_of h7
      refine AWP.skip (qS (AWP.block (qS (qR (q1 (rFp fo73_1) (q1 (rL1 sh71) (q1 rMv (q1 (rIx h7n el71) (q1 (rKe (GSExpr.cs (atD px.gList i5)) sh73) (bdE H fun x9 z8 H => (q1 (rCf Try.func121 (h_sl2Form (atD px.gList i5) _ z8)) (q1 rNo (qN ?_)))))))))))))
      refine cndB H (fun h10 H => ?_) (fun h10 H => ?_)
      · refine qS (qR (q1 rMv (qN (AWP.ret ?_))))
        obtain rfl : _ = r := (lkR (smI H) :)
        exact qe1
      refine AWP.skip (qR (q1 rMv (q1 (AOp.addI rfl rfl rfl rfl (c := ((i5 + 1 : Nat) : Int)) (by omega) (by omega)) (q1 rMv (qN ?_)))))
      exact lpN h7l ⟨_, (smI H :), wkA⟩
    refine AWP.exit ?_; exact lpX ⟨_, H, wkA⟩
  rintro ⟨⟩ H
  refine qS (qR (q1 rMv (qN (AWP.ret ?_))))
  obtain rfl : _ = r := (smI H :)
  exact qe1
def sl2Form_M : Nat → GSExpr → Option Bool
  | 0, _ => none
  | fu + 1, px => sl2Form_G fu (sl2Form_M fu) px
theorem sl2Form_all (fu : Nat) : sl2Form_T (sl2Form_M fu) := by
  induction fu with
  | zero => exact (fun px r H => by simp only [sl2Form_M] at H; cases H)
  | succ fu ih => exact (fun px r H => by simp only [sl2Form_M] at H; exact sl2Form_step fu (sl2Form_M fu) ih px r H)
theorem sl2Form_ok (fu : Nat) : sl2Form_T (sl2Form_M fu) := (sl2Form_all fu)

abbrev sSExprDepth_Y := GSExpr → Option Int
def sSExprDepth_T (m : sSExprDepth_Y) : Prop := ∀ (px : GSExpr) (r : Int), m px = some r → AFun Try.prog 122 [(GSExpr.pv px)] (pI r : PV)
def sSExprDepth_F1 (fu : Nat) (r_sSExprDepth : sSExprDepth_Y) (px : GSExpr) : Nat → Int → Option (LR Int Int) :=
 fun i2 v3 => bd (r_sSExprDepth (atD px.gList i2)) (fun x7 =>
 bd (sl1Max_M fu v3 x7) (fun x9 =>
 some (.next x9)))
def sSExprDepth_R1 (fu : Nat) (r_sSExprDepth : sSExprDepth_Y) (px : GSExpr) : Option (Int ⊕ Int) :=
 loopN (sSExprDepth_F1 fu r_sSExprDepth px) (px.gList.length - 0) 0 0
def sSExprDepth_G (fu : Nat) (r_sSExprDepth : sSExprDepth_Y) (px : GSExpr) : Option Int :=
 sw (!decide (px.gAtom = s_))
 (some 0)
 (so (sSExprDepth_R1 fu r_sSExprDepth px) (fun v3 =>
 some (wrap64 (v3 + 1))))
theorem sSExprDepth_step (fu : Nat) (r_sSExprDepth : sSExprDepth_Y) (h_sSExprDepth : sSExprDepth_T r_sSExprDepth) : sSExprDepth_T (sSExprDepth_G fu r_sSExprDepth) := by
  intro px r H
  have H := hd0 H
  refine qI Try.func122 (fun C hC => ?_)
  refine qS (qR (q1 (rBx ([pS px.gAtom, rSExpr px.gList])) (q1 rMv (qN ?_))))
  iterate 2 refine qS ?_
  refine qR (q1 (rFp fo73_0) (q1 (rL1 sh9) (q1 rSn (qN ?_))))
  refine cndB H (fun h1 H => ?_) (fun h1 H => ?_)
  · refine qS (qR (q1 rMv (qN (AWP.ret ?_))))
    obtain rfl : _ = r := (smI H :)
    exact qe1
  refine AWP.skip (qS (qR (q1 rMv (qN ?_))))
  iterate 2 refine qS ?_
  refine qR (q1 rMv (qN ?_))
  refine AWP.fact (box_lenN 0 1 rfl rfl rfl (GSExpr.trs_len _)) (fun hl4 => ?_)
  refine loopB (σ := Int) (fun i2 v3 => ⟨[(1, .ptr 0 0), (2, pI 0), (3, pI v3), (4, pN i2)], ⟨[some ⟨73, [pS px.gAtom, rSExpr px.gList]⟩], []⟩⟩) (fun v3 => ⟨[(2, pI 0), (3, pI v3)], ⟨[some ⟨73, [pS px.gAtom, rSExpr px.gList]⟩], []⟩⟩) (soI H) ?_ ?_
  · rintro i2 v3 H
    iterate 2 refine qS ?_
    refine qR (q1 rMv (q1 (rFp fo73_1) (q1 (rL1 sh71) (q1 (rLn el71 (GSExpr.trs_len _)) (q1 rLt (qN ?_))))))
    refine cndL H (fun h5 h5l H => ?_) (fun h5 H => ?_)
    · have h5n := nat_lt_of h5
      refine AWP.skip (qS (AWP.block (qR (q1 rMv (q1 (rFp fo73_1) (q1 (rL1 sh71) (q1 rMv (q1 (rIx h5n el71) (q1 (rKe (GSExpr.cs (atD px.gList i2)) sh73) (bdE H fun x7 z6 H => (q1 (rCf Try.func122 (h_sSExprDepth (atD px.gList i2) _ z6)) (bdE H fun x9 z8 H => (q1 (rCf Try.func130 (sl1Max_ok fu v3 x7 _ z8)) ?_)))))))))))))
      refine q1 rMv (qN (qR (q1 rMv (q1 (AOp.addI rfl rfl rfl rfl (c := ((i2 + 1 : Nat) : Int)) (by omega) (by omega)) (q1 rMv (qN ?_))))))
      exact lpN h5l ⟨_, (smI H :), wkA⟩
    refine AWP.exit ?_; exact lpX ⟨_, H, wkA⟩
  rintro v3 H
  refine qS (qR (q1 rMv (q1 rAw (q1 rMv (qN (AWP.ret ?_))))))
  obtain rfl : _ = r := (smI H :)
  exact qe1
def sSExprDepth_M : Nat → GSExpr → Option Int
  | 0, _ => none
  | fu + 1, px => sSExprDepth_G fu (sSExprDepth_M fu) px
theorem sSExprDepth_all (fu : Nat) : sSExprDepth_T (sSExprDepth_M fu) := by
  induction fu with
  | zero => exact (fun px r H => by simp only [sSExprDepth_M] at H; cases H)
  | succ fu ih => exact (fun px r H => by simp only [sSExprDepth_M] at H; exact sSExprDepth_step fu (sSExprDepth_M fu) ih px r H)
theorem sSExprDepth_ok (fu : Nat) : sSExprDepth_T (sSExprDepth_M fu) := (sSExprDepth_all fu)

def sIsValidSExpr_T (m : GSExpr → Option Bool) : Prop := ∀ (px : GSExpr) (r : Bool), m px = some r → AFun Try.prog 83 [(GSExpr.pv px)] (pB r : PV)
def sIsValidSExpr_M (fu : Nat) (px : GSExpr) : Option Bool :=
 bd (sl2Left_M fu px 900) (fun x2 =>
 sw (decide ((x2 : Int) ≥ 0))
 (bd (sl2Form_M fu px) (fun x5 =>
 sw (x5)
 (bd (sSExprDepth_M fu px) (fun x8 =>
 some (decide ((x8 : Int) ≤ 14))))
 (some false)))
 (some false))
theorem sIsValidSExpr_ok (fu : Nat)   : sIsValidSExpr_T (sIsValidSExpr_M fu) := by
  intro px r H
  have H := hd0 H
  refine qI Try.func83 (fun C hC => ?_)
  refine qS (qR (q1 (rBx ([pS px.gAtom, rSExpr px.gList])) (q1 rMv (qN (qS (qR (q1 (rLp [pS px.gAtom, rSExpr px.gList] sh73) (bdE H fun x2 z1 H => (q1 (rCf Try.func120 (sl2Left_ok fu px 900 _ z1)) (q1 rGe (q1 rMv ?_)))))))))))
  refine spB 6 H (fun g3 H => ?_) fun g3 H => ?_
  · refine qg g3 (rLp [pS px.gAtom, rSExpr px.gList] sh73) (bdE H fun x5 z4 H => (qg g3 (rCf Try.func121 (sl2Form_ok fu px _ z4)) (q1 (rPt g3) (q1 rMv ?_))))
    refine spB 10 H (fun g6 H => ?_) fun g6 H => ?_
    · refine qg g6 (rLp [pS px.gAtom, rSExpr px.gList] sh73) (bdE H fun x8 z7 H => (qg g6 (rCf Try.func122 (sSExprDepth_ok fu px _ z7)) (qg g6 rLe (q1 (rPt g6) (q1 rMv (qN (AWP.ret ?_)))))))
      obtain rfl : _ = r := (smI H :)
      exact qe1
    iterate 3 refine qk g6 ?_
    refine q1 (rPf g6) (q1 rMv (qN (AWP.ret ?_)))
    obtain rfl : _ = r := (smI H :)
    exact qe1
  iterate 2 refine qk g3 ?_
  refine q1 (rPf g3) (q1 rMv ?_)
  iterate 3 refine qk rfl ?_
  refine q1 (rPf rfl) (q1 rMv (qN (AWP.ret ?_)))
  obtain rfl : _ = r := (smI H :)
  exact qe1

def sJoin_T (m : (List ByteArray) → ByteArray → Option ByteArray) : Prop := ∀ (plist : List ByteArray) (pby : ByteArray) (r : ByteArray), m plist pby = some r → AFun Try.prog 132 [rS plist, pS pby] (pS r : PV)
def sJoin_F1 (fu : Nat) (plist : List ByteArray) (pby : ByteArray) : Nat → ((List UInt8)) → Option (LR ((List UInt8)) ByteArray) :=
 fun i1 v3 => sw (decide ((((i1 : Nat) : Int) : Int) > 0))
 (gd ((v3).length + (pby.data.toList).length ≤ 68719476736)
 (gd ((v3 ++ pby.data.toList).length + ((atD plist i1).data.toList).length ≤ 68719476736)
 (some (.next ((v3 ++ pby.data.toList) ++ ((atD plist i1).data.toList))))))
 (gd ((v3).length + ((atD plist i1).data.toList).length ≤ 68719476736)
 (some (.next (v3 ++ ((atD plist i1).data.toList)))))
def sJoin_R1 (fu : Nat) (plist : List ByteArray) (pby : ByteArray) : Option (ByteArray ⊕ ((List UInt8))) :=
 loopN (sJoin_F1 fu plist pby) (plist.length - 0) 0 ([])
def sJoin_M (fu : Nat) (plist : List ByteArray) (pby : ByteArray) : Option ByteArray :=
 so (sJoin_R1 fu plist pby) (fun v3 =>
 some (bytesStr v3))
theorem sJoin_ok (fu : Nat)   : sJoin_T (sJoin_M fu) := by
  intro plist pby r H
  have H := hd0 H
  refine qI Try.func132 (fun C hC => ?_)
  refine qS (qR (q1 rMv (qN (qS (qR (q1 (rBa ([] : List UInt8) el22 zr5) (q1 rMv (qN ?_))))))))
  iterate 2 refine qS ?_
  refine qR (q1 rMv (qN ?_))
  refine lenF 0 (strTrs_len _) (fun hl4 => ?_)
  refine loopB (σ := (List UInt8)) (fun i1 v3 => ⟨[(0, rS plist), (1, pS pby), (4, pS s_), (5, aU v3 0), (6, pN i1)], ⟨[], [⟨5, 1, byteTrs (v3), false⟩]⟩⟩) (fun v3 => ⟨[(4, pS s_), (5, aU v3 0)], ⟨[], [⟨5, 1, byteTrs (v3), false⟩]⟩⟩) (soI H) ?_ ?_
  · rintro i1 v3 H
    iterate 2 refine qS ?_
    refine qR ?_
    iterate 2 refine q1 rMv ?_
    refine q1 (rLn el24 (strTrs_len _)) (q1 rLt (qN ?_))
    refine cndL H (fun h5 h5l H => ?_) (fun h5 H => ?_)
    · have h5n := nat_lt_of h5
      refine AWP.skip (qS (AWP.block ?_))
      iterate 2 refine qS ?_
      refine qR (q1 rMv (q1 rGt (qN ?_)))
      refine cndB H (fun h6 H => ?_) (fun h6 H => ?_)
      · refine qR ?_
        iterate 2 refine q1 rMv ?_
        refine gdE H fun z7 H => ?_; refine q1 (AOp.appendStr (es3 := byteTrs (v3 ++ pby.data.toList)) rfl rfl rfl rfl rfl rfl rfl rfl rfl el22 Try.underlying9 ze22 (by decide) (by rw [byteTrs_len]; exact room_le z7 (by decide)) (byteTrs_append _ _)) ?_; refine q1 rMv (qN (qR ?_))
        iterate 3 refine q1 rMv ?_
        refine q1 (rIx h5n el24) (q1 (rK1 sh9) (gdE H fun z8 H => ?_))
        refine q1 (AOp.appendStr (es3 := byteTrs ((v3 ++ pby.data.toList) ++ ((atD plist i1).data.toList))) rfl rfl rfl rfl rfl rfl rfl rfl rfl el22 Try.underlying9 ze22 (by decide) (by rw [byteTrs_len]; exact room_le z8 (by decide)) (byteTrs_append _ _)) ?_; refine q1 rMv (qN (qR (q1 rMv (q1 (AOp.addI rfl rfl rfl rfl (c := ((i1 + 1 : Nat) : Int)) (by omega) (by omega)) (q1 rMv (qN ?_))))))
        exact lpN h5l ⟨_, (smI H :), wkA⟩
      refine AWP.skip (qR ?_)
      iterate 3 refine q1 rMv ?_
      refine q1 (rIx h5n el24) (q1 (rK1 sh9) (gdE H fun z9 H => ?_))
      refine q1 (AOp.appendStr (es3 := byteTrs (v3 ++ ((atD plist i1).data.toList))) rfl rfl rfl rfl rfl rfl rfl rfl rfl el22 Try.underlying9 ze22 (by decide) (by rw [byteTrs_len]; exact room_le z9 (by decide)) (byteTrs_append _ _)) ?_; refine q1 rMv (qN (qR (q1 rMv (q1 (AOp.addI rfl rfl rfl rfl (c := ((i1 + 1 : Nat) : Int)) (by omega) (by omega)) (q1 rMv (qN ?_))))))
      exact lpN h5l ⟨_, (smI H :), wkA⟩
    refine AWP.exit ?_; exact lpX ⟨_, H, wkA⟩
  rintro v3 H
  refine qS (qR (q1 rMv (q1 (AOp.bytesStr rfl rfl rfl rfl Try.underlying22 Try.underlying5 Try.underlying9) (q1 rMv (qN (AWP.ret ?_))))))
  obtain rfl : _ = r := (smI H :)
  exact qe1

abbrev sl2Text_Y := GSExpr → Option ByteArray
def sl2Text_T (m : sl2Text_Y) : Prop := ∀ (px : GSExpr) (r : ByteArray), m px = some r → AFun Try.prog 106 [(GSExpr.pv px)] (pS r : PV)
def sl2Text_F1 (fu : Nat) (r_sl2Text : sl2Text_Y) (px : GSExpr) : Nat → ((List ByteArray)) → Option (LR ((List ByteArray)) ByteArray) :=
 fun i2 v4 => bd (r_sl2Text (atD px.gList i2)) (fun x8 =>
 gd ((v4).length + (([x8] : List ByteArray)).length ≤ 68719476736)
 (some (.next (v4 ++ ([x8] : List ByteArray)))))
def sl2Text_R1 (fu : Nat) (r_sl2Text : sl2Text_Y) (px : GSExpr) : Option (ByteArray ⊕ ((List ByteArray))) :=
 loopN (sl2Text_F1 fu r_sl2Text px) (px.gList.length - 0) 0 ([])
def sl2Text_G (fu : Nat) (r_sl2Text : sl2Text_Y) (px : GSExpr) : Option ByteArray :=
 sw (!decide (px.gAtom = s_))
 (some px.gAtom)
 (so (sl2Text_R1 fu r_sl2Text px) (fun v4 =>
 bd (sJoin_M fu v4 x_20) (fun x11 =>
 gd ((x_28).size + (x11).size ≤ 1099511627776)
 (gd ((x_28 ++ x11).size + (x_29).size ≤ 1099511627776)
 (some ((x_28 ++ x11) ++ x_29))))))
theorem sl2Text_step (fu : Nat) (r_sl2Text : sl2Text_Y) (h_sl2Text : sl2Text_T r_sl2Text) : sl2Text_T (sl2Text_G fu r_sl2Text) := by
  intro px r H
  have H := hd0 H
  refine qI Try.func106 (fun C hC => ?_)
  refine qS (qR (q1 (rBx ([pS px.gAtom, rSExpr px.gList])) (q1 rMv (qN ?_))))
  iterate 2 refine qS ?_
  refine qR (q1 (rFp fo73_0) (q1 (rL1 sh9) (q1 rSn (qN ?_))))
  refine cndB H (fun h1 H => ?_) (fun h1 H => ?_)
  · refine qS (qR (q1 (rFp fo73_0) (q1 (rL1 sh9) (q1 rMv (qN (AWP.ret ?_))))))
    obtain rfl : _ = r := (smI H :)
    exact qe1
  refine AWP.skip (qS (qR (q1 (rBa ([] : List ByteArray) el24 zr9) (q1 rMv (qN ?_)))))
  iterate 2 refine qS ?_
  refine qR (q1 rMv (qN ?_))
  refine AWP.fact (box_lenN 0 1 rfl rfl rfl (GSExpr.trs_len _)) (fun hl5 => ?_)
  refine loopB (σ := (List ByteArray)) (fun i2 v4 => ⟨[(1, .ptr 0 0), (2, pS s_), (3, aS v4 0), (4, pN i2)], ⟨[some ⟨73, [pS px.gAtom, rSExpr px.gList]⟩], [⟨9, 1, strTrs (v4), false⟩]⟩⟩) (fun v4 => ⟨[(2, pS s_), (3, aS v4 0)], ⟨[some ⟨73, [pS px.gAtom, rSExpr px.gList]⟩], [⟨9, 1, strTrs (v4), false⟩]⟩⟩) (soI H) ?_ ?_
  · rintro i2 v4 H
    iterate 2 refine qS ?_
    refine qR (q1 rMv (q1 (rFp fo73_1) (q1 (rL1 sh71) (q1 (rLn el71 (GSExpr.trs_len _)) (q1 rLt (qN ?_))))))
    refine cndL H (fun h6 h6l H => ?_) (fun h6 H => ?_)
    · have h6n := nat_lt_of h6
      refine AWP.skip (qS (AWP.block (qR (q1 rMv (q1 (rFp fo73_1) (q1 (rL1 sh71) (q1 rMv (q1 (rIx h6n el71) (q1 (rKe (GSExpr.cs (atD px.gList i2)) sh73) (bdE H fun x8 z7 H => (q1 (rCf Try.func106 (h_sl2Text (atD px.gList i2) _ z7)) (q1 (rBs ([x8] : List ByteArray) el24 zr9) (gdE H fun z9 H => ?_)))))))))))))
      refine q1 (rAp z9 el24 ze24) (q1 rMv (qN (qR (q1 rMv (q1 (AOp.addI rfl rfl rfl rfl (c := ((i2 + 1 : Nat) : Int)) (by omega) (by omega)) (q1 rMv (qN ?_)))))))
      exact lpN h6l ⟨_, (smI H :), wkA⟩
    refine AWP.exit ?_; exact lpX ⟨_, H, wkA⟩
  rintro v4 H
  refine qS (qR (q1 rMv (bdE H fun x11 z10 H => (q1 (rCf Try.func132 (sJoin_ok fu v4 x_20 _ z10)) (gdE H fun z12 H => (q1 (AOp.addS rfl rfl rfl rfl (Nat.le_trans z12 (by decide))) (gdE H fun z13 H => (q1 (AOp.addS rfl rfl rfl rfl (Nat.le_trans z13 (by decide))) (q1 rMv (qN (AWP.ret ?_)))))))))))
  obtain rfl : _ = r := (smI H :)
  exact qe1
def sl2Text_M : Nat → GSExpr → Option ByteArray
  | 0, _ => none
  | fu + 1, px => sl2Text_G fu (sl2Text_M fu) px
theorem sl2Text_all (fu : Nat) : sl2Text_T (sl2Text_M fu) := by
  induction fu with
  | zero => exact (fun px r H => by simp only [sl2Text_M] at H; cases H)
  | succ fu ih => exact (fun px r H => by simp only [sl2Text_M] at H; exact sl2Text_step fu (sl2Text_M fu) ih px r H)
theorem sl2Text_ok (fu : Nat) : sl2Text_T (sl2Text_M fu) := (sl2Text_all fu)

def sFormatSExpr_T (m : GSExpr → Option ByteArray) : Prop := ∀ (px : GSExpr) (r : ByteArray), m px = some r → AFun Try.prog 71 [(GSExpr.pv px)] (pS r : PV)
def sFormatSExpr_M (fu : Nat) (px : GSExpr) : Option ByteArray :=
 bd (sIsValidSExpr_M fu px) (fun x2 =>
 sw (!(x2))
 (some s_)
 (bd (sl2Text_M fu px) (fun x5 =>
 some x5)))
theorem sFormatSExpr_ok (fu : Nat)   : sFormatSExpr_T (sFormatSExpr_M fu) := by
  intro px r H
  have H := hd0 H
  refine qI Try.func71 (fun C hC => ?_)
  refine qS (qR (q1 (rBx ([pS px.gAtom, rSExpr px.gList])) (q1 rMv (qN ?_))))
  iterate 2 refine qS ?_
  refine qR (q1 (rLp [pS px.gAtom, rSExpr px.gList] sh73) (bdE H fun x2 z1 H => (q1 (rCf Try.func83 (sIsValidSExpr_ok fu px _ z1)) (q1 rNo (qN ?_)))))
  refine cndB H (fun h3 H => ?_) (fun h3 H => ?_)
  · refine qS (qR (q1 rMv (qN (AWP.ret ?_))))
    obtain rfl : _ = r := (smI H :)
    exact qe1
  refine AWP.skip (qS (qR (q1 (rLp [pS px.gAtom, rSExpr px.gList] sh73) (bdE H fun x5 z4 H => (q1 (rCf Try.func106 (sl2Text_ok fu px _ z4)) (q1 rMv (qN (AWP.ret ?_))))))))
  obtain rfl : _ = r := (smI H :)
  exact qe1

def sFormatType_T (m : GType → Option ByteArray) : Prop := ∀ (pt : GType) (r : ByteArray), m pt = some r → AFun Try.prog 35 [(GType.pv pt)] (pS r : PV)
def sFormatType_M (fu : Nat) (pt : GType) : Option ByteArray :=
 bd (sIsValidType_M fu pt) (fun x2 =>
 sw (!(x2))
 (some s_)
 (bd (sl5Sx_M fu pt) (fun x5 =>
 bd (sFormatSExpr_M fu x5) (fun x7 =>
 some x7))))
theorem sFormatType_ok (fu : Nat)   : sFormatType_T (sFormatType_M fu) := by
  intro pt r H
  have H := hd0 H
  refine qI Try.func35 (fun C hC => ?_)
  refine qS (qR (q1 (rBx (cType pt)) (q1 rMv (qN ?_))))
  iterate 2 refine qS ?_
  refine qR (q1 (rLp [pI pt.gKind, pS pt.gName, rType pt.gArgs] sh27) (bdE H fun x2 z1 H => (q1 (rCf Try.func70 (sIsValidType_ok fu pt _ z1)) (q1 rNo (qN ?_)))))
  refine cndB H (fun h3 H => ?_) (fun h3 H => ?_)
  · refine qS (qR (q1 rMv (qN (AWP.ret ?_))))
    obtain rfl : _ = r := (smI H :)
    exact qe1
  refine AWP.skip (qS (qR (q1 (rLp [pI pt.gKind, pS pt.gName, rType pt.gArgs] sh27) (bdE H fun x5 z4 H => (q1 (rCf Try.func72 (sl5Sx_ok fu pt _ z4)) (bdE H fun x7 z6 H => (q1 (rCf Try.func71 (sFormatSExpr_ok fu x5 _ z6)) (q1 rMv (qN (AWP.ret ?_))))))))))
  obtain rfl : _ = r := (smI H :)
  exact qe1

def sFormatGoal_T (m : GBound → Option ByteArray) : Prop := ∀ (pb : GBound) (r : ByteArray), m pb = some r → AFun Try.prog 15 [(GBound.pv pb)] (pS r : PV)
def sFormatGoal_M (fu : Nat) (pb : GBound) : Option ByteArray :=
 bd (sIsValidBound_M fu pb) (fun x2 =>
 sw (!(x2))
 (some s_)
 (gd ((x_28).size + (pb.gTrait).size ≤ 1099511627776)
 (gd ((x_28 ++ pb.gTrait).size + (x_20).size ≤ 1099511627776)
 (bd (sFormatType_M fu pb.gType) (fun x7 =>
 gd (((x_28 ++ pb.gTrait) ++ x_20).size + (x7).size ≤ 1099511627776)
 (gd ((((x_28 ++ pb.gTrait) ++ x_20) ++ x7).size + (x_29).size ≤ 1099511627776)
 (some ((((x_28 ++ pb.gTrait) ++ x_20) ++ x7) ++ x_29))))))))
theorem sFormatGoal_ok (fu : Nat)   : sFormatGoal_T (sFormatGoal_M fu) := by
  intro pb r H
  have H := hd0 H
  refine qI Try.func15 (fun C hC => ?_)
  refine qS (qR (q1 (rBx (cBound pb)) (q1 rMv (qN ?_))))
  iterate 2 refine qS ?_
  refine qR (q1 (rLp [pS pb.gTrait, pI pb.gType.gKind, pS pb.gType.gName, rType pb.gType.gArgs] sh41) (bdE H fun x2 z1 H => (q1 (rCf Try.func34 (sIsValidBound_ok fu pb _ z1)) (q1 rNo (qN ?_)))))
  refine cndB H (fun h3 H => ?_) (fun h3 H => ?_)
  · refine qS (qR (q1 rMv (qN (AWP.ret ?_))))
    obtain rfl : _ = r := (smI H :)
    exact qe1
  refine AWP.skip (qS (gdE H fun z4 H => (gdE H fun z5 H => (bdE H fun x7 z6 H => (gdE H fun z8 H => (gdE H fun z9 H => (dW (dI [1] (rFp fo41_0) (dD [6] (rL1 sh9) (dI [7] (AOp.addS rfl rfl rfl rfl (Nat.le_trans z4 (by decide))) (dI [8] (AOp.addS rfl rfl rfl rfl (Nat.le_trans z5 (by decide))) (dI [1] (rFp fo41_1) (dD [10] (rLp [pI pb.gType.gKind, pS pb.gType.gName, rType pb.gType.gArgs] sh27) ?_)))))))))))))
  refine dI [11] (rCf Try.func35 (sFormatType_ok fu pb.gType _ z6)) (dI [9, 12] (AOp.addS rfl rfl rfl rfl (Nat.le_trans z8 (by decide))) (dI [13] (AOp.addS rfl rfl rfl rfl (Nat.le_trans z9 (by decide))) (dI [14] rMv (dN (AWP.ret ?_)))))
  obtain rfl : _ = r := (smI H :)
  exact qe1

end
end Go.Proofs.Ytmpepccpnnldoaa

namespace Go.Proofs.Ytmpepccpnnldoaa
set_option linter.unusedSimpArgs false
set_option linter.unusedVariables false

/-- It holds of all great enough numbers. -/
def Evt (P : Nat → Prop) : Prop := ∃ N, ∀ n, N ≤ n → P n
theorem Evt.all {P : Nat → Prop} (h : ∀ n, P n) : Evt P := ⟨0, fun n _ => h n⟩
theorem Evt.and {P Q : Nat → Prop} (h : Evt P) (k : Evt Q) : Evt fun n => P n ∧ Q n := by
  obtain ⟨a, h⟩ := h
  obtain ⟨b, k⟩ := k
  exact ⟨max a b, fun n hn => ⟨h n (by omega), k n (by omega)⟩⟩
theorem Evt.imp {P Q : Nat → Prop} (h : Evt P) (k : ∀ n, P n → Q n) : Evt Q := by
  obtain ⟨a, h⟩ := h
  exact ⟨a, fun n hn => k n (h n hn)⟩
theorem Evt.succ {P : Nat → Prop} (h : Evt fun n => P (n + 1)) : Evt P := by
  obtain ⟨a, h⟩ := h
  exact ⟨a + 1, fun n hn => by
    obtain ⟨m, rfl⟩ : ∃ m, n = m + 1 := ⟨n - 1, by omega⟩
    exact h m (by omega)⟩
theorem Evt.list {α : Type} {P : α → Nat → Prop} : ∀ {l : List α}, (∀ x ∈ l, Evt (P x)) → Evt fun n => ∀ x ∈ l, P x n
  | [], _ => .all fun n x hx => by simp at hx
  | a :: l, h => ((h a (by simp)).and (Evt.list (l := l) fun x hx => h x (List.mem_cons_of_mem _ hx))).imp fun n hn x hx => by
    rcases List.mem_cons.1 hx with rfl | hx
    · exact hn.1
    · exact hn.2 x hx
/-- .. of each index below n. -/
theorem Evt.below {P : Nat → Nat → Prop} : ∀ {k : Nat}, (∀ i, i < k → Evt (P i)) → Evt fun n => ∀ i, i < k → P i n
  | 0, _ => .all fun n i hi => by omega
  | k + 1, h => ((h k (by omega)).and (Evt.below (k := k) fun i hi => h i (Nat.lt_succ_of_lt hi))).imp fun n hn i hi => by
    rcases Nat.lt_or_ge i k with h1 | h1
    · exact hn.2 i h1
    · obtain rfl : i = k := by omega
      exact hn.1
theorem Evt.get {P : Nat → Prop} (h : Evt P) : ∃ n, P n := by
  obtain ⟨a, h⟩ := h
  exact ⟨a, h a (Nat.le_refl _)⟩

section
variable {α σ β : Type} [Inhabited α] {f : Nat → σ → Option (LR σ β)}
theorem atD_mem {l : List α} {i : Nat} (h : i < l.length) : atD l i ∈ l := by rw [atD_eq h]; exact List.getElem_mem h
theorem drop_atD {l : List α} {i : Nat} (h : i < l.length) : l.drop i = atD l i :: l.drop (i + 1) := by rw [atD_eq h]; exact List.drop_eq_getElem_cons h
theorem take_atD {l : List α} {i : Nat} (h : i < l.length) : l.take (i + 1) = l.take i ++ [atD l i] := by rw [atD_eq h]; exact List.take_succ_eq_append_getElem h
/-- One round that goes on. -/
theorem loopN_step {n i : Nat} {s s' : σ} (h : i < n) (e : f i s = some (.next s')) : loopN f (n - i) i s = loopN f (n - (i + 1)) (i + 1) s' := loopN_next h rfl e
theorem loopN_out {n i : Nat} {s : σ} {x : β} (h : i < n) (e : f i s = some (.ret x)) : loopN f (n - i) i s = some (.inl x) := loopN_ret h rfl e
theorem loopN_off {n i : Nat} {s s' : σ} (h : i < n) (e : f i s = some (.brk s')) : loopN f (n - i) i s = some (.inr s') := loopN_brk h rfl e
theorem loopN_all {n i : Nat} {s : σ} (h : n ≤ i) : loopN f (n - i) i s = some (.inr s) := loopN_end h rfl
/-- A loop over a list that leaves at the first element of a kind. -/
theorem loopN_find {l : List α} {p : α → Bool} {r : α → β} {s : σ} (hs : ∀ i, i < l.length → f i s = if p (atD l i) then some (.ret (r (atD l i))) else some (.next s)) :
    ∀ (k i : Nat), l.length - i = k → loopN f (l.length - i) i s = some (match (l.drop i).find? p with | some x => .inl (r x) | none => .inr s)
  | 0, i, hk => by
    rw [loopN_all (by omega), List.drop_of_length_le (by omega), List.find?_nil]
  | k + 1, i, hk => by
    have hi : i < l.length := by omega
    have h1 := hs i hi
    rw [drop_atD hi, List.find?_cons]
    cases hp : p (atD l i)
    · rw [hp] at h1
      rw [loopN_step hi (by simpa using h1)]
      exact loopN_find hs k (i + 1) (by omega)
    · rw [hp] at h1
      rw [loopN_out hi (by simpa using h1)]
theorem loopN_find0 {l : List α} {p : α → Bool} {r : α → β} {s : σ} (hs : ∀ i, i < l.length → f i s = if p (atD l i) then some (.ret (r (atD l i))) else some (.next s)) : loopN f (l.length - 0) 0 s = some (match l.find? p with | some x => .inl (r x) | none => .inr s) := by
  have := loopN_find hs l.length 0 (by omega)
  rwa [List.drop_zero] at this
/-- A loop over a list whose every element must pass; what is returned where one does not hangs on nothing. -/
theorem loopN_every {l : List α} {p : α → Bool} {r : β} {s : σ} (hs : ∀ i, i < l.length → f i s = if p (atD l i) then some (.next s) else some (.ret r)) : loopN f (l.length - 0) 0 s = some (if l.all p then .inr s else .inl r) := by
  rw [loopN_find0 (p := fun x => !p x) (r := fun _ => r) (fun i hi => by rw [hs i hi]; cases p (atD l i) <;> rfl)]
  cases h : l.find? (fun x => !p x) with
  | none =>
    rw [List.find?_eq_none] at h
    rw [if_pos (by rw [List.all_eq_true]; intro x hx; have := h x hx; simpa using this)]
  | some x =>
    have h1 := List.find?_some h
    have h2 := List.mem_of_find?_eq_some h
    rw [if_neg (by rw [List.all_eq_true]; intro hc; have := hc x h2; simp [this] at h1)]
/-- A loop that returns the place of the first element of a kind. -/
theorem loopN_index {f : Nat → Unit → Option (LR Unit Int)} {l : List α} {p : α → Bool} (hs : ∀ i, i < l.length → f i () = if p (atD l i) then some (.ret ((i : Nat) : Int)) else some (.next ())) :
    loopN f (l.length - 0) 0 () = some (match l.findIdx? p with | some i => .inl ((i : Nat) : Int) | none => .inr ()) := by
  have key : ∀ (k i : Nat), l.length - i = k → loopN f (l.length - i) i () = some (match (l.drop i).findIdx? p with | some j => .inl (((i + j : Nat)) : Int) | none => .inr ()) := by
    intro k
    induction k with
    | zero =>
      intro i hk
      rw [loopN_all (by omega), List.drop_of_length_le (by omega)]
      rfl
    | succ k ih =>
      intro i hk
      have hi : i < l.length := by omega
      have h1 := hs i hi
      rw [drop_atD hi, List.findIdx?_cons]
      cases hp : p (atD l i)
      · rw [hp] at h1
        rw [loopN_step hi (by simpa using h1), ih (i + 1) (by omega)]
        cases (l.drop (i + 1)).findIdx? p with
        | none => simp
        | some j => simp; omega
      · rw [hp] at h1
        rw [loopN_out hi (by simpa using h1)]
        simp
  have := key l.length 0 (by omega)
  simpa using this
omit [Inhabited α] in
theorem index_any {l : List α} {p : α → Bool} : decide ((match l.findIdx? p with | some i => ((i : Nat) : Int) | none => -1) ≥ 0) = l.any p := by
  cases h : l.findIdx? p with
  | none =>
    rw [List.findIdx?_eq_none_iff] at h
    have : l.any p = false := by rw [List.any_eq_false]; intro x hx; simp [h x hx]
    rw [this]; rfl
  | some i =>
    obtain ⟨h1, h2, -⟩ := List.findIdx?_eq_some_iff_getElem.1 h
    have : l.any p = true := List.any_eq_true.2 ⟨_, List.getElem_mem h1, h2⟩
    rw [this]
    simp
end
end Go.Proofs.Ytmpepccpnnldoaa

namespace Go.Proofs.Ytmpepccpnnldoaa
set_option linter.unusedSimpArgs false
set_option linter.unusedVariables false
open Go.RowKit Go.WalkArith Go.IntWalk

def Ok {α : Type} (o : Option α) (P : α → Prop) : Prop := ∃ a, o = some a ∧ P a
theorem Ok.some {α : Type} {P : α → Prop} {a : α} (h : P a) : Ok (Option.some a) P := ⟨a, rfl, h⟩
theorem Ok.mono {α : Type} {P Q : α → Prop} {o : Option α} (h : Ok o P) (k : ∀ a, P a → Q a) : Ok o Q := by
  obtain ⟨a, e, h⟩ := h
  exact ⟨a, e, k a h⟩
theorem Ok.bd {α β : Type} {o : Option α} {f : α → Option β} {Q : α → Prop} {P : β → Prop} (h : Ok o Q) (k : ∀ a, Q a → Ok (f a) P) : Ok (bd o f) P := by
  obtain ⟨a, rfl, h⟩ := h
  exact k a h
theorem Ok.sw {α : Type} {c : Bool} {a b : Option α} {P : α → Prop} (ht : c = true → Ok a P) (hf : c = false → Ok b P) : Ok (sw c a b) P := by
  cases c
  · exact hf rfl
  · exact ht rfl
theorem Ok.gd {α : Type} {g : Prop} {a : Option α} {P : α → Prop} (h : g) (k : Ok a P) : Ok (gd g a) P := by
  rw [gdT h rfl]
  exact k
theorem Ok.so {σ β : Type} {o : Option (β ⊕ σ)} {f : σ → Option β} {Q : β ⊕ σ → Prop} {P : β → Prop} (h : Ok o Q) (k1 : ∀ x, Q (.inl x) → P x) (k2 : ∀ s, Q (.inr s) → Ok (f s) P) : Ok (so o f) P := by
  obtain ⟨a, rfl, h⟩ := h
  cases a with
  | inl x => exact ⟨x, rfl, k1 x h⟩
  | inr s => exact k2 s h
theorem Ok.lt {α β : Type} {x : α} {f : α → Option β} {P : β → Prop} (k : ∀ y, y = x → Ok (f y) P) : Ok (lt x f) P := k x rfl
def PS {σ β : Type} (Q : β → Prop) (E : σ → Prop) : β ⊕ σ → Prop
  | .inl x => Q x
  | .inr s => E s
def PL {σ β : Type} (Q : β → Prop) (N E : σ → Prop) : LR σ β → Prop
  | .next s => N s
  | .brk s => E s
  | .ret x => Q x
theorem Ok.gdk {α : Type} {g : Prop} {a : Option α} {P : α → Prop} (h : g) (k : g → Ok a P) : Ok (Go.Proofs.Ytmpepccpnnldoaa.gd g a) P := Ok.gd h (k h)
theorem Ok.sok {σ β : Type} {o : Option (β ⊕ σ)} {f : σ → Option β} {P : β → Prop} {E : σ → Prop} (h : Ok o (PS P E)) (k : ∀ s, E s → Ok (f s) P) : Ok (Go.Proofs.Ytmpepccpnnldoaa.so o f) P := Ok.so h (fun _ hx => hx) k
theorem Ok.loopN {σ β : Type} {f : Nat → σ → Option (LR σ β)} {n : Nat} {Q : β → Prop} {E : σ → Prop} (I : Nat → σ → Prop) (hE : ∀ i s, n ≤ i → I i s → E s) (hs : ∀ i s, i < n → I i s → Ok (f i s) (PL Q (I (i + 1)) E)) :
    ∀ (k i : Nat) (s : σ), n - i = k → I i s → Ok (Go.Proofs.Ytmpepccpnnldoaa.loopN f (n - i) i s) (PS Q E)
  | 0, i, s, hk, hi => by rw [loopN_all (by omega)]; exact Ok.some (hE i s (by omega) hi)
  | k + 1, i, s, hk, hi => by
    have hlt : i < n := by omega
    obtain ⟨r, hr, hp⟩ := hs i s hlt hi
    cases r with
    | next s' => rw [loopN_step hlt hr]; exact Ok.loopN I hE hs k (i + 1) s' (by omega) hp
    | brk s' => rw [loopN_off hlt hr]; exact Ok.some hp
    | ret x => rw [loopN_out hlt hr]; exact Ok.some hp
theorem Ok.loopN0 {σ β : Type} {f : Nat → σ → Option (LR σ β)} {n i : Nat} {s : σ} {Q : β → Prop} {E : σ → Prop} (I : Nat → σ → Prop) (h0 : I i s) (hE : ∀ i s, n ≤ i → I i s → E s) (hs : ∀ i s, i < n → I i s → Ok (f i s) (PL Q (I (i + 1)) E)) : Ok (Go.Proofs.Ytmpepccpnnldoaa.loopN f (n - i) i s) (PS Q E) :=
  Ok.loopN I hE hs (n - i) i s rfl h0
theorem Ok.loopW {σ β : Type} {f : σ → Option (LR σ β)} {Q : β → Prop} {E : σ → Prop} (I : σ → Prop) (μ : σ → Nat) (hs : ∀ s, I s → Ok (f s) (PL Q (fun s' => I s' ∧ μ s' < μ s) E)) :
    ∀ (k : Nat) (s : σ), μ s < k → I s → Ok (Go.Proofs.Ytmpepccpnnldoaa.loopW f k s) (PS Q E)
  | 0, s, hk, _ => absurd hk (Nat.not_lt_zero _)
  | k + 1, s, hk, hi => by
    obtain ⟨r, hr, hp⟩ := hs s hi
    unfold Go.Proofs.Ytmpepccpnnldoaa.loopW
    rw [hr]
    cases r with
    | next s' => exact Ok.loopW I μ hs k s' (by have := hp.2; omega) hp.1
    | brk s' => exact Ok.some hp
    | ret x => exact Ok.some hp
theorem Evt.ge (k : Nat) : Evt fun fu => k ≤ fu := ⟨k, fun _ h => h⟩
end Go.Proofs.Ytmpepccpnnldoaa

namespace Go.Proofs.Ytmpepccpnnldoaa
set_option linter.unusedSimpArgs false
set_option linter.unusedVariables false
open Go.RowKit Go.Proofs

theorem sw_if {α : Type} (b : Bool) (x y : α) : sw b x y = if b = true then x else y := by cases b <;> rfl
theorem loopN_inv {σ β : Type} {f : Nat → σ → Option (LR σ β)} {n : Nat} (g : Nat → σ) (hs : ∀ i, i < n → f i (g i) = some (.next (g (i + 1)))) : loopN f (n - 0) 0 (g 0) = some (.inr (g n)) := by
  have key : ∀ (k i : Nat), n - i = k → i ≤ n → loopN f (n - i) i (g i) = some (.inr (g n)) := by
    intro k
    induction k with
    | zero =>
      intro i hk hi
      obtain rfl : i = n := by omega
      rw [loopN_all (Nat.le_refl _)]
    | succ k ih =>
      intro i hk hi
      rw [loopN_step (by omega) (hs i (by omega))]
      exact ih (i + 1) (by omega) (by omega)
  exact key n 0 rfl (Nat.zero_le _)
theorem atD_range {n i : Nat} (h : i < n) : atD (List.range n) i = i := by rw [atD_eq (by simpa using h)]; simp
theorem loopN_rng {σ β : Type} {f : Nat → σ → Option (LR σ β)} {n : Nat} {p : Nat → Bool} {r : β} {s : σ} (hs : ∀ i, i < n → f i s = if p i then some (.next s) else some (.ret r)) :
    loopN f (n - 0) 0 s = some (if (List.range n).all p then .inr s else .inl r) := by
  have := loopN_every (f := f) (l := List.range n) (p := p) (r := r) (s := s) (fun i hi => by
    have hi : i < n := by simpa using hi
    rw [atD_range hi]
    exact hs i hi)
  rw [List.length_range] at this
  exact this

def lowC (c : UInt8) : Bool := decide ((c.toNat : Int) ≥ 97) && decide ((c.toNat : Int) ≤ 122)
def digC (c : UInt8) : Bool := decide ((c.toNat : Int) ≥ 48) && decide ((c.toNat : Int) ≤ 57)
theorem lt_ge (a b : Int) : decide (a < b) = !decide (a ≥ b) := by by_cases h : a < b <;> simp [h] <;> omega
theorem gt_le (a b : Int) : decide (a > b) = !decide (a ≤ b) := by by_cases h : a ≤ b <;> simp [h] <;> omega
def nmAt (s : ByteArray) (i : Nat) : Bool := lowC (bAt s i) || (!decide ((i : Int) = 0) && digC (bAt s i))
def resW : List ByteArray := [s_int, s_bool, s_assoc, s_dyn, s_if, s_let, s_case, s_new, s_method, s_pack, s_true, s_false]
def nmB (s : ByteArray) : Bool := (List.range s.size).all (nmAt s) && (decide ((s.size : Int) ≥ 1) && (decide ((s.size : Int) ≤ 8) && !(resW.any fun x => decide (x = s))))
theorem low_i (fu : Nat) (c : UInt8) : iisLower_M fu c = some (lowC c) := by
  unfold iisLower_M lowC
  cases h1 : decide ((c.toNat : Int) ≥ 97) <;> rfl
theorem dig_i (fu : Nat) (c : UInt8) : iisDigit_M fu c = some (digC c) := by
  unfold iisDigit_M digC
  cases h1 : decide ((c.toNat : Int) ≥ 48) <;> rfl
theorem res_i (fu : Nat) (s : ByteArray) : iIsReserved_M fu s = some (resW.any fun x => decide (x = s)) := by
  unfold iIsReserved_M gContains_string_M gIndex_string_M gIndex_string_R1
  rw [loopN_index (p := fun x => decide (x = s)) (fun i hi => by
    unfold gIndex_string_F1
    rw [sw_if]
    by_cases h : s = atD [s_int, s_bool, s_assoc, s_dyn, s_if, s_let, s_case, s_new, s_method, s_pack, s_true, s_false] i
    · rw [if_pos (by simpa using h), if_pos (by simpa using h.symm)]
    · rw [if_neg (by simpa using h), if_neg (by simpa using fun e => h (Eq.symm e))])]
  show bd (bd (so (some _) _) _) _ = _
  have h := index_any (l := resW) (p := fun x => decide (x = s))
  cases hh : resW.findIdx? (fun x => decide (x = s)) with
  | none =>
    have hh' : List.findIdx? (fun x => decide (x = s)) [s_int, s_bool, s_assoc, s_dyn, s_if, s_let, s_case, s_new, s_method, s_pack, s_true, s_false] = none := hh
    rw [hh] at h
    rw [hh', ← h]
    rfl
  | some i =>
    have hh' : List.findIdx? (fun x => decide (x = s)) [s_int, s_bool, s_assoc, s_dyn, s_if, s_let, s_case, s_new, s_method, s_pack, s_true, s_false] = some i := hh
    rw [hh] at h
    rw [hh', ← h]
    rfl
theorem name_i (fu : Nat) (s : ByteArray) : iIsValidName_M fu s = some (nmB s) := by
  unfold iIsValidName_M iIsValidName_R1
  rw [loopN_rng (p := nmAt s) (r := false) (fun i hi => by
    unfold iIsValidName_F1 nmAt
    rw [gdT hi rfl, low_i, dig_i]
    cases hl : lowC (bAt s i) <;> cases hd : digC (bAt s i) <;> cases h0 : decide ((i : Int) = 0) <;> rfl)]
  unfold nmB
  cases ha : (List.range s.size).all (nmAt s)
  · rfl
  · cases h1 : decide ((s.size : Int) ≥ 1)
    · rfl
    · cases h8 : decide ((s.size : Int) ≤ 8)
      · rfl
      · show bd (iIsReserved_M fu s) _ = _
        rw [res_i]
        rfl
theorem res_s (fu : Nat) (s : ByteArray) : sIsReserved_M fu s = some (resW.any fun x => decide (x = s)) := by
  unfold sIsReserved_M sl1Has_M sl1Has_R1
  rw [loopN_find0 (p := fun x => decide (x = s)) (r := fun _ => true) (fun i hi => by
    unfold sl1Has_F1
    rw [sw_if])]
  show bd (so (some _) _) _ = _
  cases hh : resW.find? (fun x => decide (x = s)) with
  | none =>
    have hh' : List.find? (fun x => decide (x = s)) [s_int, s_bool, s_assoc, s_dyn, s_if, s_let, s_case, s_new, s_method, s_pack, s_true, s_false] = none := hh
    rw [hh']
    have : (resW.any fun x => decide (x = s)) = false := by
      rw [List.find?_eq_none] at hh
      rw [List.any_eq_false]
      exact hh
    rw [this]
    rfl
  | some i =>
    have hh' : List.find? (fun x => decide (x = s)) [s_int, s_bool, s_assoc, s_dyn, s_if, s_let, s_case, s_new, s_method, s_pack, s_true, s_false] = some i := hh
    rw [hh']
    have : (resW.any fun x => decide (x = s)) = true := List.any_eq_true.2 ⟨i, List.mem_of_find?_eq_some hh, by simpa using List.find?_some hh⟩
    rw [this]
    rfl
theorem in_s (fu : Nat) (a b c : Int) : sl1In_M fu a b c = some (decide (a ≥ b) && decide (a ≤ c)) := by
  unfold sl1In_M
  cases h : decide (a ≥ b) <;> rfl
theorem name_s (fu : Nat) (s : ByteArray) : sIsValidName_M fu s = some (nmB s) := by
  unfold sIsValidName_M sIsValidName_R1
  rw [in_s, res_s]
  have hl : ∀ x2 x5, loopN (sIsValidName_F1 fu s x2 x5) (s.size - 0) 0 () = some (if (List.range s.size).all (nmAt s) then .inr () else .inl false) := fun x2 x5 => loopN_rng (p := nmAt s) (r := false) (fun i hi => by
    unfold sIsValidName_F1 nmAt lowC digC
    rw [gdT hi rfl]
    rw [lt_ge, gt_le]
    cases h1 : decide (((bAt s i).toNat : Int) ≥ 97) <;> cases h2 : decide (((bAt s i).toNat : Int) ≤ 122) <;> cases h3 : decide ((i : Int) = 0) <;> cases h4 : decide (((bAt s i).toNat : Int) ≥ 48) <;> cases h5 : decide (((bAt s i).toNat : Int) ≤ 57) <;> rfl)
  unfold nmB
  cases h1 : decide ((s.size : Int) ≥ 1) <;> cases h8 : decide ((s.size : Int) ≤ 8) <;> cases hr : (resW.any fun x => decide (x = s)) <;> cases ha : (List.range s.size).all (nmAt s) <;> first | rfl | (show so (loopN _ _ _ _) _ = _; rw [hl, ha]; rfl)
end Go.Proofs.Ytmpepccpnnldoaa

namespace Go.Proofs.Ytmpepccpnnldoaa
set_option linter.unusedSimpArgs false
set_option linter.unusedVariables false
open Go.RowKit Go.Proofs

def baseB (n : ByteArray) : Bool := decide (n = s_int) || decide (n = s_bool)
def fineB (k : Int) (n : ByteArray) (len : Nat) : Bool :=
  if k = 1 ∨ k = 4 then nmB n && decide ((len : Int) = 0) else if k = 3 then nmB n && decide ((len : Int) = 1) else if k = 2 then (nmB n && decide ((len : Int) ≤ 3)) || (baseB n && decide ((len : Int) = 0)) else false
mutual
def GType.formB : GType → Bool
  | .mk k n xs => fineB k n xs.length && GType.formBs xs
def GType.formBs : List GType → Bool
  | [] => true
  | x :: r => GType.formB x && GType.formBs r
end
mutual
def GType.dep : GType → Nat
  | .mk _ _ xs => GType.deps xs
def GType.deps : List GType → Nat
  | [] => 0
  | x :: r => max (GType.dep x + 1) (GType.deps r)
end
theorem GType.formBs_all : ∀ xs : List GType, GType.formBs xs = xs.all GType.formB
  | [] => rfl
  | x :: r => by rw [GType.formBs, List.all_cons, GType.formBs_all r]
theorem GType.sizes_app : ∀ a b : List GType, GType.sizes (a ++ b) = GType.sizes a + GType.sizes b
  | [], b => by simp [GType.sizes]
  | x :: r, b => by rw [List.cons_append, GType.sizes, GType.sizes, GType.sizes_app r b]; omega
theorem GType.deps_app : ∀ a b : List GType, GType.deps (a ++ b) = max (GType.deps a) (GType.deps b)
  | [], b => by simp [GType.deps]
  | x :: r, b => by rw [List.cons_append, GType.deps, GType.deps, GType.deps_app r b]; omega
theorem GType.sizes_le {xs : List GType} {x : GType} (h : x ∈ xs) : GType.size x ≤ GType.sizes xs := by
  induction xs with
  | nil => simp at h
  | cons a r ih =>
    rw [GType.sizes]
    rcases List.mem_cons.1 h with rfl | h
    · omega
    · have := ih h; omega
theorem GType.dep_size : ∀ t : GType, GType.dep t + 1 ≤ GType.size t := by
  refine GType.ind fun k n xs ih => ?_
  rw [GType.dep, GType.size]
  have : ∀ l : List GType, (∀ x ∈ l, GType.dep x + 1 ≤ GType.size x) → GType.deps l ≤ GType.sizes l := by
    intro l
    induction l with
    | nil => intro _; simp [GType.deps]
    | cons a l ihl =>
      intro h
      have h1 := h a (by simp)
      have h2 := ihl fun x hx => h x (by simp [hx])
      rw [GType.deps, GType.sizes]
      omega
  have := this xs ih
  omega
theorem wrap_in {x : Int} (h0 : -1000 ≤ x) (h1 : x ≤ 1099511627776) : wrap64 x = x := by
  unfold wrap64 IntKind.wrap
  simp [IntKind.bits, IntKind.signed]
  omega

/-! ### depth and size -/
theorem dep_i : ∀ t : GType, GType.size t ≤ 4294967296 → Evt fun fu => iTypeDepth_M fu t = some (GType.dep t : Int) := by
  refine GType.ind fun k n xs ih hz => ?_
  rw [GType.size] at hz
  refine Evt.succ ((Evt.list (l := xs) fun x hx => ih x hx (by have := GType.sizes_le hx; omega)).imp fun fu h => ?_)
  show iTypeDepth_G fu (iTypeDepth_M fu) _ = _
  unfold iTypeDepth_G iTypeDepth_R1
  refine soR (loopN_inv (fun i => ((GType.deps (xs.take i) : Nat) : Int)) (n := xs.length) fun i hi => ?_) ?_
  · unfold iTypeDepth_F1
    have hm := atD_mem hi
    rw [GType.gArgs_mk, h _ hm]
    have h1 := GType.dep_size (atD xs i)
    have h2 := GType.sizes_le hm
    show some (LR.next (max _ (wrap64 _))) = _
    rw [wrap_in (by omega) (by omega), take_atD hi, GType.deps_app]
    simp only [GType.deps]
    congr 2
    omega
  · rw [List.take_length, GType.dep]
theorem size_i : ∀ t : GType, GType.size t ≤ 4294967296 → Evt fun fu => iTypeSize_M fu t = some (GType.size t : Int) := by
  refine GType.ind fun k n xs ih hz => ?_
  rw [GType.size] at hz
  refine Evt.succ ((Evt.list (l := xs) fun x hx => ih x hx (by have := GType.sizes_le hx; omega)).imp fun fu h => ?_)
  show iTypeSize_G fu (iTypeSize_M fu) _ = _
  unfold iTypeSize_G iTypeSize_R1
  refine soR (loopN_inv (fun i => ((1 + GType.sizes (xs.take i) : Nat) : Int)) (n := xs.length) fun i hi => ?_) ?_
  · unfold iTypeSize_F1
    have hm := atD_mem hi
    rw [GType.gArgs_mk, h _ hm]
    have h3 := congrArg GType.sizes (List.take_append_drop (i + 1) xs)
    rw [GType.sizes_app, take_atD hi, GType.sizes_app] at h3
    simp only [GType.sizes] at h3
    show some (LR.next (wrap64 _)) = _
    rw [wrap_in (by omega) (by omega), take_atD hi, GType.sizes_app]
    simp only [GType.sizes]
    congr 2
    omega
  · rw [List.take_length, GType.size]
theorem max_s (fu : Nat) (a b : Int) : sl1Max_M fu a b = some (max a b) := by
  unfold sl1Max_M
  rw [sw_if]
  by_cases h : a > b
  · rw [if_pos (by simpa using h)]; congr 1; omega
  · rw [if_neg (by simpa using h)]; congr 1; omega
theorem dep_s : ∀ t : GType, GType.size t ≤ 4294967296 → Evt fun fu => sTypeDepth_M fu t = some (GType.dep t : Int) := by
  refine GType.ind fun k n xs ih hz => ?_
  rw [GType.size] at hz
  refine Evt.succ ((Evt.list (l := xs) fun x hx => ih x hx (by have := GType.sizes_le hx; omega)).imp fun fu h => ?_)
  show sTypeDepth_G fu (sTypeDepth_M fu) _ = _
  unfold sTypeDepth_G sTypeDepth_R1
  refine soR (loopN_inv (fun i => ((GType.deps (xs.take i) : Nat) : Int)) (n := xs.length) fun i hi => ?_) ?_
  · unfold sTypeDepth_F1
    have hm := atD_mem hi
    rw [GType.gArgs_mk, h _ hm]
    have h1 := GType.dep_size (atD xs i)
    have h2 := GType.sizes_le hm
    show bd (sl1Max_M _ _ (wrap64 _)) _ = _
    rw [wrap_in (by omega) (by omega), max_s, take_atD hi, GType.deps_app]
    simp only [GType.deps]
    show some (LR.next _) = _
    congr 2
    omega
  · rw [List.take_length, GType.dep]
theorem left_s : ∀ t : GType, Evt fun fu => ∀ L : Int, 0 ≤ L → L ≤ 1000 → Ok (sl4Left_M fu t L) (fun r => ((GType.size t : Int) ≤ L ∧ r = L - GType.size t) ∨ (L < GType.size t ∧ r < 0)) := by
  refine GType.ind fun k n xs ih => ?_; refine Evt.succ ((Evt.list (l := xs) fun x hx => ih x hx).imp fun fu h L h0 h1 => ?_)
  show Ok (sl4Left_G fu (sl4Left_M fu) _ L) _
  unfold sl4Left_G sl4Left_R1
  rw [wrap_in (by omega) (by omega), GType.size]
  refine Ok.so (Q := PS (fun _ => False) fun v => ((1 + GType.sizes xs : Nat) : Int) ≤ L ∧ v = L - (1 + GType.sizes xs : Nat) ∨ L < ((1 + GType.sizes xs : Nat) : Int) ∧ v < 0) ?_ (fun x hx => by cases hx) (fun v hv => Ok.some hv)
  refine Ok.loopN0 (fun i v => i ≤ xs.length ∧ (((1 + GType.sizes (xs.take i) : Nat) : Int) ≤ L ∧ v = L - (1 + GType.sizes (xs.take i) : Nat) ∨ L < ((1 + GType.sizes (xs.take i) : Nat) : Int) ∧ v < 0)) ⟨Nat.zero_le _, ?_⟩ ?_ ?_
  · simp only [List.take_zero, GType.sizes]
    omega
  · rintro i v hi ⟨hi2, hv⟩
    obtain rfl : i = xs.length := by rw [GType.gArgs_mk] at hi; omega
    rwa [List.take_length] at hv
  · rintro i v hi ⟨hi2, hv⟩
    rw [GType.gArgs_mk] at hi
    have h3 := congrArg GType.sizes (List.take_append_drop i xs)
    rw [GType.sizes_app] at h3
    unfold sl4Left_F1
    refine Ok.sw (fun hc => ?_) (fun hc => ?_)
    · have hc : v ≥ 0 := by simpa using hc
      rw [GType.gArgs_mk]
      refine Ok.bd (h _ (atD_mem hi) v hc (by omega)) fun r hr => Ok.some ⟨hi, ?_⟩
      rw [take_atD hi, GType.sizes_app]
      simp only [GType.sizes]
      omega
    · have hc : ¬ v ≥ 0 := by simpa using hc
      refine Ok.some ?_
      show _ ∨ _
      omega

/-! ### the form -/
theorem base_i (fu : Nat) (n : ByteArray) : iisBuiltIn_M fu n = some (baseB n) := by
  unfold iisBuiltIn_M baseB
  cases h : decide (n = s_int) <;> rfl
theorem base_s (fu : Nat) (n : ByteArray) : sl4Base_M fu n = some (baseB n) := by
  unfold sl4Base_M baseB
  cases h : decide (n = s_int) <;> rfl
theorem cont_i {fu : Nat} {xs : List GType} (h : ∀ x ∈ xs, iisFormed_M fu x = some (GType.formB x)) : gContainsFunc_Type__iisFormed_1_M (fu + 3) xs = some (!(GType.formBs xs)) := by
  show bd (so (loopN _ _ _ _) _) _ = _
  rw [loopN_index (p := fun x => !(GType.formB x)) (fun i hi => by
    unfold gIndexFunc_Type__iisFormed_1_F1
    show bd (bd (iisFormed_M fu _) _) _ = _
    rw [h _ (atD_mem hi)]
    cases GType.formB (atD xs i) <;> rfl)]
  have h2 := index_any (l := xs) (p := fun x => !(GType.formB x))
  have h3 : (!(GType.formBs xs)) = xs.any fun x => !(GType.formB x) := by rw [GType.formBs_all, List.any_eq_not_all_not]; simp
  rw [h3, ← h2]
  cases List.findIdx? (fun x => !(GType.formB x)) xs <;> rfl
theorem form_i : ∀ t : GType, Evt fun fu => iisFormed_M fu t = some (GType.formB t) := by
  refine GType.ind fun k n xs ih => ?_
  have hh : Evt fun fu => ∀ x ∈ xs, iisFormed_M fu x = some (GType.formB x) := Evt.list (l := xs) fun x hx => ih x hx
  refine Evt.succ (Evt.succ (Evt.succ (Evt.succ (hh.imp fun fu h => ?_))))
  have hc := cont_i h
  show iisFormed_G (fu + 3) _ _ _ _ _ = _
  unfold iisFormed_G iisFormed_C1
  rw [GType.gKind_mk, GType.gName_mk, GType.gArgs_mk, hc, name_i, base_i, GType.formB]
  unfold fineB
  by_cases h1 : k = 1
  · subst h1
    cases nmB n <;> cases decide (((xs.length : Nat) : Int) = 0) <;> cases GType.formBs xs <;> rfl
  · by_cases h4 : k = 4
    · subst h4
      cases nmB n <;> cases decide (((xs.length : Nat) : Int) = 0) <;> cases GType.formBs xs <;> rfl
    · rw [if_neg (by omega), decide_eq_false h1, decide_eq_false h4]
      by_cases h3 : k = 3
      · subst h3
        cases nmB n <;> cases decide (((xs.length : Nat) : Int) = 1) <;> cases GType.formBs xs <;> rfl
      · rw [if_neg h3, decide_eq_false h3]
        by_cases h2 : k = 2
        · subst h2
          cases nmB n <;> cases baseB n <;> cases decide (((xs.length : Nat) : Int) = 0) <;> cases decide (((xs.length : Nat) : Int) ≤ 3) <;> cases GType.formBs xs <;> rfl
        · rw [if_neg h2, decide_eq_false h2]
          rfl
theorem form_s : ∀ t : GType, Evt fun fu => sl4Form_M fu t = some (GType.formB t) := by
  refine GType.ind fun k n xs ih => ?_
  have hh : Evt fun fu => ∀ x ∈ xs, sl4Form_M fu x = some (GType.formB x) := Evt.list (l := xs) fun x hx => ih x hx
  refine Evt.succ (hh.imp fun fu h => ?_)
  have hl : ∀ x2 v3, sl4Form_R3 fu (sl4Form_M fu) (.mk k n xs) x2 v3 = some (.inr (v3 && GType.formBs xs)) := by
    intro x2 v3
    unfold sl4Form_R3
    rw [GType.gArgs_mk]
    have := loopN_inv (f := sl4Form_F3 fu (sl4Form_M fu) (.mk k n xs) x2 v3) (fun i => v3 && GType.formBs (xs.take i)) (n := xs.length) fun i hi => by
      unfold sl4Form_F3
      rw [GType.gArgs_mk, h _ (atD_mem hi), take_atD hi, GType.formBs_all, GType.formBs_all, List.all_append]
      cases v3 <;> cases (xs.take i).all GType.formB <;> simp [sw, bd]
    rw [List.take_length] at this
    simpa [GType.formBs] using this
  show sl4Form_G fu (sl4Form_M fu) _ = _
  unfold sl4Form_G sl4Form_C1 sl4Form_C2
  rw [GType.gKind_mk, GType.gName_mk, GType.gArgs_mk, name_s, base_s, GType.formB]
  show so _ _ = _
  simp only [hl]
  unfold fineB
  by_cases h1 : k = 1
  · subst h1
    cases nmB n <;> cases decide (((xs.length : Nat) : Int) = 0) <;> cases GType.formBs xs <;> rfl
  · by_cases h4 : k = 4
    · subst h4
      cases nmB n <;> cases decide (((xs.length : Nat) : Int) = 0) <;> cases GType.formBs xs <;> rfl
    · rw [if_neg (by omega), decide_eq_false h1, decide_eq_false h4]
      by_cases h3 : k = 3
      · subst h3
        cases nmB n <;> cases decide (((xs.length : Nat) : Int) = 1) <;> cases GType.formBs xs <;> rfl
      · rw [if_neg h3, decide_eq_false h3]
        by_cases h2 : k = 2
        · subst h2
          cases nmB n <;> cases baseB n <;> cases decide (((xs.length : Nat) : Int) = 0) <;> cases decide (((xs.length : Nat) : Int) ≤ 3) <;> cases GType.formBs xs <;> rfl
        · rw [if_neg h2, decide_eq_false h2]
          rfl
/-! ### valid bounds -/
theorem bd_some {α β : Type} (a : α) (f : α → Option β) : bd (some a) f = f a := rfl
def vldT (t : GType) : Bool := GType.formB t && (decide ((GType.dep t : Int) ≤ 6) && decide ((GType.size t : Int) ≤ 60))
def vldBd (b : GBound) : Bool := nmB b.gTrait && vldT b.gType
theorem vldT_i (t : GType) (h : GType.size t ≤ 4294967296) : Evt fun fu => iIsValidType_M fu t = some (vldT t) := by
  refine ((form_i t).and ((dep_i t h).and (size_i t h))).imp fun fu ⟨h1, h2, h3⟩ => ?_
  unfold iIsValidType_M vldT
  rw [h1, h2, h3]
  simp only [bd_some]
  cases GType.formB t <;> cases decide ((GType.dep t : Int) ≤ 6) <;> cases decide ((GType.size t : Int) ≤ 60) <;> rfl
theorem vldT_s (t : GType) (h : GType.size t ≤ 4294967296) : Evt fun fu => sIsValidType_M fu t = some (vldT t) := by
  refine ((form_s t).and ((dep_s t h).and (left_s t))).imp fun fu ⟨h1, h2, h3⟩ => ?_
  obtain ⟨r, hr, hp⟩ := h3 60 (by decide) (by decide)
  unfold sIsValidType_M vldT
  rw [hr]
  have : decide (r ≥ 0) = decide ((GType.size t : Int) ≤ 60) := by
    by_cases hs : (GType.size t : Int) ≤ 60
    · rw [decide_eq_true hs]; exact decide_eq_true (by omega)
    · rw [decide_eq_false hs]; exact decide_eq_false (by omega)
  show sw (decide (r ≥ 0)) _ _ = _
  rw [this, h1, h2]
  simp only [bd_some]
  cases GType.formB t <;> cases decide ((GType.dep t : Int) ≤ 6) <;> cases decide ((GType.size t : Int) ≤ 60) <;> rfl
theorem vldBd_i (b : GBound) (h : GType.size b.gType ≤ 4294967296) : Evt fun fu => iIsValidBound_M fu b = some (vldBd b) := by
  refine (vldT_i b.gType h).imp fun fu h1 => ?_
  unfold iIsValidBound_M vldBd
  rw [name_i, h1]
  cases nmB b.gTrait <;> rfl
theorem vldBd_s (b : GBound) (h : GType.size b.gType ≤ 4294967296) : Evt fun fu => sIsValidBound_M fu b = some (vldBd b) := by
  refine (vldT_s b.gType h).imp fun fu h1 => ?_
  unfold sIsValidBound_M vldBd
  rw [name_s, h1]
  cases nmB b.gTrait <;> rfl
end Go.Proofs.Ytmpepccpnnldoaa

namespace Go.Proofs.Ytmpepccpnnldoaa
set_option linter.unusedSimpArgs false
set_option linter.unusedVariables false
open Go.RowKit Go.Proofs

theorem dataApp (a b : ByteArray) : (a ++ b).data.toList = a.data.toList ++ b.data.toList := by
  obtain ⟨a⟩ := a
  obtain ⟨b⟩ := b
  rw [ByteArray.mk_append_mk]
theorem dataLen (a : ByteArray) : a.data.toList.length = a.size := by rw [Array.length_toList]; rfl
theorem dataInj {a b : ByteArray} (h : a.data.toList = b.data.toList) : a = b := by
  obtain ⟨a⟩ := a
  obtain ⟨b⟩ := b
  have : a = b := Array.ext' h
  rw [this]
theorem bAt_data {v : ByteArray} {k : Nat} (h : k < v.size) : bAt v k = v.data.toList[k]'(by rw [dataLen]; exact h) := by
  unfold bAt
  rw [getElem?_pos v k h]
  rfl
theorem bAt_mem {v : ByteArray} {k : Nat} (h : k < v.size) : bAt v k ∈ v.data.toList := by rw [bAt_data h]; exact List.getElem_mem _

mutual
def GType.enc : GType → GSExpr
  | .mk k n xs => if k = 1 then .mk (x_27 ++ n) [] else if k = 4 then .mk s_ [.mk s_dyn [], .mk n []] else if k = 3 then .mk s_ (.mk s_assoc [] :: .mk n [] :: GType.encs xs) else if xs.length = 0 then .mk n [] else .mk s_ (.mk n [] :: GType.encs xs)
def GType.encs : List GType → List GSExpr
  | [] => []
  | x :: r => GType.enc x :: GType.encs r
end
theorem GType.encs_map : ∀ xs : List GType, GType.encs xs = xs.map GType.enc
  | [] => rfl
  | x :: r => by rw [GType.encs, List.map_cons, GType.encs_map r]

theorem nm_size {n : ByteArray} (h : nmB n = true) : 1 ≤ n.size ∧ n.size ≤ 8 := by
  unfold nmB at h
  simp only [Bool.and_eq_true, decide_eq_true_eq] at h
  omega
theorem form_inv {k : Int} {n : ByteArray} {xs : List GType} (h : GType.formB (.mk k n xs) = true) :
    (k = 1 ∨ k = 4 ∨ k = 3 ∨ k = 2) ∧ (nmB n = true ∨ (k = 2 ∧ (n = s_int ∨ n = s_bool))) ∧ (k = 1 ∨ k = 4 → xs = []) ∧ (k = 3 → xs.length = 1) ∧ xs.length ≤ 3 ∧ ∀ x ∈ xs, GType.formB x = true := by
  rw [GType.formB, GType.formBs_all, Bool.and_eq_true] at h
  obtain ⟨hf, ha⟩ := h
  have ha : ∀ x ∈ xs, GType.formB x = true := by simpa using ha
  unfold fineB at hf
  split at hf
  · rename_i hk
    simp only [Bool.and_eq_true, decide_eq_true_eq] at hf
    have h0 : xs = [] := List.eq_nil_of_length_eq_zero (by omega)
    subst h0
    exact ⟨by omega, .inl hf.1, fun _ => rfl, fun h3 => by omega, by simp, ha⟩
  · rename_i hk
    split at hf
    · rename_i hk3
      simp only [Bool.and_eq_true, decide_eq_true_eq] at hf
      exact ⟨by omega, .inl hf.1, fun h => absurd h hk, fun _ => by omega, by omega, ha⟩
    · rename_i hk3
      split at hf
      · rename_i hk2
        simp only [Bool.and_eq_true, Bool.or_eq_true, decide_eq_true_eq, baseB] at hf
        rcases hf with hf | hf
        · exact ⟨by omega, .inl hf.1, fun h => absurd h hk, fun h => absurd h hk3, by omega, ha⟩
        · exact ⟨by omega, .inr ⟨hk2, hf.1⟩, fun h => absurd h hk, fun h => absurd h hk3, by omega, ha⟩
      · cases hf
theorem form_size {k : Int} {n : ByteArray} {xs : List GType} (h : GType.formB (.mk k n xs) = true) : 1 ≤ n.size ∧ n.size ≤ 8 := by
  rcases (form_inv h).2.1 with h | ⟨-, rfl | rfl⟩
  · exact nm_size h
  · decide
  · decide

theorem enc_i : ∀ t : GType, GType.formB t = true → Evt fun fu => iencodeType_M fu t = some (GType.enc t) := by
  refine GType.ind fun k n xs ih hf => ?_
  have hz := form_size hf
  obtain ⟨hk, -, h14, h3, hl, hx⟩ := form_inv hf
  have hh : Evt fun fu => ∀ x ∈ xs, iencodeType_M fu x = some (GType.enc x) := Evt.list (l := xs) fun x hm => ih x hm (hx x hm)
  have hes : Evt fun fu => iencodeTypes_M fu xs = some (GType.encs xs) := by
    refine Evt.succ (hh.imp fun fu h => ?_)
    show iencodeTypes_G fu _ _ xs = _
    unfold iencodeTypes_G iencodeTypes_R1
    refine soR (loopN_inv (fun i => (xs.take i).map GType.enc) (n := xs.length) fun i hi => ?_) ?_
    · unfold iencodeTypes_F1
      rw [h _ (atD_mem hi), bd_some, gdT (by simp; omega) rfl, take_atD hi, List.map_append]
      rfl
    · rw [List.take_length, GType.encs_map]
  refine Evt.succ ((hh.and hes).imp fun fu ⟨h, he⟩ => ?_)
  show iencodeType_G fu _ _ _ = _
  unfold iencodeType_G
  rw [GType.gKind_mk, GType.gName_mk, GType.gArgs_mk, GType.enc]
  have hz1 : (x_27 : ByteArray).size = 1 := rfl
  by_cases h1 : k = 1
  · rw [if_pos h1, decide_eq_true h1]
    show gd _ _ = _
    rw [gdT (by omega) rfl]
    rfl
  · rw [if_neg h1, decide_eq_false h1]
    by_cases h4 : k = 4
    · rw [if_pos h4, decide_eq_true h4]
      rfl
    · rw [if_neg h4, decide_eq_false h4]
      by_cases h3' : k = 3
      · have hl1 := h3 h3'
        rw [if_pos h3', decide_eq_true h3']
        show gd _ _ = _
        rw [gdT (by omega) rfl, h _ (atD_mem (by omega))]
        match xs, hl1 with
        | [x], _ => rfl
      · rw [if_neg h3', decide_eq_false h3']
        by_cases h0 : xs.length = 0
        · rw [if_pos h0, decide_eq_true (by omega)]
          rfl
        · rw [if_neg h0, decide_eq_false (by omega)]
          show bd (iencodeTypes_M fu xs) _ = _
          rw [he, bd_some, gdT (by rw [GType.encs_map]; simp; omega) rfl]
          rfl
theorem enc_s : ∀ t : GType, GType.formB t = true → Evt fun fu => sl5Sx_M fu t = some (GType.enc t) := by
  refine GType.ind fun k n xs ih hf => ?_
  have hz := form_size hf
  obtain ⟨hk, -, h14, h3, hl, hx⟩ := form_inv hf
  have hh : Evt fun fu => ∀ x ∈ xs, sl5Sx_M fu x = some (GType.enc x) := Evt.list (l := xs) fun x hm => ih x hm (hx x hm)
  refine Evt.succ (hh.imp fun fu h => ?_)
  have hr : ∀ v x, v.length ≤ 1 → sl5Sx_R3 fu (sl5Sx_M fu) (.mk k n xs) v x = some (.inr (v ++ [x] ++ GType.encs xs)) := by
    intro v x hv
    unfold sl5Sx_R3
    rw [GType.gArgs_mk]
    have := loopN_inv (f := sl5Sx_F3 fu (sl5Sx_M fu) (.mk k n xs) v x) (fun i => v ++ [x] ++ (xs.take i).map GType.enc) (n := xs.length) fun i hi => by
      unfold sl5Sx_F3
      rw [GType.gArgs_mk, h _ (atD_mem hi), bd_some, gdT (by simp; omega) rfl, take_atD hi, List.map_append, List.append_assoc _ _ (List.map _ _), List.append_assoc]
      simp
    simp only [List.take_length, List.take_zero, List.map_nil, List.append_nil] at this
    rw [GType.encs_map]
    exact this
  show sl5Sx_G fu (sl5Sx_M fu) _ = _
  unfold sl5Sx_G sl5Sx_C1 sl5Sx_C2
  rw [GType.gKind_mk, GType.gName_mk, GType.gArgs_mk, GType.enc]
  have hz1 : (x_27 : ByteArray).size = 1 := rfl
  by_cases h1 : k = 1
  · rw [if_pos h1, decide_eq_true h1]
    show so (gd _ _) _ = _
    rw [gdT (by omega) rfl]
    rfl
  · rw [if_neg h1, decide_eq_false h1]
    by_cases h4 : k = 4
    · rw [if_pos h4, decide_eq_true h4]
      show so (bd (gd _ _) _) _ = _
      rw [gdT (by simp) rfl]
      rfl
    · rw [if_neg h4, decide_eq_false h4]
      by_cases h3' : k = 3
      · rw [if_pos h3', decide_eq_false (by omega : ¬ k = 2), decide_eq_true h3']
        show so (gd _ _) _ = _
        rw [gdT (by simp) rfl]
        show gd _ _ = _
        rw [gdT (by simp) rfl]
        show so (sl5Sx_R3 fu (sl5Sx_M fu) (.mk k n xs) _ _) _ = _
        rw [hr _ _ (by simp)]
        rfl
      · have h2 : k = 2 := by omega
        rw [if_neg h3', decide_eq_true h2, decide_eq_false h3']
        by_cases h0 : xs.length = 0
        · rw [if_pos h0, decide_eq_true (by omega)]
          rfl
        · rw [if_neg h0, decide_eq_false (by omega)]
          show gd _ _ = _
          rw [gdT (by simp) rfl]
          show so (sl5Sx_R3 fu (sl5Sx_M fu) (.mk k n xs) _ _) _ = _
          rw [hr _ _ (by simp)]
          rfl
end Go.Proofs.Ytmpepccpnnldoaa

namespace Go.Proofs.Ytmpepccpnnldoaa
set_option linter.unusedSimpArgs false
set_option linter.unusedVariables false
open Go.RowKit Go.Proofs

def okC39 (c : UInt8) : Bool := lowC c || (digC c || decide ((c.toNat : Int) = 39))
/-- A valid atom, and no other byte than a name has and 39. -/
structure AtomG (a : ByteArray) : Prop where
  low : 1 ≤ a.size
  up : a.size ≤ 12
  all : ∀ c ∈ a.data.toList, okC39 c = true
mutual
def GSExpr.okF : GSExpr → Prop
  | .mk a l => (AtomG a ∧ l = []) ∨ (a = s_ ∧ GSExpr.okFs l)
def GSExpr.okFs : List GSExpr → Prop
  | [] => True
  | x :: r => GSExpr.okF x ∧ GSExpr.okFs r
end
mutual
def GSExpr.cnt : GSExpr → Nat
  | .mk _ l => 1 + GSExpr.cnts l
def GSExpr.cnts : List GSExpr → Nat
  | [] => 0
  | x :: r => GSExpr.cnt x + GSExpr.cnts r
end
mutual
def GSExpr.dp : GSExpr → Nat
  | .mk a l => if a = s_ then GSExpr.dps l + 1 else 0
def GSExpr.dps : List GSExpr → Nat
  | [] => 0
  | x :: r => max (GSExpr.dp x) (GSExpr.dps r)
end
theorem GSExpr.okFs_all : ∀ {l : List GSExpr}, GSExpr.okFs l → ∀ x ∈ l, GSExpr.okF x
  | [], _, x, h => by simp at h
  | a :: l, ⟨h1, h2⟩, x, h => by
    rcases List.mem_cons.1 h with rfl | h
    · exact h1
    · exact GSExpr.okFs_all h2 x h
theorem GSExpr.cnts_app : ∀ a b : List GSExpr, GSExpr.cnts (a ++ b) = GSExpr.cnts a + GSExpr.cnts b
  | [], b => by simp [GSExpr.cnts]
  | x :: r, b => by rw [List.cons_append, GSExpr.cnts, GSExpr.cnts, GSExpr.cnts_app r b]; omega
theorem GSExpr.dps_app : ∀ a b : List GSExpr, GSExpr.dps (a ++ b) = max (GSExpr.dps a) (GSExpr.dps b)
  | [], b => by simp [GSExpr.dps]
  | x :: r, b => by rw [List.cons_append, GSExpr.dps, GSExpr.dps, GSExpr.dps_app r b]; omega
theorem GSExpr.cnts_le {xs : List GSExpr} {x : GSExpr} (h : x ∈ xs) : GSExpr.cnt x ≤ GSExpr.cnts xs := by
  induction xs with
  | nil => simp at h
  | cons a r ih =>
    rw [GSExpr.cnts]
    rcases List.mem_cons.1 h with rfl | h
    · omega
    · have := ih h; omega
theorem GSExpr.dp_sz : ∀ t : GSExpr, GSExpr.dp t ≤ GSExpr.cnt t := by
  refine GSExpr.ind fun a xs ih => ?_
  rw [GSExpr.dp, GSExpr.cnt]
  have : ∀ l : List GSExpr, (∀ x ∈ l, GSExpr.dp x ≤ GSExpr.cnt x) → GSExpr.dps l ≤ GSExpr.cnts l := by
    intro l
    induction l with
    | nil => intro _; simp [GSExpr.dps]
    | cons a l ihl =>
      intro h
      have h1 := h a (by simp)
      have h2 := ihl fun x hx => h x (by simp [hx])
      rw [GSExpr.dps, GSExpr.cnts]
      omega
  have := this xs ih
  split <;> omega

/-! ### atoms -/
theorem abyte_i (fu : Nat) {c : UInt8} (h : okC39 c = true) : iisAtomByte_M fu c = some true := by
  unfold iisAtomByte_M
  rw [low_i, dig_i, bd_some]
  unfold okC39 at h
  cases hl : lowC c
  · cases hd : digC c
    · rw [hl, hd] at h
      have h : (c.toNat : Int) = 39 := by simpa using h
      have hc : c = 39 := by
        apply UInt8.toNat_inj.1
        have : (39 : UInt8).toNat = 39 := rfl
        omega
      subst hc
      show gd _ _ = _
      exact gdT (by decide) (by decide)
    · rfl
  · rfl
theorem abyte_s (fu : Nat) {c : UInt8} (h : okC39 c = true) : sl2Byte_M fu c = some true := by
  unfold sl2Byte_M
  unfold okC39 lowC digC at h
  cases h1 : decide ((c.toNat : Int) ≥ 97) <;> cases h2 : decide ((c.toNat : Int) ≤ 122) <;> cases h3 : decide ((c.toNat : Int) ≥ 48) <;> cases h4 : decide ((c.toNat : Int) ≤ 57) <;> cases h5 : decide ((c.toNat : Int) = 39) <;> rw [h1, h2, h3, h4, h5] at h <;> first | rfl | cases h
theorem all_range {n : Nat} {p : Nat → Bool} (h : ∀ i, i < n → p i = true) : (List.range n).all p = true := by
  rw [List.all_eq_true]
  intro i hi
  exact h i (by simpa using hi)
theorem atom_i (fu : Nat) {a : ByteArray} (h : AtomG a) : iIsValidAtom_M fu a = some true := by
  unfold iIsValidAtom_M iIsValidAtom_R1
  rw [loopN_rng (p := fun _ => true) (r := false) (fun i hi => by
    unfold iIsValidAtom_F1
    rw [gdT hi rfl, abyte_i fu (h.all _ (bAt_mem hi))]
    rfl), all_range (fun _ _ => rfl)]
  have h1 := h.low
  have h2 := h.up
  show sw _ _ _ = _
  rw [decide_eq_true (by omega), decide_eq_true (by omega)]
  rfl
theorem atom_s (fu : Nat) {a : ByteArray} (h : AtomG a) : sIsValidAtom_M fu a = some true := by
  unfold sIsValidAtom_M sIsValidAtom_R1
  rw [loopN_rng (p := fun _ => true) (r := false) (fun i hi => by
    unfold sIsValidAtom_F1
    rw [gdT hi rfl, abyte_s fu (h.all _ (bAt_mem hi))]
    rfl), all_range (fun _ _ => rfl)]
  have h1 := h.low
  have h2 := h.up
  show bd (sl1In_M _ _ _ _) _ = _
  rw [in_s, decide_eq_true (by omega), decide_eq_true (by omega)]
  rfl
theorem AtomG.ne {a : ByteArray} (h : AtomG a) : ¬ a = s_ := fun e => by have := h.low; rw [e] at this; exact absurd this (by decide)

/-! ### the form -/
theorem form2_i : ∀ x : GSExpr, GSExpr.okF x → Evt fun fu => iareAtoms_M fu x = some true := by
  refine GSExpr.ind fun a xs ih hf => ?_
  rw [GSExpr.okF] at hf
  rcases hf with ⟨ha, rfl⟩ | ⟨rfl, hl⟩
  · refine Evt.succ (Evt.all fun fu => ?_)
    show iareAtoms_G fu _ _ _ _ _ = _
    unfold iareAtoms_G
    rw [GSExpr.gAtom_mk, GSExpr.gList_mk, atom_i fu ha, decide_eq_false ha.ne]
    rfl
  · have hh : Evt fun fu => ∀ x ∈ xs, iareAtoms_M fu x = some true := Evt.list (l := xs) fun x hm => ih x hm (GSExpr.okFs_all hl x hm)
    refine Evt.succ (Evt.succ (Evt.succ (Evt.succ (hh.imp fun fu h => ?_))))
    have hc : gContainsFunc_SExpr__iareAtoms_1_M (fu + 3) xs = some false := by
      show bd (so (loopN _ _ _ _) _) _ = _
      rw [loopN_index (p := fun _ => false) (fun i hi => by
        unfold gIndexFunc_SExpr__iareAtoms_1_F1
        show bd (bd (iareAtoms_M fu _) _) _ = _
        rw [h _ (atD_mem hi)]
        rfl)]
      have h2 := index_any (l := xs) (p := fun _ => false)
      have h3 : (xs.any fun _ => false) = false := by simp
      rw [h3] at h2
      cases hf : List.findIdx? (fun _ => false) xs with
      | none => rfl
      | some i =>
        rw [hf] at h2
        exact congrArg some h2
    show iareAtoms_G (fu + 3) _ _ _ _ _ = _
    unfold iareAtoms_G
    rw [GSExpr.gAtom_mk, GSExpr.gList_mk, hc, decide_eq_true rfl]
    rfl
theorem form2_s : ∀ x : GSExpr, GSExpr.okF x → Evt fun fu => sl2Form_M fu x = some true := by
  refine GSExpr.ind fun a xs ih hf => ?_
  rw [GSExpr.okF] at hf
  rcases hf with ⟨ha, rfl⟩ | ⟨rfl, hl⟩
  · refine Evt.succ (Evt.all fun fu => ?_)
    show sl2Form_G fu _ _ = _
    unfold sl2Form_G
    rw [GSExpr.gAtom_mk, GSExpr.gList_mk, atom_s fu ha, decide_eq_false ha.ne]
    rfl
  · have hh : Evt fun fu => ∀ x ∈ xs, sl2Form_M fu x = some true := Evt.list (l := xs) fun x hm => ih x hm (GSExpr.okFs_all hl x hm)
    refine Evt.succ (hh.imp fun fu h => ?_)
    show sl2Form_G fu _ _ = _
    unfold sl2Form_G sl2Form_R1
    rw [GSExpr.gAtom_mk, GSExpr.gList_mk, decide_eq_true rfl]
    show so (loopN _ _ _ _) _ = _
    rw [loopN_every (p := fun _ => true) (r := false) (fun i hi => by
      unfold sl2Form_F1
      rw [GSExpr.gList_mk, h _ (atD_mem hi)]
      rfl)]
    rw [if_pos (by simp)]
    rfl
/-! ### depth and size -/
theorem dp_i : ∀ t : GSExpr, GSExpr.cnt t ≤ 4294967296 → Evt fun fu => iSExprDepth_M fu t = some (GSExpr.dp t : Int) := by
  refine GSExpr.ind fun a xs ih hz => ?_
  rw [GSExpr.cnt] at hz
  refine Evt.succ ((Evt.list (l := xs) fun x hx => ih x hx (by have := GSExpr.cnts_le hx; omega)).imp fun fu h => ?_)
  show iSExprDepth_G fu (iSExprDepth_M fu) _ = _
  unfold iSExprDepth_G iSExprDepth_R1
  rw [GSExpr.gAtom_mk, GSExpr.gList_mk, GSExpr.dp]
  by_cases ha : a = s_
  · rw [if_pos ha, decide_eq_true ha]
    have hd : GSExpr.dps xs ≤ GSExpr.cnts xs := by
      have : ∀ l : List GSExpr, GSExpr.dps l ≤ GSExpr.cnts l := by
        intro l
        induction l with
        | nil => simp [GSExpr.dps]
        | cons a l ihl =>
          have h1 := GSExpr.dp_sz a
          rw [GSExpr.dps, GSExpr.cnts]
          omega
      exact this xs
    refine soR (loopN_inv (fun i => ((GSExpr.dps (xs.take i) : Nat) : Int)) (n := xs.length) fun i hi => ?_) ?_
    · unfold iSExprDepth_F1
      have hm := atD_mem hi
      rw [GSExpr.gList_mk, h _ hm, take_atD hi, GSExpr.dps_app]
      show some (LR.next (max _ _)) = _
      simp only [GSExpr.dps]
      congr 2
      omega
    · rw [List.take_length, wrap_in (by omega) (by omega)]
      congr 1
  · rw [if_neg ha, decide_eq_false ha]
    rfl
theorem dp_s : ∀ t : GSExpr, GSExpr.cnt t ≤ 4294967296 → Evt fun fu => sSExprDepth_M fu t = some (GSExpr.dp t : Int) := by
  refine GSExpr.ind fun a xs ih hz => ?_
  rw [GSExpr.cnt] at hz
  refine Evt.succ ((Evt.list (l := xs) fun x hx => ih x hx (by have := GSExpr.cnts_le hx; omega)).imp fun fu h => ?_)
  show sSExprDepth_G fu (sSExprDepth_M fu) _ = _
  unfold sSExprDepth_G sSExprDepth_R1
  rw [GSExpr.gAtom_mk, GSExpr.gList_mk, GSExpr.dp]
  by_cases ha : a = s_
  · rw [if_pos ha, decide_eq_true ha]
    have hd : GSExpr.dps xs ≤ GSExpr.cnts xs := by
      have : ∀ l : List GSExpr, GSExpr.dps l ≤ GSExpr.cnts l := by
        intro l
        induction l with
        | nil => simp [GSExpr.dps]
        | cons a l ihl =>
          have h1 := GSExpr.dp_sz a
          rw [GSExpr.dps, GSExpr.cnts]
          omega
      exact this xs
    refine soR (loopN_inv (fun i => ((GSExpr.dps (xs.take i) : Nat) : Int)) (n := xs.length) fun i hi => ?_) ?_
    · unfold sSExprDepth_F1
      have hm := atD_mem hi
      rw [GSExpr.gList_mk, h _ hm, take_atD hi, GSExpr.dps_app]
      show bd (sl1Max_M _ _ _) _ = _
      rw [max_s]
      show some (LR.next _) = _
      simp only [GSExpr.dps]
      congr 2
      omega
    · rw [List.take_length, wrap_in (by omega) (by omega)]
      congr 1
  · rw [if_neg ha, decide_eq_false ha]
    rfl
theorem sz_i : ∀ t : GSExpr, GSExpr.cnt t ≤ 4294967296 → Evt fun fu => iSExprSize_M fu t = some (GSExpr.cnt t : Int) := by
  refine GSExpr.ind fun a xs ih hz => ?_
  rw [GSExpr.cnt] at hz
  refine Evt.succ ((Evt.list (l := xs) fun x hx => ih x hx (by have := GSExpr.cnts_le hx; omega)).imp fun fu h => ?_)
  show iSExprSize_G fu (iSExprSize_M fu) _ = _
  unfold iSExprSize_G iSExprSize_R1
  refine soR (loopN_inv (fun i => ((1 + GSExpr.cnts (xs.take i) : Nat) : Int)) (n := xs.length) fun i hi => ?_) ?_
  · unfold iSExprSize_F1
    have hm := atD_mem hi
    rw [GSExpr.gList_mk, h _ hm]
    have h3 := congrArg GSExpr.cnts (List.take_append_drop (i + 1) xs)
    rw [GSExpr.cnts_app, take_atD hi, GSExpr.cnts_app] at h3
    simp only [GSExpr.cnts] at h3
    show some (LR.next (wrap64 _)) = _
    rw [wrap_in (by omega) (by omega), take_atD hi, GSExpr.cnts_app]
    simp only [GSExpr.cnts]
    congr 2
    omega
  · rw [List.take_length, GSExpr.cnt]
theorem left2_s : ∀ t : GSExpr, Evt fun fu => ∀ L : Int, 0 ≤ L → L ≤ 1000 → Ok (sl2Left_M fu t L) (fun r => ((GSExpr.cnt t : Int) ≤ L ∧ r = L - GSExpr.cnt t) ∨ (L < GSExpr.cnt t ∧ r < 0)) := by
  refine GSExpr.ind fun a xs ih => ?_; refine Evt.succ ((Evt.list (l := xs) fun x hx => ih x hx).imp fun fu h L h0 h1 => ?_)
  show Ok (sl2Left_G fu (sl2Left_M fu) _ L) _
  unfold sl2Left_G sl2Left_R1
  rw [wrap_in (by omega) (by omega), GSExpr.cnt]
  refine Ok.so (Q := PS (fun _ => False) fun v => ((1 + GSExpr.cnts xs : Nat) : Int) ≤ L ∧ v = L - (1 + GSExpr.cnts xs : Nat) ∨ L < ((1 + GSExpr.cnts xs : Nat) : Int) ∧ v < 0) ?_ (fun x hx => by cases hx) (fun v hv => Ok.some hv)
  refine Ok.loopN0 (fun i v => i ≤ xs.length ∧ (((1 + GSExpr.cnts (xs.take i) : Nat) : Int) ≤ L ∧ v = L - (1 + GSExpr.cnts (xs.take i) : Nat) ∨ L < ((1 + GSExpr.cnts (xs.take i) : Nat) : Int) ∧ v < 0)) ⟨Nat.zero_le _, ?_⟩ ?_ ?_
  · simp only [List.take_zero, GSExpr.cnts]
    omega
  · rintro i v hi ⟨hi2, hv⟩
    obtain rfl : i = xs.length := by rw [GSExpr.gList_mk] at hi; omega
    rwa [List.take_length] at hv
  · rintro i v hi ⟨hi2, hv⟩
    rw [GSExpr.gList_mk] at hi
    have h3 := congrArg GSExpr.cnts (List.take_append_drop i xs)
    rw [GSExpr.cnts_app] at h3
    unfold sl2Left_F1
    refine Ok.sw (fun hc => ?_) (fun hc => ?_)
    · have hc : v ≥ 0 := by simpa using hc
      rw [GSExpr.gList_mk]
      refine Ok.bd (h _ (atD_mem hi) v hc (by omega)) fun r hr => Ok.some ⟨hi, ?_⟩
      rw [take_atD hi, GSExpr.cnts_app]
      simp only [GSExpr.cnts]
      omega
    · have hc : ¬ v ≥ 0 := by simpa using hc
      refine Ok.some ?_
      show _ ∨ _
      omega
theorem vldX_i {x : GSExpr} (h1 : GSExpr.okF x) (h2 : GSExpr.cnt x ≤ 900) (h3 : GSExpr.dp x ≤ 14) : Evt fun fu => iIsValidSExpr_M fu x = some true := by
  refine ((form2_i x h1).and ((dp_i x (by omega)).and (sz_i x (by omega)))).imp fun fu ⟨e1, e2, e3⟩ => ?_
  unfold iIsValidSExpr_M
  rw [e1, e2, e3]
  simp only [bd_some]
  rw [decide_eq_true (by omega), decide_eq_true (by omega)]
  rfl
theorem vldX_s {x : GSExpr} (h1 : GSExpr.okF x) (h2 : GSExpr.cnt x ≤ 900) (h3 : GSExpr.dp x ≤ 14) : Evt fun fu => sIsValidSExpr_M fu x = some true := by
  refine ((form2_s x h1).and ((dp_s x (by omega)).and (left2_s x))).imp fun fu ⟨e1, e2, e3⟩ => ?_
  obtain ⟨r, hr, hp⟩ := e3 900 (by decide) (by decide)
  unfold sIsValidSExpr_M
  rw [hr, e1, e2]
  simp only [bd_some]
  rw [decide_eq_true (by omega), decide_eq_true (by omega)]
  rfl
end Go.Proofs.Ytmpepccpnnldoaa

namespace Go.Proofs.Ytmpepccpnnldoaa
set_option linter.unusedSimpArgs false
set_option linter.unusedVariables false
open Go.RowKit Go.Proofs

theorem atom_chars {n : ByteArray} (h : ∀ i, i < n.size → okC39 (bAt n i) = true) : ∀ c ∈ n.data.toList, okC39 c = true := by
  intro c hc
  obtain ⟨i, hi, rfl⟩ := List.getElem_of_mem hc
  have hi2 : i < n.size := by rwa [dataLen] at hi
  rw [← bAt_data hi2]
  exact h i hi2
theorem atom_nm {n : ByteArray} (h : nmB n = true) : AtomG n := by
  have hz := nm_size h
  refine ⟨hz.1, by omega, atom_chars fun i hi => ?_⟩
  unfold nmB at h
  rw [Bool.and_eq_true, List.all_eq_true] at h
  have h1 := h.1 i (by simpa using hi)
  unfold nmAt at h1
  unfold okC39
  cases hl : lowC (bAt n i)
  · rw [hl] at h1
    cases hd : digC (bAt n i)
    · rw [hd] at h1; simp at h1
    · rfl
  · rfl
theorem atom_int : AtomG s_int := ⟨by decide, by decide, by decide⟩
theorem atom_bool : AtomG s_bool := ⟨by decide, by decide, by decide⟩
theorem atom_dyn : AtomG s_dyn := ⟨by decide, by decide, by decide⟩
theorem atom_assoc : AtomG s_assoc := ⟨by decide, by decide, by decide⟩
theorem atom_var {n : ByteArray} (h : nmB n = true) : AtomG (x_27 ++ n) := by
  have hz := nm_size h
  have ha := atom_nm h
  have e : (x_27 ++ n).size = 1 + n.size := by rw [← dataLen, dataApp, List.length_append, dataLen, dataLen]; rfl
  refine ⟨by omega, by omega, fun c hc => ?_⟩
  rw [dataApp, List.mem_append] at hc
  rcases hc with hc | hc
  · have : c = 39 := by simpa using hc
    subst this
    decide
  · exact ha.all c hc
theorem atom_form {k : Int} {n : ByteArray} {xs : List GType} (h : GType.formB (.mk k n xs) = true) : AtomG n := by
  rcases (form_inv h).2.1 with h | ⟨-, rfl | rfl⟩
  · exact atom_nm h
  · exact atom_int
  · exact atom_bool
theorem AtomG.okF {a : ByteArray} (h : AtomG a) : GSExpr.okF (.mk a []) := by rw [GSExpr.okF]; exact .inl ⟨h, rfl⟩
theorem AtomG.dp {a : ByteArray} (h : AtomG a) : GSExpr.dp (.mk a []) = 0 := by rw [GSExpr.dp, if_neg h.ne]
theorem cnt_atom (a : ByteArray) : GSExpr.cnt (.mk a []) = 1 := by rw [GSExpr.cnt, GSExpr.cnts]
theorem enc_ok : ∀ t : GType, GType.formB t = true → GSExpr.okF (GType.enc t) ∧ GSExpr.cnt (GType.enc t) ≤ 3 * GType.size t ∧ GSExpr.dp (GType.enc t) ≤ GType.dep t + 1 := by
  refine GType.ind fun k n xs ih hf => ?_
  have ha := atom_form hf
  obtain ⟨hk, hn, h14, h3, hl, hx⟩ := form_inv hf
  have hE : ∀ l : List GType, (∀ x ∈ l, GSExpr.okF (GType.enc x) ∧ GSExpr.cnt (GType.enc x) ≤ 3 * GType.size x ∧ GSExpr.dp (GType.enc x) ≤ GType.dep x + 1) →
      GSExpr.okFs (GType.encs l) ∧ GSExpr.cnts (GType.encs l) ≤ 3 * GType.sizes l ∧ GSExpr.dps (GType.encs l) ≤ GType.deps l := by
    intro l
    induction l with
    | nil => intro _; exact ⟨trivial, by simp [GType.encs, GSExpr.cnts], by simp [GType.encs, GSExpr.dps]⟩
    | cons a l ihl =>
      intro h
      obtain ⟨a1, a2, a3⟩ := h a (by simp)
      obtain ⟨b1, b2, b3⟩ := ihl fun x hx => h x (by simp [hx])
      rw [GType.encs, GSExpr.cnts, GSExpr.dps, GType.sizes, GType.deps]
      exact ⟨⟨a1, b1⟩, by omega, by omega⟩
  obtain ⟨e1, e2, e3⟩ := hE xs fun x hm => ih x hm (hx x hm)
  have hatt : ∀ a l, AtomG a → GSExpr.okFs l → GSExpr.okFs (.mk a [] :: l) := fun a l h1 h2 => ⟨h1.okF, h2⟩
  rw [GType.enc, GType.size, GType.dep]
  by_cases h1 : k = 1
  · have hv : nmB n = true := hn.resolve_right fun h => by omega
    rw [if_pos h1, cnt_atom, (atom_var hv).dp]
    exact ⟨(atom_var hv).okF, by omega, by omega⟩
  · rw [if_neg h1]
    by_cases h4 : k = 4
    · rw [if_pos h4, GSExpr.cnt, GSExpr.cnts, GSExpr.cnts, GSExpr.cnts, cnt_atom, cnt_atom, GSExpr.dp, if_pos rfl, GSExpr.dps, GSExpr.dps, GSExpr.dps, atom_dyn.dp, ha.dp, GSExpr.okF]
      exact ⟨.inr ⟨rfl, hatt _ _ atom_dyn (hatt _ _ ha trivial)⟩, by omega, by omega⟩
    · rw [if_neg h4]
      by_cases h3' : k = 3
      · rw [if_pos h3', GSExpr.cnt, GSExpr.cnts, GSExpr.cnts, cnt_atom, cnt_atom, GSExpr.dp, if_pos rfl, GSExpr.dps, GSExpr.dps, atom_assoc.dp, ha.dp, GSExpr.okF]
        exact ⟨.inr ⟨rfl, hatt _ _ atom_assoc (hatt _ _ ha e1)⟩, by omega, by omega⟩
      · rw [if_neg h3']
        by_cases h0 : xs.length = 0
        · rw [if_pos h0, cnt_atom, ha.dp]
          exact ⟨ha.okF, by omega, by omega⟩
        · rw [if_neg h0, GSExpr.cnt, GSExpr.cnts, cnt_atom, GSExpr.dp, if_pos rfl, GSExpr.dps, ha.dp, GSExpr.okF]
          exact ⟨.inr ⟨rfl, hatt _ _ ha e1⟩, by omega, by omega⟩

/-! ### the text -/
theorem GSExpr.txts_app : ∀ (z : Bool) (a b : List GSExpr), GSExpr.txts z (a ++ b) = GSExpr.txts z a ++ GSExpr.txts (z && a.isEmpty) b
  | z, [], b => by simp [GSExpr.txts]
  | z, x :: r, b => by
    rw [List.cons_append, GSExpr.txts, GSExpr.txts, GSExpr.txts_app false r b]
    simp
theorem GSExpr.cnts_len : ∀ l : List GSExpr, l.length ≤ GSExpr.cnts l
  | [] => by simp
  | .mk a xs :: r => by
    have := GSExpr.cnts_len r
    rw [GSExpr.cnts, GSExpr.cnt, List.length_cons]
    omega
theorem txts_len : ∀ {l : List GSExpr}, (∀ x ∈ l, (GSExpr.txt x).length + 1 ≤ 16 * GSExpr.cnt x) → ∀ z, (GSExpr.txts z l).length ≤ 16 * GSExpr.cnts l
  | [], _, z => by simp [GSExpr.txts]
  | x :: r, h, z => by
    have h1 := h x (by simp)
    have h2 := txts_len (l := r) (fun y hy => h y (by simp [hy])) false
    have h3 : (if z = true then [] else [32] : List UInt8).length ≤ 1 := by split <;> simp
    rw [GSExpr.txts, GSExpr.cnts, List.length_append, List.length_append]
    omega
theorem txt_len : ∀ x : GSExpr, GSExpr.okF x → (GSExpr.txt x).length + 1 ≤ 16 * GSExpr.cnt x := by
  refine GSExpr.ind fun a xs ih hf => ?_
  rw [GSExpr.okF] at hf
  rw [GSExpr.txt, GSExpr.cnt]
  rcases hf with ⟨ha, rfl⟩ | ⟨rfl, hl⟩
  · rw [if_neg ha.ne, dataLen]
    have := ha.up
    omega
  · have := txts_len (l := xs) (fun x hx => ih x hx (GSExpr.okFs_all hl x hx)) true
    rw [if_pos rfl]
    simp only [List.length_cons, List.length_append, List.length_nil]
    omega
theorem atD_map {α β : Type} [Inhabited α] [Inhabited β] {f : α → β} {l : List α} {i : Nat} (h : i < l.length) : atD (l.map f) i = f (atD l i) := by
  rw [atD_eq (by simpa using h), atD_eq h, List.getElem_map]
theorem bytesStr_data (l : List UInt8) : (bytesStr l).data.toList = l := by unfold bytesStr; simp
theorem join_s (fu : Nat) (xs : List GSExpr) (h : (GSExpr.txts true xs).length ≤ 68719476736) : sJoin_M fu (xs.map fun y => bytesStr (GSExpr.txt y)) x_20 = some (bytesStr (GSExpr.txts true xs)) := by
  unfold sJoin_M sJoin_R1
  have hw : ∀ i, i < xs.length → GSExpr.txts true xs = GSExpr.txts true (xs.take i) ++ ((if (i == 0) then [] else [32]) ++ (GSExpr.txt (atD xs i) ++ GSExpr.txts false (xs.drop (i + 1)))) := by
    intro i hi
    have h1 := GSExpr.txts_app true (xs.take i) (xs.drop i)
    rw [List.take_append_drop] at h1
    have h2 : (true && (xs.take i).isEmpty) = (i == 0) := by
      cases i with
      | zero => simp
      | succ i =>
        have : xs ≠ [] := by intro e; subst e; simp at hi
        simp [this]
    rw [h1, h2, GSExpr.txts_step _ hi, atD_eq hi]
  have hs : ∀ i, i < xs.length → GSExpr.txts true (xs.take (i + 1)) = GSExpr.txts true (xs.take i) ++ ((if (i == 0) then [] else [32]) ++ GSExpr.txt (atD xs i)) := by
    intro i hi
    have h2 : (true && (xs.take i).isEmpty) = (i == 0) := by
      cases i with
      | zero => simp
      | succ i =>
        have : xs ≠ [] := by intro e; subst e; simp at hi
        simp [this]
    rw [take_atD hi, GSExpr.txts_app, h2, GSExpr.txts, GSExpr.txts, List.append_nil]
  have hl : loopN (sJoin_F1 fu (xs.map fun y => bytesStr (GSExpr.txt y)) x_20) (xs.length - 0) 0 [] = some (.inr (GSExpr.txts true xs)) := by
    have := loopN_inv (f := sJoin_F1 fu (xs.map fun y => bytesStr (GSExpr.txt y)) x_20) (fun i => GSExpr.txts true (xs.take i)) (n := xs.length) fun i hi => by
      have e1 := congrArg List.length (hw i hi)
      unfold sJoin_F1
      rw [atD_map hi, bytesStr_data, hs i hi]
      by_cases h0 : i = 0
      · subst h0
        have hb : ((0 : Nat) == 0) = true := rfl
        rw [hb] at e1 ⊢
        simp only [if_true, List.nil_append, List.length_append] at e1 ⊢
        show gd _ _ = _
        exact gdT (by omega) rfl
      · have hb : (i == 0) = false := by simpa using h0
        rw [hb] at e1 ⊢
        rw [decide_eq_true (by omega)]
        simp only [Bool.false_eq_true, if_false, List.length_append, List.length_cons, List.length_nil] at e1 ⊢
        show gd _ (gd _ _) = _
        rw [gdT (by simp; omega) rfl, gdT (by simp; omega) rfl, List.append_assoc]
    rw [List.take_length, List.take_zero, GSExpr.txts] at this
    exact this
  rw [List.length_map, hl]
  rfl
theorem sizeApp (a b : ByteArray) : (a ++ b).size = a.size + b.size := by rw [← dataLen, dataApp, List.length_append, dataLen, dataLen]
theorem text_s : ∀ x : GSExpr, GSExpr.okF x → GSExpr.cnt x ≤ 900 → Evt fun fu => sl2Text_M fu x = some (bytesStr (GSExpr.txt x)) := by
  refine GSExpr.ind fun a xs ih hf hz => ?_
  have hlen := txt_len _ hf
  rw [GSExpr.okF] at hf
  rw [GSExpr.txt] at hlen ⊢
  rcases hf with ⟨ha, rfl⟩ | ⟨rfl, hl⟩
  · refine Evt.succ (Evt.all fun fu => ?_)
    show sl2Text_G fu _ _ = _
    unfold sl2Text_G
    rw [GSExpr.gAtom_mk, decide_eq_false ha.ne, if_neg ha.ne]
    show some a = _
    exact congrArg some (dataInj (bytesStr_data _).symm)
  · rw [GSExpr.cnt] at hz hlen
    rw [if_pos rfl] at hlen ⊢
    have hcl := GSExpr.cnts_len xs
    have hh : Evt fun fu => ∀ x ∈ xs, sl2Text_M fu x = some (bytesStr (GSExpr.txt x)) := Evt.list (l := xs) fun x hm => ih x hm (GSExpr.okFs_all hl x hm) (by have := GSExpr.cnts_le hm; omega)
    refine Evt.succ (hh.imp fun fu h => ?_)
    simp only [List.length_cons, List.length_append, List.length_nil] at hlen
    show sl2Text_G fu _ _ = _
    unfold sl2Text_G sl2Text_R1
    rw [GSExpr.gAtom_mk, GSExpr.gList_mk, decide_eq_true rfl]
    show so (loopN _ _ _ _) _ = _
    refine soR (loopN_inv (fun i => (xs.take i).map fun y => bytesStr (GSExpr.txt y)) (n := xs.length) fun i hi => ?_) ?_
    · unfold sl2Text_F1
      rw [GSExpr.gList_mk, h _ (atD_mem hi), bd_some, gdT (by simp; omega) rfl, take_atD hi, List.map_append]
      rfl
    · rw [List.take_length, join_s fu xs (by omega), bd_some]
      have h28 : (x_28 : ByteArray).size = 1 := rfl
      have h29 : (x_29 : ByteArray).size = 1 := rfl
      rw [gdT (by rw [bytesStr_size]; omega) rfl, gdT (by rw [sizeApp, bytesStr_size]; omega) rfl]
      congr 1
/-! ### the goal -/
def goalX (b : GBound) : GSExpr := .mk s_ [.mk b.gTrait [], GType.enc b.gType]
def goalTxt (b : GBound) : ByteArray := if vldBd b = true then bytesStr (GSExpr.txt (goalX b)) else s_
theorem goal_ok {b : GBound} (h : vldBd b = true) : AtomG b.gTrait ∧ GType.formB b.gType = true ∧ GSExpr.okF (GType.enc b.gType) ∧ GSExpr.cnt (GType.enc b.gType) ≤ 180 ∧ GSExpr.dp (GType.enc b.gType) ≤ 7 := by
  unfold vldBd vldT at h
  simp only [Bool.and_eq_true, decide_eq_true_eq] at h
  obtain ⟨h1, h2, h3, h4⟩ := h
  obtain ⟨e1, e2, e3⟩ := enc_ok _ h2
  exact ⟨atom_nm h1, h2, e1, by omega, by omega⟩
theorem goalX_ok {b : GBound} (h : vldBd b = true) : GSExpr.okF (goalX b) ∧ GSExpr.cnt (goalX b) ≤ 182 ∧ GSExpr.dp (goalX b) ≤ 8 := by
  obtain ⟨h1, h2, h3, h4, h5⟩ := goal_ok h
  unfold goalX
  rw [GSExpr.okF, GSExpr.cnt, GSExpr.cnts, GSExpr.cnts, GSExpr.cnts, cnt_atom, GSExpr.dp, if_pos rfl, GSExpr.dps, GSExpr.dps, GSExpr.dps, h1.dp]
  exact ⟨.inr ⟨rfl, h1.okF, h3, trivial⟩, by omega, by omega⟩
theorem fmt_i (b : GBound) (h : GType.size b.gType ≤ 4294967296) : Evt fun fu => iFormatGoal_M fu b = some (goalTxt b) := by
  cases hv : vldBd b
  · refine (vldBd_i b h).imp fun fu e => ?_
    unfold iFormatGoal_M goalTxt
    rw [e, hv]
    rfl
  · obtain ⟨h1, h2, h3, h4, h5⟩ := goal_ok hv
    obtain ⟨g1, g2, g3⟩ := goalX_ok hv
    have gl := txt_len _ g1
    refine ((vldBd_i b h).and ((enc_i _ h2).and (vldX_i g1 (by omega) (by omega)))).imp fun fu ⟨e1, e2, e3⟩ => ?_
    unfold iFormatGoal_M goalTxt
    rw [e1, e2, hv, if_pos rfl]
    show bd (iFormatSExpr_M fu (goalX b)) _ = _
    unfold iFormatSExpr_M
    rw [e3, bd_some, if_pos rfl, if_pos (by omega)]
    rfl
theorem fmt_s (b : GBound) (h : GType.size b.gType ≤ 4294967296) : Evt fun fu => sFormatGoal_M fu b = some (goalTxt b) := by
  cases hv : vldBd b
  · refine (vldBd_s b h).imp fun fu e => ?_
    unfold sFormatGoal_M goalTxt
    rw [e, hv]
    rfl
  · obtain ⟨h1, h2, h3, h4, h5⟩ := goal_ok hv
    have hl := txt_len _ h3
    have hvt : vldT b.gType = true := by unfold vldBd at hv; simp only [Bool.and_eq_true] at hv; exact hv.2
    refine ((vldBd_s b h).and ((vldT_s _ h).and ((enc_s _ h2).and ((vldX_s h3 (by omega) (by omega)).and (text_s _ h3 (by omega)))))).imp fun fu ⟨e1, e2, e3, e4, e5⟩ => ?_
    have hz := h1.up
    have h28 : (x_28 : ByteArray).size = 1 := rfl
    have h29 : (x_29 : ByteArray).size = 1 := rfl
    have h20 : (x_20 : ByteArray).size = 1 := rfl
    have ht : sFormatType_M fu b.gType = some (bytesStr (GSExpr.txt (GType.enc b.gType))) := by
      unfold sFormatType_M
      rw [e2, e3, hvt]
      show bd (sFormatSExpr_M fu _) _ = _
      unfold sFormatSExpr_M
      rw [e4, e5]
      rfl
    unfold sFormatGoal_M goalTxt
    rw [e1, hv, if_pos rfl, ht]
    show gd _ _ = _
    rw [gdT (by omega) rfl, gdT (by rw [sizeApp]; omega) rfl, bd_some, gdT (by rw [sizeApp, sizeApp, bytesStr_size]; omega) rfl, gdT (by rw [sizeApp, sizeApp, sizeApp, bytesStr_size]; omega) rfl]
    congr 1
    refine dataInj ?_
    rw [dataApp, dataApp, dataApp, dataApp, bytesStr_data, bytesStr_data, goalX, GSExpr.txt, if_pos rfl, GSExpr.txts, GSExpr.txts, GSExpr.txts, GSExpr.txt, if_neg h1.ne]
    simp
end Go.Proofs.Ytmpepccpnnldoaa

namespace Go.Proofs.Ytmpepccpnnldoaa
open Go.RowKit
theorem RVL0.nil {w : World} : RVL0 w [] [] := trivial
theorem RVL0.cons {w : World} {p : PV} {ps : List PV} {v : Value} {vs : List Value} (h : RV0 w p v) (k : RVL0 w ps vs) : RVL0 w (p :: ps) (v :: vs) := ⟨h, k⟩
end Go.Proofs.Ytmpepccpnnldoaa

namespace Go.Proofs.Ytmpepccpnnldoaa
open Go.RowKit Go.Proofs

theorem GBound.pv_eq (x : GBound) : GBound.pv x = .agg (x.tr.map PV.t) := by
  obtain ⟨a, ⟨k, n, l⟩⟩ := x
  rfl
theorem GBound.pv_rv {x : GBound} {cs : List Value} {w : World} (h : RepL w x.tr cs) : RV0 w (GBound.pv x) (.agg ⟨cs⟩) := by rw [GBound.pv_eq]; exact RV0.agg h
theorem fmtGoal_impl (x : GBound) (cs : List Value) (w : World) (hr : RepL w x.tr cs) (hz : GType.size x.gType ≤ 4294967296) :
    Calls Try.prog 17 #[.agg ⟨cs⟩] w fun e w' => e = .returned (.string (goalTxt x)) ∧ Ext w w' := by
  obtain ⟨fu, e⟩ := (fmt_i x hz).get
  exact (iFormatGoal_ok fu x _ e).plain (.cons (GBound.pv_rv hr) .nil)
end Go.Proofs.Ytmpepccpnnldoaa

namespace Go.Proofs.Ytmpepccpnnldoaa
open Go.RowKit

/-- The slice is nil, or its row is known whole: it begins at 0 and the row's size is the capacity's. -/
def Whole (E : TypeId) (base sz : Nat) (w : World) (n : Nat) (v : Value) : Prop :=
  (v = .slice none 0 0 ∧ n = 0) ∨ ∃ g cap cur, v = .slice (some ⟨g, 0, none⟩) n cap ∧ base ≤ g ∧ OB w g E cur ∧ n ≤ cap ∧ cap ≤ maxLen ∧ cur.size = cap * sz

structure Acc (E : TypeId) (base sz : Nat) (w : World) (es : List (List Tr)) (v : Value) (S : Nat → Prop) : Prop where
  own : Own w (.row sz es) v S
  whole : Whole E base sz w es.length v
  lens : ∀ e ∈ es, e.length = sz
  lt : ∀ x, S x → base ≤ x ∧ x < w.heap.size

theorem Acc.rep {E : TypeId} {base sz : Nat} {w : World} {es : List (List Tr)} {v : Value} {S : Nat → Prop} (h : Acc E base sz w es v S) : Rep w (.row sz es) v := h.own.rep
theorem Acc.nil (E : TypeId) (base sz : Nat) (w : World) : Acc E base sz w [] (.slice none 0 0) (fun _ => False) :=
  ⟨Own.row (es := []) (fun _ _ => undef) (fun _ _ _ => False) (by simp) (by unfold maxLen; omega) (by simp) (by simp) (by simp) (by simp), .inl ⟨rfl, rfl⟩, by simp, by simp⟩
/-- An empty slice with a row of its own. -/
theorem Acc.empty {E : TypeId} {base sz : Nat} {w : World} {g cap : Nat} {cur : Array Value} (hb : base ≤ g) (ho : OB w g E cur) (hm : cap ≤ maxLen) (hc : cur.size = cap * sz) : Acc E base sz w [] (.slice (some ⟨g, 0, none⟩) 0 cap) (fun _ => False) :=
  ⟨Own.row (es := []) (fun _ _ => undef) (fun _ _ _ => False) (by simp) hm (by simp) (by simp) (by simp) (by simp), .inr ⟨g, cap, cur, rfl, hb, ho, Nat.zero_le _, hm, hc⟩, by simp, by simp⟩
theorem Acc.keep {E : TypeId} {base sz : Nat} {w w' : World} {es : List (List Tr)} {v : Value} {S : Nat → Prop} (h : Acc E base sz w es v S) (hz : w.heap.size ≤ w'.heap.size)
    (hx : ∀ b, S b ∨ v.ownBlock = some b → b < w.heap.size → w'.heap[b]? = w.heap[b]?) : Acc E base sz w' es v S := by
  refine ⟨h.own.keep fun b hb => hx b (.inl hb), ?_, h.lens, fun x hs => ⟨(h.lt x hs).1, Nat.lt_of_lt_of_le (h.lt x hs).2 hz⟩⟩
  rcases h.whole with h1 | ⟨g, cap, cur, rfl, h2, h3, h4⟩
  · exact .inl h1
  · exact .inr ⟨g, cap, cur, rfl, h2, (hx g (.inr rfl) h3.lt).trans h3, h4⟩
theorem Acc.ext {E : TypeId} {base sz : Nat} {w w' : World} {es : List (List Tr)} {v : Value} {S : Nat → Prop} (h : Acc E base sz w es v S) (hx : Ext w w') : Acc E base sz w' es v S := h.keep hx.size fun b _ hb => hx.block b hb
theorem Acc.mono {E : TypeId} {base base' sz : Nat} {w : World} {es : List (List Tr)} {v : Value} {S S' : Nat → Prop} (h : Acc E base sz w es v S) (hb : base' ≤ base) (hS : ∀ x, S x → S' x) (hl : ∀ x, S' x → base' ≤ x ∧ x < w.heap.size) : Acc E base' sz w es v S' := by
  refine ⟨h.own.mono hS, ?_, h.lens, hl⟩
  rcases h.whole with h1 | ⟨g, cap, cur, h1, h2, h3⟩
  · exact .inl h1
  · exact .inr ⟨g, cap, cur, h1, by omega, h3⟩

theorem Acc.owns {E : TypeId} {base sz : Nat} {w : World} {es : List (List Tr)} {v : Value} {S : Nat → Prop} (h : Acc E base sz w es v S) : ∃ xs, w.ownsRow base E sz v es.length xs := by
  rcases h.whole with ⟨h1, h2⟩ | ⟨g, cap, cur, h1, h2, h3, h4, h5, h6⟩
  · exact ⟨[], by simp [h2], .inl ⟨h1, h2⟩⟩
  · exact ⟨cur.toList.take (es.length * sz), by have := Nat.mul_le_mul_right sz h4; simp only [List.length_take, Array.length_toList]; omega, .inr ⟨g, cap, cur, h1, h2, h3, h4, h5, h6, rfl⟩⟩

theorem getE_append {α : Type} {es : List α} {e y : α} {i : Nat} (h : (es ++ [e])[i]? = some y) : (i < es.length ∧ es[i]? = some y) ∨ (i = es.length ∧ y = e) := by
  rcases Nat.lt_or_ge i es.length with hi | hi
  · rw [List.getElem?_append_left hi] at h
    exact .inl ⟨hi, h⟩
  · rw [List.getElem?_append_right hi] at h
    rcases hk : i - es.length with _ | k
    · rw [hk] at h
      simp at h
      exact .inr ⟨by omega, h.symm⟩
    · rw [hk] at h
      simp at h

theorem Acc.snoc {E : TypeId} {base base' sz : Nat} {w w' : World} {es : List (List Tr)} {e : List Tr} {v : Value} {S T : Nat → Prop} {xs cs : List Value} {g cap : Nat} (h : Acc E base sz w es v S) (hr : w.ownsRow base' E sz v es.length xs)
    (he : e.length = sz) (ho : OwnL w e cs T) (hST : ∀ x, S x → T x → False) (hT : ∀ x, T x → base ≤ x ∧ x < w.heap.size) (hTv : ∀ x, v.ownBlock = some x → ¬ T x)
    (hr' : w'.ownsRow base E sz (.slice (some ⟨g, 0, none⟩) (es.length + 1) cap) (es.length + 1) (xs ++ cs)) (hg : w.grownBy w' v.ownBlock) (hgg : v.ownBlock = some g ∨ g = w.heap.size) (_hbw : base ≤ w.heap.size) :
    Acc E base sz w' (es ++ [e]) (.slice (some ⟨g, 0, none⟩) (es.length + 1) cap) (fun x => S x ∨ T x ∨ x = g) := by
  obtain ⟨hown, hwh, hlens, hlt⟩ := h
  have hel : (es ++ [e]).length = es.length + 1 := by simp
  obtain ⟨hxl', hr'⟩ := hr'
  rcases hr' with ⟨h1, -⟩ | ⟨g', cap', cur', h1, hbg, hob', hcap, hmax, hcs', htake'⟩
  · simp at h1
  injection h1 with h1 h2 h3
  injection h1 with h1
  injection h1 with h1
  subst h1 h3
  have hgl : g < w'.heap.size := OB.lt hob'
  have hvlt : ∀ x, v.ownBlock = some x → x < w.heap.size := by
    intro x hx
    rcases hwh with ⟨rfl, -⟩ | ⟨g0, c0, u0, rfl, -, h3, -⟩
    · simp [Value.ownBlock] at hx
    · simp [Value.ownBlock] at hx
      subst hx
      exact h3.lt
  have hxl : xs.length = es.length * sz := hr.1
  have hlens' : ∀ y ∈ es ++ [e], y.length = sz := by
    intro y hy
    rcases List.mem_append.1 hy with hy | hy
    · exact hlens y hy
    · simp at hy; rw [hy, he]
  have hcur' : ∀ i, i < (es.length + 1) * sz → cur'[i]? = (xs ++ cs)[i]? := by
    intro i hi
    have h8 : (cur'.toList.take ((es.length + 1) * sz))[i]? = (xs ++ cs)[i]? := by rw [htake']
    rw [List.getElem?_take, if_pos hi] at h8
    simpa using h8
  obtain ⟨hcl, U, u1, u2, u3⟩ := ho
  have hTg : ∀ x, T x → x ≠ g := by
    rintro x hx rfl
    rcases hgg with h | h
    · exact hTv _ h hx
    · have := (hT _ hx).2; omega
  cases hown with
  | row c T0 o1 o2 o3 o4 o5 o6 =>
    rename_i a cap0
    have keepb : ∀ b, b < w.heap.size → (Value.slice a es.length cap0).ownBlock ≠ some b → w'.heap[b]? = w.heap[b]? := fun b hb hne => hg.block b hb (fun h => hne h.symm)
    -- the old cells, seen from the list
    have hold : ∀ i y, es[i]? = some y → ∀ j d, y[j]? = some d → xs[i * sz + j]? = some (c i j) ∧ (∀ x, T0 i j x → (Value.slice a es.length cap0).ownBlock ≠ some x) := by
      intro i y hy j d hd
      have hne : es ≠ [] := by rintro rfl; simp at hy
      obtain ⟨b, off, E1, arr, rfl, hob, hs, hc⟩ := o3 hne
      obtain ⟨hc1, hc2⟩ := hc i y hy j d hd
      rcases hr.2 with ⟨h1, -⟩ | ⟨g1, c1, cur1, h1, -, hob1, q4, q5, q6, q7⟩
      · simp at h1
      injection h1 with h1 h2 h3
      injection h1 with h1
      injection h1 with h1 h4
      subst h1 h4
      have hoo := hob.symm.trans hob1
      injection hoo with hoo
      injection hoo with hoo
      subst hoo
      have hi : i < es.length := (List.getElem?_eq_some_iff.1 hy).1
      have hj : j < sz := by rw [← hlens y (List.mem_of_getElem? hy)]; exact (List.getElem?_eq_some_iff.1 hd).1
      have hij : i * sz + j < es.length * sz := by
        have : (i + 1) * sz ≤ es.length * sz := Nat.mul_le_mul_right _ hi
        rw [Nat.succ_mul] at this
        omega
      refine ⟨?_, fun x hx hh => ?_⟩
      · rw [← q7, List.getElem?_take, if_pos hij]
        rw [Nat.zero_add] at hc1
        simpa using hc1
      · simp [Value.ownBlock] at hh
        exact hc2 x hx hh.symm
    have hgS : ∀ i y, es[i]? = some y → ∀ j d, y[j]? = some d → ∀ x, T0 i j x → x ≠ g := by
      intro i y hy j d hd x hx
      rintro rfl
      rcases hgg with h | h
      · exact (hold i y hy j d hd).2 _ hx h
      · have := (hlt _ (o5 i y hy j d hd _ hx)).2; omega
    refine ⟨?_, .inr ⟨g, cap, cur', by rw [hel], hbg, hob', by rw [hel]; exact hcap, hmax, hcs'⟩, hlens', ?_⟩
    · rw [← hel]
      refine Own.row (fun i j => (cur'[i * sz + j]?).getD undef) (fun i j => if i < es.length then T0 i j else U j) (by rw [hel]; exact hcap) hmax ?_ ?_ ?_ ?_
      · intro _
        refine ⟨g, 0, E, cur', rfl, hob', .inr (.inr rfl), ?_⟩
        intro i y hy j d hd
        have hj : j < sz := by rw [← hlens' y (List.mem_of_getElem? hy)]; exact (List.getElem?_eq_some_iff.1 hd).1
        have hi : i < es.length + 1 := by rw [← hel]; exact (List.getElem?_eq_some_iff.1 hy).1
        have hij : i * sz + j < (es.length + 1) * sz := by
          have : (i + 1) * sz ≤ (es.length + 1) * sz := Nat.mul_le_mul_right _ hi
          rw [Nat.succ_mul] at this
          omega
        have hle : (es.length + 1) * sz ≤ cap * sz := Nat.mul_le_mul_right _ hcap
        refine ⟨?_, fun x hx => ?_⟩
        · rw [Nat.zero_add, Array.getElem?_eq_getElem (by omega)]; rfl
        · rcases getE_append hy with ⟨hi2, hy2⟩ | ⟨rfl, rfl⟩
          · simp only [if_pos hi2] at hx
            exact hgS i y hy2 j d hd x hx
          · simp only [Nat.lt_irrefl, if_false] at hx
            exact hTg x (u2 j d hd x hx)
      · intro i y hy j d hd
        have hj : j < sz := by rw [← hlens' y (List.mem_of_getElem? hy)]; exact (List.getElem?_eq_some_iff.1 hd).1
        have hi : i < es.length + 1 := by rw [← hel]; exact (List.getElem?_eq_some_iff.1 hy).1
        have hij : i * sz + j < (es.length + 1) * sz := by
          have : (i + 1) * sz ≤ (es.length + 1) * sz := Nat.mul_le_mul_right _ hi
          rw [Nat.succ_mul] at this
          omega
        have hcu := hcur' (i * sz + j) hij
        rcases getE_append hy with ⟨hi2, hy2⟩ | ⟨rfl, rfl⟩
        · simp only [if_pos hi2]
          obtain ⟨h8, h9⟩ := hold i y hy2 j d hd
          rw [List.getElem?_append_left (List.getElem?_eq_some_iff.1 h8).1, h8] at hcu
          rw [hcu]
          exact (o4 i y hy2 j d hd).keep fun b hb hbl => keepb b hbl (h9 b hb)
        · simp only [Nat.lt_irrefl, if_false]
          obtain ⟨v1, hv1, how⟩ := u1 j d hd
          rw [List.getElem?_append_right (by omega), hxl, Nat.add_sub_cancel_left, hv1] at hcu
          rw [hcu]
          exact how.keep fun b hb hbl => keepb b hbl (fun hh => hTv b hh (u2 j d hd b hb))
      · intro i y hy j d hd x hx
        rcases getE_append hy with ⟨hi2, hy2⟩ | ⟨rfl, rfl⟩
        · simp only [if_pos hi2] at hx
          exact .inl (o5 i y hy2 j d hd x hx)
        · simp only [Nat.lt_irrefl, if_false] at hx
          exact .inr (.inl (u2 j d hd x hx))
      · intro i y hy j d hd i' y' hy' j' d' hd' hne x hx hx'
        rcases getE_append hy with ⟨hi2, hy2⟩ | ⟨rfl, rfl⟩
        · simp only [if_pos hi2] at hx
          rcases getE_append hy' with ⟨hi2', hy2'⟩ | ⟨rfl, rfl⟩
          · simp only [if_pos hi2'] at hx'
            exact o6 i y hy2 j d hd i' y' hy2' j' d' hd' hne x hx hx'
          · simp only [Nat.lt_irrefl, if_false] at hx'
            exact hST x (o5 i y hy2 j d hd x hx) (u2 j' d' hd' x hx')
        · simp only [Nat.lt_irrefl, if_false] at hx
          rcases getE_append hy' with ⟨hi2', hy2'⟩ | ⟨hi3, rfl⟩
          · simp only [if_pos hi2'] at hx'
            exact hST x (o5 i' y' hy2' j' d' hd' x hx') (u2 j d hd x hx)
          · subst hi3
            simp only [Nat.lt_irrefl, if_false] at hx'
            exact u3 j d hd j' d' hd' (hne rfl) x hx hx'
    · intro x hx
      rcases hx with hx | hx | rfl
      · exact ⟨(hlt x hx).1, Nat.lt_of_lt_of_le (hlt x hx).2 hg.size⟩
      · exact ⟨(hT x hx).1, Nat.lt_of_lt_of_le (hT x hx).2 hg.size⟩
      · exact ⟨hbg, hgl⟩

theorem Acc.blk {E : TypeId} {base sz : Nat} {w : World} {es : List (List Tr)} {v : Value} {S : Nat → Prop} (h : Acc E base sz w es v S) {x : Nat} (hx : v.ownBlock = some x) : base ≤ x ∧ x < w.heap.size := by
  rcases h.whole with ⟨rfl, -⟩ | ⟨g0, c0, u0, rfl, h1, h3, -⟩
  · simp [Value.ownBlock] at hx
  · simp [Value.ownBlock] at hx
    subst hx
    exact ⟨h1, h3.lt⟩
theorem Acc.shape {E : TypeId} {base sz : Nat} {w : World} {es : List (List Tr)} {v : Value} {S : Nat → Prop} (h : Acc E base sz w es v S) : ∃ a cap, v = .slice a es.length cap ∧ es.length ≤ cap ∧ cap ≤ maxLen := h.rep.shape
/-- The world behind an append onto a slice of our own, as seen from an elder world. -/
theorem grown_ext_own {a w w' : World} {v : Value} (h : Ext a w) (hg : w.grownBy w' v.ownBlock) (hB : ∀ x, v.ownBlock = some x → a.heap.size ≤ x) : Ext a w' := Below.grown h hg h.size hB
theorem Chg.of_grown_own {w w' : World} {v : Value} (hg : w.grownBy w' v.ownBlock) : Chg (fun b => v.ownBlock = some b) w w' :=
  ⟨hg.os, hg.tape, hg.output, hg.size, fun x hx hs => hg.block x hx (fun h => hs h.symm)⟩

theorem OB.grown_own {w w' : World} {g : Nat} {t : TypeId} {cs : Array Value} {v : Value} (h : OB w g t cs) (hg : w.grownBy w' v.ownBlock) (hne : v.ownBlock ≠ some g) : OB w' g t cs := (hg.block g h.lt (fun e => hne e.symm)).trans h

/-- append of one element onto a slice of our own. -/
theorem wpList_append_acc {P : Program} {ops : Array Oper} {rest : List Oper} {o : Oper} {a : Act} {w : World} {Q : Exit → Act → World → Prop} (hgd : o.guard = none) (s x : Operand) (t : TypeId)
    (ho : o.op = .call { callee := .builtin .append, args := #[s, x], argTypes := #[t, t] }) (E : TypeId) (sz bytes : Nat) (ht : P.underlying t = some (.slice E))
    (hi : (P.info? E).map (fun i => (i.zero.map (fun z => z.cells.size), i.size, i.bytes)) = some (some sz, sz, bytes)) (hsz : 0 < sz) (hby : bytes ≤ 100)
    (base : Nat) (es : List (List Tr)) (n : Nat) (hn : es.length = n) (v : Value) (S : Nat → Prop) (hs : a.eval s = v) (hacc : Acc E base sz w es v S)
    (e : List Tr) (cs : List Value) (T : Nat → Prop) (he : e.length = sz) (ho2 : OwnL w e cs T) (hST : ∀ x, S x → T x → False) (hT : ∀ x, T x → base ≤ x ∧ x < w.heap.size) (hTv : ∀ x, v.ownBlock = some x → ¬ T x)
    (B c : Nat) (E2 : TypeId) (hx : a.eval x = .slice (some ⟨B, 0, none⟩) 1 c) (hB : OB w B E2 ⟨cs⟩) (hlen : n ≤ 1099511627776) (hbase : base ≤ w.heap.size)
    (h : ∀ g cap w', Acc E base sz w' (es ++ [e]) (.slice (some ⟨g, 0, none⟩) (n + 1) cap) (fun x => S x ∨ T x ∨ x = g) → w.grownBy w' v.ownBlock → (v.ownBlock = some g ∨ g = w.heap.size) → g < w'.heap.size →
      wpList P ops Q rest (a.put o.dst (.slice (some ⟨g, 0, none⟩) (n + 1) cap)) w') : wpList P ops Q (o :: rest) a w := by
  subst hn
  obtain ⟨xs, hxs⟩ := hacc.owns
  cases hq : P.info? E with
  | none => simp [hq] at hi
  | some i =>
    simp only [hq, Option.map_some, Option.some.injEq, Prod.mk.injEq] at hi
    obtain ⟨h1, h2, h3⟩ := hi
    cases hz : i.zero with
    | none => simp [hz] at h1
    | some z =>
      simp only [hz, Option.map_some, Option.some.injEq] at h1
      have hcl : cs.length = sz := by rw [ho2.1, he]
      have hbb : (es.length + 1) * bytes ≤ 1099511627777 * 100 := Nat.mul_le_mul (by omega) hby
      refine wpList_append_lies w hgd s x t ho base E i z sz bytes ht hq hz h2 h3 h1 hsz v es.length xs hs hxs ⟨B, 0, none⟩ 1 c cs hx (by omega) ?_ (ho2.rep.one) (by omega) (by unfold maxLen; omega) (by omega) hbase _ rfl ?_
      · intro j u hu
        exact World.news_of_block hB j u (by simpa using hu)
      · intro g cap w' k1 k2 k3 k4
        exact h g cap w' (hacc.snoc hxs he ho2 hST hT hTv k1 k2 k3 hbase) k2 k3 k4

/-- From world w on, a slice v of our own has been appended to: by now it is v' and holds es. -/
structure AccRun (E : TypeId) (base sz : Nat) (w : World) (v : Value) (w' : World) (es : List (List Tr)) (v' : Value) : Prop where
  acc : ∃ U, Acc E base sz w' es v' U
  chg : Chg (fun b => v.ownBlock = some b) w w'
  row : ∀ b, v'.ownBlock = some b → v.ownBlock = some b ∨ w.heap.size ≤ b
theorem AccRun.refl {E : TypeId} {base sz : Nat} {w : World} {es : List (List Tr)} {v : Value} {U : Nat → Prop} (h : Acc E base sz w es v U) : AccRun E base sz w v w es v := ⟨⟨U, h⟩, Chg.refl _ _, fun _ h => .inl h⟩
theorem AccRun.ext {E : TypeId} {base sz : Nat} {w w1 w2 : World} {es : List (List Tr)} {v v' : Value} (h : AccRun E base sz w v w1 es v') (hx : Ext w1 w2) : AccRun E base sz w v w2 es v' := by
  obtain ⟨U, h1⟩ := h.acc
  exact ⟨⟨U, h1.ext hx⟩, h.chg.trans (.of_ext hx), h.row⟩
theorem AccRun.trans {E : TypeId} {base sz : Nat} {w w1 w2 : World} {es es2 : List (List Tr)} {v v1 v2 : Value} (h : AccRun E base sz w v w1 es v1) (k : AccRun E base sz w1 v1 w2 es2 v2) : AccRun E base sz w v w2 es2 v2 := by
  refine ⟨k.acc, ⟨k.chg.os.trans h.chg.os, k.chg.tape.trans h.chg.tape, k.chg.output.trans h.chg.output, Nat.le_trans h.chg.size k.chg.size, fun b hb hn => ?_⟩, fun b hb => ?_⟩
  · refine (k.chg.block b (Nat.lt_of_lt_of_le hb h.chg.size) fun h1 => ?_).trans (h.chg.block b hb hn)
    rcases h.row b h1 with h2 | h2
    · exact hn h2
    · omega
  · rcases k.row b hb with h1 | h1
    · exact h.row b h1
    · exact .inr (Nat.le_trans h.chg.size h1)
theorem AccRun.snoc {E : TypeId} {base sz : Nat} {w w' : World} {es : List (List Tr)} {v v' : Value} {U : Nat → Prop} {g cap n : Nat} (hv : v' = .slice (some ⟨g, 0, none⟩) n cap) (h : Acc E base sz w' es v' U) (hg : w.grownBy w' v.ownBlock) (hgg : v.ownBlock = some g ∨ g = w.heap.size) : AccRun E base sz w v w' es v' := by
  refine ⟨⟨U, h⟩, Chg.of_grown_own hg, fun b hb => ?_⟩
  subst hv
  simp [Value.ownBlock] at hb
  subst hb
  rcases hgg with h1 | h1
  · exact .inl h1
  · exact .inr (by omega)
/-- What lies elsewhere stays. -/
theorem AccRun.ob {E : TypeId} {base sz : Nat} {w w' : World} {es : List (List Tr)} {v v' : Value} (h : AccRun E base sz w v w' es v') {B : Nat} {T : TypeId} {cs : Array Value} (hB : OB w B T cs) (hn : v.ownBlock ≠ some B) : OB w' B T cs ∧ v'.ownBlock ≠ some B := by
  refine ⟨(h.chg.block B hB.lt hn).trans hB, fun h1 => ?_⟩
  rcases h.row B h1 with h2 | h2
  · exact hn h2
  · have := hB.lt; omega
theorem AccRun.old {E : TypeId} {base sz : Nat} {w0 w w' : World} {es : List (List Tr)} {v v' : Value} (h : AccRun E base sz w v w' es v') (hx : Ext w0 w) (hv : ∀ b, v.ownBlock = some b → w0.heap.size ≤ b) : Ext w0 w' := Chg.ext hx h.chg hv

end Go.Proofs.Ytmpepccpnnldoaa

namespace Go.Proofs.Ytmpepccpnnldoaa
set_option linter.unusedSimpArgs false
set_option linter.unusedVariables false
open Go.RowKit Go.Proofs

def atB (c : UInt8) : Bool := lowC c || (digC c || decide ((Lib.indexByte (x_272d2b2a3c3d2e).data.toList c : Int) ≥ 0))
theorem atB_i (fu : Nat) (c : UInt8) : iisAtomByte_M fu c = some (atB c) := by
  unfold iisAtomByte_M atB
  rw [low_i, dig_i, bd_some]
  cases lowC c
  · cases digC c
    · show gd _ _ = _
      exact gdT (by decide) rfl
    · rfl
  · rfl
/-- Where the atom ends. -/
def scanA (s : ByteArray) : Nat → Nat → Nat
  | 0, i => i
  | k + 1, i => if atB (bAt s i) then scanA s k (i + 1) else i
def endA (s : ByteArray) (i : Nat) : Nat := scanA s (s.size - i) i
theorem scanA_ge (s : ByteArray) : ∀ k i, i ≤ scanA s k i
  | 0, i => Nat.le_refl _
  | k + 1, i => by
    have := scanA_ge s k (i + 1)
    rw [scanA]
    split <;> omega
theorem scanA_le (s : ByteArray) : ∀ k i, scanA s k i ≤ i + k
  | 0, i => Nat.le_refl _
  | k + 1, i => by
    have := scanA_le s k (i + 1)
    rw [scanA]
    split <;> omega
theorem endA_next {s : ByteArray} {i : Nat} (h : i < s.size) (hb : atB (bAt s i) = true) : endA s i = endA s (i + 1) := by
  unfold endA
  rw [show s.size - i = (s.size - (i + 1)) + 1 by omega, scanA, if_pos hb]
theorem endA_stop {s : ByteArray} {i : Nat} (h : i < s.size) (hb : atB (bAt s i) = false) : endA s i = i := by
  unfold endA
  rw [show s.size - i = (s.size - (i + 1)) + 1 by omega, scanA, if_neg (by rw [hb]; decide)]
theorem endA_end {s : ByteArray} {i : Nat} (h : s.size ≤ i) : endA s i = i := by
  unfold endA
  rw [show s.size - i = 0 by omega, scanA]
theorem endA_ge (s : ByteArray) (i : Nat) : i ≤ endA s i := scanA_ge s _ i
theorem endA_le {s : ByteArray} {i : Nat} (h : i ≤ s.size) : endA s i ≤ s.size := by have := scanA_le s (s.size - i) i; unfold endA; omega
def subB (s : ByteArray) (i j : Nat) : ByteArray := s.extract i j

/-- The state: the lists that have begun, the count, the place. -/
structure PState where
  st : List (List GSExpr)
  cnt : Nat
  at_ : Nat
/-- The last list with one more element. -/
def addLast : List (List GSExpr) → GSExpr → List (List GSExpr)
  | [], _ => []
  | [l], x => [l ++ [x]]
  | l :: r, x => l :: addLast r x
/-- The last list ends, and becomes an element of the one before it. -/
def closeL : List (List GSExpr) → List (List GSExpr)
  | [] => []
  | [l] => [l]
  | [k, l] => [k ++ [.mk s_ l]]
  | k :: r => k :: closeL r
/-- One byte that is neither a blank nor the like. -/
def tokP (s : ByteArray) (p : PState) : Option (List (List GSExpr) × Nat) :=
  let c := bAt s p.at_
  if c = 40 then some (p.st ++ [[]], p.at_ + 1)
  else if c = 41 then (if p.st.length = 1 then none else some (closeL p.st, p.at_ + 1))
  else if atB c = true then some (addLast p.st (.mk (subB s p.at_ (endA s p.at_)) []), endA s p.at_)
  else none
def pstep (s : ByteArray) (p : PState) : Option PState :=
  if bAt s p.at_ = 32 ∨ bAt s p.at_ = 10 then some ⟨p.st, p.cnt, p.at_ + 1⟩
  else match tokP s p with
    | none => none
    | some q => if 15 < q.1.length ∨ 1800 < p.cnt + 1 then none else some ⟨q.1, p.cnt + 1, q.2⟩
def prun (s : ByteArray) : Nat → PState → Option PState
  | 0, p => some p
  | k + 1, p => if p.at_ < s.size then (match pstep s p with | none => none | some q => prun s k q) else some p
theorem tokP_next {s : ByteArray} {p : PState} {q : List (List GSExpr) × Nat} (hi : p.at_ < s.size) (h : tokP s p = some q) : p.at_ < q.2 ∧ q.2 ≤ s.size := by
  unfold tokP at h
  dsimp only at h
  split at h
  · cases h; exact ⟨Nat.lt_succ_self _, hi⟩
  · split at h
    · split at h
      · cases h
      · cases h; exact ⟨Nat.lt_succ_self _, hi⟩
    · split at h
      · rename_i hb
        cases h
        have h1 := endA_next hi hb
        have h2 := endA_ge s (p.at_ + 1)
        have h3 := endA_le (Nat.le_of_lt hi)
        exact ⟨by show p.at_ < endA s p.at_; omega, h3⟩
      · cases h
theorem pstep_next {s : ByteArray} {p q : PState} (hi : p.at_ < s.size) (h : pstep s p = some q) : p.at_ < q.at_ ∧ q.at_ ≤ s.size := by
  unfold pstep at h
  split at h
  · cases h; exact ⟨Nat.lt_succ_self _, hi⟩
  · split at h
    · cases h
    · rename_i r hr
      split at h
      · cases h
      · cases h; exact tokP_next hi hr
theorem prun_fuel {s : ByteArray} : ∀ (k : Nat) (p : PState), s.size - p.at_ ≤ k → prun s k p = prun s (s.size - p.at_) p
  | 0, p, h => by rw [show s.size - p.at_ = 0 by omega]
  | k + 1, p, h => by
    by_cases hi : p.at_ < s.size
    · rw [show s.size - p.at_ = (s.size - (p.at_ + 1)) + 1 by omega, prun, prun, if_pos hi, if_pos hi]
      cases hq : pstep s p with
      | none => rfl
      | some q =>
        have := pstep_next hi hq
        show prun s k q = prun s _ q
        rw [prun_fuel k q (by omega), prun_fuel (s.size - (p.at_ + 1)) q (by omega)]
    · rw [show s.size - p.at_ = 0 by omega]
      simp only [prun, if_neg hi]
  termination_by k => k
theorem prun_step {s : ByteArray} {p : PState} (hi : p.at_ < s.size) : prun s (s.size - p.at_) p = match pstep s p with | none => none | some q => prun s (s.size - q.at_) q := by
  rw [show s.size - p.at_ = (s.size - (p.at_ + 1)) + 1 by omega, prun, if_pos hi]
  cases hq : pstep s p with
  | none => rfl
  | some q =>
    have := pstep_next hi hq
    show prun s _ q = prun s _ q
    rw [prun_fuel (s.size - (p.at_ + 1)) q (by omega)]
theorem prun_end {s : ByteArray} {p : PState} (hi : ¬ p.at_ < s.size) : prun s (s.size - p.at_) p = some p := by
  rw [show s.size - p.at_ = 0 by omega, prun]
def pinit : PState := ⟨[[]], 0, 0⟩
noncomputable def parseM (fu : Nat) (s : ByteArray) : Option (GSExpr × Bool) :=
  match prun s s.size pinit with
  | none => some (.mk s_ [], false)
  | some p => match p.st with
    | [[x]] => bd (iIsValidSExpr_M fu x) fun v => some (if v then (x, true) else (.mk s_ [], false))
    | _ => some (.mk s_ [], false)
end Go.Proofs.Ytmpepccpnnldoaa

namespace Go.Proofs.Ytmpepccpnnldoaa
set_option linter.unusedSimpArgs false
set_option linter.unusedVariables false
open Go.RowKit Go.Proofs

theorem Acc.init {E : TypeId} {base sz : Nat} {w : World} {es : List (List Tr)} {e : List Tr} {S : Nat → Prop} {a : Option Addr} {cap n : Nat} (h : Acc E base sz w (es ++ [e]) (.slice a n cap) S) (hn : n = es.length + 1) : Acc E base sz w es (.slice a es.length cap) S := by
  obtain ⟨hown, hwh, hlens, hlt⟩ := h
  have hl : (es ++ [e]).length = es.length + 1 := by simp
  refine ⟨?_, ?_, fun x hx => hlens x (by simp [hx]), hlt⟩
  · cases hown with
    | row c T h1 h2 h3 h4 h5 h6 =>
      have hg : ∀ i x, es[i]? = some x → (es ++ [e])[i]? = some x := fun i x hx => by rw [List.getElem?_append_left (List.getElem?_eq_some_iff.1 hx).1]; exact hx
      refine Own.row c T (by omega) h2 (fun hne => ?_) (fun i x hx => h4 i x (hg i x hx)) (fun i x hx => h5 i x (hg i x hx)) (fun i x hx j d hd i' x' hx' => h6 i x (hg i x hx) j d hd i' x' (hg i' x' hx'))
      obtain ⟨b, off, E', arr, ha, hb, hs, hc⟩ := h3 (by simp)
      exact ⟨b, off, E', arr, ha, hb, hs, fun i x hx => hc i x (hg i x hx)⟩
  · rcases hwh with ⟨-, h0⟩ | ⟨g, c, cur, hv, h2, h3, h4, h5, h6⟩
    · omega
    · injection hv with hv1 hv2 hv3
      subst hv1 hv3
      exact .inr ⟨g, cap, cur, rfl, h2, h3, by omega, h5, h6⟩
/-- The last element is written over. -/
theorem Acc.setLast {E : TypeId} {base sz : Nat} {w w' : World} {es : List (List Tr)} {e0 e : List Tr} {S T : Nat → Prop} {g cap : Nat} {cs : List Value} {cur : Array Value} (h : Acc E base sz w (es ++ [e0]) (.slice (some ⟨g, 0, none⟩) (es.length + 1) cap) S)
    (hsz : 0 < sz) (he : e.length = sz) (ho : OwnL w e cs T) (hST : ∀ x, S x → T x → False) (hT : ∀ x, T x → base ≤ x ∧ x < w.heap.size) (hTg : ¬ T g) (hob : OB w g E cur) (hob' : OB w' g E (splice cur (es.length * sz) cs)) (hg : w.grownBy w' (some g)) (hb : base ≤ w.heap.size) :
    Acc E base sz w' (es ++ [e]) (.slice (some ⟨g, 0, none⟩) (es.length + 1) cap) (fun x => S x ∨ T x ∨ x = g) := by
  have hi := h.init rfl
  have hcl : cs.length = sz := by rw [ho.1, he]
  obtain ⟨-, hwh, -, -⟩ := h
  rcases hwh with ⟨hv, -⟩ | ⟨g', c', cur', hv, h2, h3, h4, h5, h6⟩
  · cases hv
  · injection hv with hv1 hv2 hv3
    injection hv1 with hv1
    injection hv1 with hv1
    subst hv1 hv3
    have hc : cur' = cur := by
      have e1 : w.heap[g]? = some (.cells cur' E (0, 0)) := h3
      have e2 : w.heap[g]? = some (.cells cur E (0, 0)) := hob
      rw [e1] at e2
      injection e2 with e2
      injection e2
    subst hc
    have hle : (es.length + 1) * sz ≤ cur'.size := by
      rw [h6]
      refine Nat.mul_le_mul_right sz ?_
      have : (es ++ [e0]).length = es.length + 1 := by simp
      omega
    have hle2 : es.length * sz + sz ≤ cur'.size := by rw [Nat.succ_mul] at hle; exact hle
    refine hi.snoc (base' := base) (xs := cur'.toList.take (es.length * sz)) (cs := cs) ⟨by simp; omega, .inr ⟨g, cap, cur', rfl, h2, h3, by simp at h4; omega, h5, h6, rfl⟩⟩ he ho hST hT (fun x hx => ?_) ⟨?_, .inr ⟨g, cap, _, rfl, h2, hob', by simpa using h4, h5, ?_, ?_⟩⟩ hg (.inl rfl) hb
    · injection hx with hx
      exact hx ▸ hTg
    · simp [hcl, Nat.succ_mul]; omega
    · rw [splice_size (by rw [hcl]; exact hle2), h6]
    · unfold splice
      have e1 : (cur'.toList.take (es.length * sz) ++ cs).length = (es.length + 1) * sz := by simp [hcl, Nat.succ_mul]; omega
      rw [← e1, List.toList_toArray, List.take_left]
theorem ob_inj {w : World} {g : Nat} {t : TypeId} {a b : Array Value} (h : OB w g t a) (k : OB w g t b) : a = b := by
  have e1 : w.heap[g]? = some (.cells a t (0, 0)) := h
  have e2 : w.heap[g]? = some (.cells b t (0, 0)) := k
  rw [e1] at e2
  injection e2 with e2
  injection e2
structure Lv where
  v : Value
  l : List GSExpr
  S : Nat → Prop
def Lv.F (a : Lv) (x : Nat) : Prop := a.S x ∨ a.v.ownBlock = some x
def Lv.nil : Lv := ⟨.slice none 0 0, [], fun _ => False⟩
theorem Lv.nil_F (x : Nat) : ¬ Lv.nil.F x := by
  rintro (h | h)
  · exact h
  · cases h
abbrev LAcc (base : Nat) (w : World) (a : Lv) : Prop := Acc 73 base 2 w (GSExpr.trs a.l) a.v a.S
theorem LAcc.lt {base : Nat} {w : World} {a : Lv} (h : LAcc base w a) {x : Nat} (hx : a.F x) : base ≤ x ∧ x < w.heap.size := by
  rcases hx with hx | hx
  · exact Acc.lt h x hx
  · exact Acc.blk h hx
theorem LAcc.shapeV {base : Nat} {w : World} {a : Lv} (h : LAcc base w a) : ∃ x c, a.v = .slice x a.l.length c ∧ a.l.length ≤ c ∧ c ≤ maxLen := by
  obtain ⟨x, c, h1, h2, h3⟩ := Acc.shape h
  rw [GSExpr.trs_len] at h1 h2
  exact ⟨x, c, h1, h2, h3⟩
structure Stk (base : Nat) (w : World) (g cap : Nat) (L : List Lv) : Prop where
  own : w.ownsRow base 71 1 (.slice (some ⟨g, 0, none⟩) L.length cap) L.length (L.map Lv.v)
  acc : ∀ a ∈ L, LAcc base w a ∧ ¬ a.F g
  dis : L.Pairwise (fun a b => ∀ x, a.F x → b.F x → False)
theorem Stk.ob {base : Nat} {w : World} {g cap : Nat} {L : List Lv} (h : Stk base w g cap L) : ∃ cur, OB w g 71 cur ∧ cur.size = cap ∧ L.length ≤ cap ∧ cap ≤ maxLen ∧ base ≤ g ∧ cur.toList.take L.length = L.map Lv.v := by
  rcases h.own.2 with ⟨hv, -⟩ | ⟨g', c', cur, hv, h2, h3, h4, h5, h6, h7⟩
  · cases hv
  · injection hv with hv1 hv2 hv3
    injection hv1 with hv1
    injection hv1 with hv1
    subst hv1 hv3
    exact ⟨cur, h3, by omega, h4, h5, h2, by simpa using h7⟩
theorem Stk.lt {base : Nat} {w : World} {g cap : Nat} {L : List Lv} (h : Stk base w g cap L) : g < w.heap.size := by
  obtain ⟨cur, h1, -⟩ := h.ob
  exact h1.lt
theorem Stk.cell {base : Nat} {w : World} {g cap : Nat} {L : List Lv} (h : Stk base w g cap L) {j : Nat} (hj : j < L.length) : w.cell? ⟨g, j, none⟩ = some (L[j]).v := by
  obtain ⟨cur, h1, h2, h3, -, -, h7⟩ := h.ob
  rw [h1.cell]
  have h8 : (cur.toList.take L.length)[j]? = (L.map Lv.v)[j]? := by rw [h7]
  rw [List.getElem?_take, if_pos hj, List.getElem?_map, List.getElem?_eq_getElem hj, Array.getElem?_toList] at h8
  exact h8
theorem Stk.ext {base : Nat} {w w' : World} {g cap : Nat} {L : List Lv} (h : Stk base w g cap L) (hx : Ext w w') : Stk base w' g cap L := by
  refine ⟨?_, fun a ha => ⟨(h.acc a ha).1.ext hx, (h.acc a ha).2⟩, h.dis⟩
  obtain ⟨cur, h1, h2, h3, h4, h5, h7⟩ := h.ob
  exact ⟨by simp, .inr ⟨g, cap, cur, rfl, h5, h1.ext hx, h3, h4, by omega, by simpa using h7⟩⟩
/-- One more list begins. -/
theorem Stk.push {base : Nat} {w w' : World} {g cap g' cap' : Nat} {L : List Lv} (h : Stk base w g cap L) (hr : w'.ownsRow base 71 1 (.slice (some ⟨g', 0, none⟩) (L.length + 1) cap') (L.length + 1) (L.map Lv.v ++ [.slice none 0 0]))
    (hg : w.grownBy w' (some g)) (hgg : some g = some g' ∨ w.heap.size ≤ g') : Stk base w' g' cap' (L ++ [Lv.nil]) := by
  refine ⟨?_, fun a ha => ?_, ?_⟩
  · rw [List.length_append, List.length_singleton, List.map_append]
    exact hr
  · rcases List.mem_append.1 ha with ha | ha
    · obtain ⟨h1, h2⟩ := h.acc a ha
      refine ⟨Acc.keep h1 hg.size fun b hb hlt => hg.block b hlt fun e => h2 (by cases e; exact hb), fun hf => ?_⟩
      rcases hgg with e | e
      · cases e; exact h2 hf
      · have := (LAcc.lt h1 hf).2; omega
    · obtain rfl := List.mem_singleton.1 ha
      exact ⟨Acc.nil _ _ _ _, Lv.nil_F _⟩
  · rw [List.pairwise_append]
    refine ⟨h.dis, by simp, fun a _ b hb x _ hx => ?_⟩
    obtain rfl := List.mem_singleton.1 hb
    exact Lv.nil_F _ hx
/-- The last list is taken off. -/
theorem Stk.pop {base : Nat} {w : World} {g cap : Nat} {L : List Lv} {a : Lv} (h : Stk base w g cap (L ++ [a])) : Stk base w g cap L ∧ LAcc base w a ∧ (∀ b ∈ L, ∀ x, b.F x → a.F x → False) ∧ ¬ a.F g := by
  obtain ⟨h1, h2⟩ := h.acc a (by simp)
  have hd := h.dis
  rw [List.pairwise_append] at hd
  refine ⟨⟨?_, fun b hb => h.acc b (by simp [hb]), hd.1⟩, h1, fun b hb => hd.2.2 b hb a (by simp), h2⟩
  obtain ⟨cur, k1, k2, k3, k4, k5, k7⟩ := h.ob
  refine ⟨by simp, .inr ⟨g, cap, cur, rfl, k5, k1, by simp at k3; omega, k4, by omega, ?_⟩⟩
  have := congrArg (List.take L.length) k7
  rw [List.take_take, List.map_append] at this
  simpa using this
/-- The last list has turned. -/
theorem Stk.set {base : Nat} {w w' : World} {g cap : Nat} {L : List Lv} {a a' : Lv} {T : Nat → Prop} (h : Stk base w g cap (L ++ [a])) (hacc : LAcc base w' a') (hF : ∀ x, a'.F x → a.F x ∨ T x ∨ w.heap.size ≤ x)
    (hT : ∀ b ∈ L, ∀ x, b.F x → T x → False) (hTg : ¬ T g) (hz : w.heap.size ≤ w'.heap.size) (hblk : ∀ x, x < w.heap.size → x ≠ g → ¬ a.F x → w'.heap[x]? = w.heap[x]?)
    (hc : ∀ cur, OB w g 71 cur → OB w' g 71 (splice cur L.length [a'.v])) : Stk base w' g cap (L ++ [a']) := by
  obtain ⟨hp, ha, hda, hag⟩ := h.pop
  obtain ⟨cur, k1, k2, k3, k4, k5, k7⟩ := h.ob
  have k3' : L.length + 1 ≤ cap := by simpa using k3
  have hlt := h.lt
  refine ⟨⟨by simp, .inr ⟨g, cap, _, by simp, k5, hc cur k1, by simpa using k3, k4, by rw [splice_size (by simp; omega)]; omega, ?_⟩⟩, fun b hb => ?_, ?_⟩
  · have e1 := congrArg (List.take L.length) k7
    rw [List.take_take, List.map_append] at e1
    have e2 : cur.toList.take L.length = L.map Lv.v := by simpa using e1
    unfold splice
    rw [e2]
    have e3 : (L.map Lv.v ++ [a'.v]).length = (L ++ [a']).length * 1 := by simp
    rw [← e3, List.toList_toArray, List.take_left, List.map_append]
    rfl
  · rcases List.mem_append.1 hb with hb | hb
    · obtain ⟨h1, h2⟩ := hp.acc b hb
      refine ⟨Acc.keep h1 hz fun x hx hxl => hblk x hxl (fun e => h2 (e ▸ hx)) fun hf => hda b hb x hx hf, h2⟩
    · obtain rfl := List.mem_singleton.1 hb
      refine ⟨hacc, fun hf => ?_⟩
      rcases hF g hf with h1 | h1 | h1
      · exact hag h1
      · exact hTg h1
      · omega
  · rw [List.pairwise_append]
    refine ⟨hp.dis, by simp, fun b hb c hc' x hx hx' => ?_⟩
    obtain rfl := List.mem_singleton.1 hc'
    rcases hF x hx' with h1 | h1 | h1
    · exact hda b hb x hx h1
    · exact hT b hb x hx h1
    · have := (LAcc.lt (hp.acc b hb).1 hx).2
      omega
/-- .. by an append onto it, and a store of it. -/
theorem Stk.set2 {base : Nat} {w w' : World} {g cap g2 n c : Nat} {L : List Lv} {a a' : Lv} {T : Nat → Prop} (h : Stk base w g cap (L ++ [a])) (hacc : LAcc base w' a') (hS : ∀ x, a'.S x → a.S x ∨ T x ∨ x = g2) (hv : a'.v = .slice (some ⟨g2, 0, none⟩) n c)
    (hgg : a.v.ownBlock = some g2 ∨ g2 = w.heap.size) (hT : ∀ b ∈ L, ∀ x, b.F x → T x → False) (hTg : ¬ T g) (hz : w.heap.size ≤ w'.heap.size) (hblk : ∀ x, x < w.heap.size → x ≠ g → ¬ a.F x → x ≠ g2 → w'.heap[x]? = w.heap[x]?)
    (hc : ∀ cur, OB w g 71 cur → OB w' g 71 (splice cur L.length [a'.v])) : Stk base w' g cap (L ++ [a']) := by
  have hg2 : a.F g2 ∨ w.heap.size ≤ g2 := hgg.imp (fun e => .inr e) (fun e => by omega)
  refine h.set hacc (fun x hx => ?_) hT hTg hz (fun x h1 h2 h3 => hblk x h1 h2 h3 fun e => ?_) hc
  · rcases hx with hx | hx
    · rcases hS x hx with h1 | h1 | rfl
      · exact .inl (.inl h1)
      · exact .inr (.inl h1)
      · exact hg2.imp id .inr
    · rw [hv] at hx
      cases hx
      exact hg2.imp id .inr
  · subst e
    rcases hg2 with h4 | h4
    · exact h3 h4
    · omega
theorem own_mk {w : World} {base : Nat} {a : Lv} (h : LAcc base w a) : OwnL w (GSExpr.mk s_ a.l).tr [.string ⟨#[]⟩, a.v] a.S := by
  show OwnL w (.leaf (.string ⟨#[]⟩) :: ([.row 2 (GSExpr.trs a.l)] ++ [])) _ _
  exact OwnL.cons_leaf (Nat.zero_le _) (OwnL.one h.own)
theorem own_atom {w : World} {v : ByteArray} (h : v.size ≤ maxLen) : OwnL w (GSExpr.mk v []).tr [.string v, .slice none 0 0] (fun _ => False) := by
  show OwnL w (.leaf (.string v) :: ([.row 2 (GSExpr.trs [])] ++ [])) _ _
  exact OwnL.cons_leaf h (OwnL.one (Acc.nil 73 0 2 w).own)
theorem trs_snoc (l : List GSExpr) (x : GSExpr) : GSExpr.trs (l ++ [x]) = GSExpr.trs l ++ [x.tr] := by rw [GSExpr.trs_map, GSExpr.trs_map, List.map_append]; rfl
theorem snoc2 {α : Type} {L : List α} (h : 2 ≤ L.length) : ∃ K b a, L = K ++ [b] ++ [a] := by
  match hr : L.reverse with
  | [] => have := congrArg List.length hr; simp at this; subst this; simp at h
  | [x] => have := congrArg List.length hr; simp at this; omega
  | a :: b :: K => exact ⟨K.reverse, b, a, by have := congrArg List.reverse hr; simpa using this⟩
theorem snoc1 {α : Type} {L : List α} (h : 1 ≤ L.length) : ∃ K a, L = K ++ [a] := by
  match hr : L.reverse with
  | [] => have := congrArg List.length hr; simp at this; subst this; simp at h
  | a :: K => exact ⟨K.reverse, a, by have := congrArg List.reverse hr; simpa using this⟩
end Go.Proofs.Ytmpepccpnnldoaa

namespace Go.Proofs.Ytmpepccpnnldoaa
open Go.RowKit Go.Proofs

end Go.Proofs.Ytmpepccpnnldoaa

namespace Go.Proofs.Ytmpepccpnnldoaa
open Go.RowKit Go.Proofs

theorem results_cell_row_tmp {P : Program} {fn : Func} {p q : Tmp} {ty : TypeId} (h : fn.results = #[.cell p ty, .tmp q]) (tmps : Array Value) (w : World) (g : Nat) (t : TypeId) (cs : Array Value) (fr : Nat × Nat) (d : TypeDesc) (v : Value)
    (hp : tmps.getD p undef = .pointer (some ⟨g, 0, none⟩)) (hv : tmps.getD q undef = v) (hg : w.heap[g]? = some (.cells cs t fr))
    (hu : P.underlying ty = some d) (hd : (match d with | .struct _ | .array _ _ => true | _ => false) = true) (hi : (P.info? ty).map (·.size) = some cs.size) :
    (results fn tmps).run P w = .ok (.tuple #[.agg cs, v]) w := by
  have hp' : tmps[p]?.getD undef = .pointer (some ⟨g, 0, none⟩) := by simpa using hp
  have hv' : tmps[q]?.getD undef = v := by simpa using hv
  simp [results, h, hp', hv', asAddr, run_loadVar_row w g t ty cs fr d hg hu hd hi]
end Go.Proofs.Ytmpepccpnnldoaa

namespace Go.Proofs.Ytmpepccpnnldoaa
set_option linter.unusedSimpArgs false
set_option linter.unusedVariables false
open Go.RowKit Go.Proofs

theorem splice_getP {arr : Array Value} {o : Nat} {cs : List Value} (h : o + cs.length ≤ arr.size) (q : Nat) : (splice arr o cs)[q]? = if q < o then arr[q]? else if q < o + cs.length then cs[q - o]? else arr[q]? := by
  unfold splice
  rw [List.getElem?_toArray, List.append_assoc]
  by_cases h1 : q < o
  · rw [if_pos h1, List.getElem?_append_left (by simp; omega), List.getElem?_take, if_pos h1]; simp
  · rw [if_neg h1, List.getElem?_append_right (by simp; omega)]
    have hl : (List.take o arr.toList).length = o := by simp; omega
    rw [hl]
    by_cases h2 : q < o + cs.length
    · rw [if_pos h2, List.getElem?_append_left (by omega)]
    · rw [if_neg h2, List.getElem?_append_right (by omega), List.getElem?_drop, Array.getElem?_toList]
      congr 1; omega
section
variable {P : Program} {md : Region.Mode} {ops : Array Oper} {Q : Exit → Act → World → Prop} {S : World → Prop}
theorem set_comm {α : Type} {a : Array α} {i j : Nat} {x y : α} (h : i ≠ j) : (a.setIfInBounds i x).setIfInBounds j y = (a.setIfInBounds j y).setIfInBounds i x := by
  apply Array.ext_getElem?
  intro k
  simp only [Array.getElem?_setIfInBounds, Array.size_setIfInBounds]
  by_cases h1 : i = k <;> by_cases h2 : j = k <;> simp [h1, h2] <;> first | rfl | omega
theorem put_comm {a : Act} {x y : Nat} {u v : Value} (h : x ≠ y) : (a.put (some x) u).put (some y) v = (a.put (some y) v).put (some x) u := by
  unfold Act.put
  dsimp only
  rw [set_comm h]
theorem wpAnyH_two {i j : Nat} {fuel : Nat} {listed : Array Bool} {a : Act} {w : World} (hr : Region.ready md ops listed = [i, j]) (h1 : wpOp P ops Q i (fun a' w' => S w' ∧ wpAnyH P md ops Q S fuel (listed.setIfInBounds i true) a' w') a w)
    (h2 : wpOp P ops Q j (fun a' w' => S w' ∧ wpAnyH P md ops Q S fuel (listed.setIfInBounds j true) a' w') a w) : wpAnyH P md ops Q S (fuel + 1) listed a w := by
  refine wpAnyH_all hr (by simp) fun k hk => ?_
  simp only [List.mem_cons, List.not_mem_nil, or_false] at hk
  rcases hk with rfl | rfl
  · exact h1
  · exact h2
theorem wpAnyH_one {i : Nat} {fuel : Nat} {listed : Array Bool} {a : Act} {w : World} (hr : Region.ready md ops listed = [i]) (h1 : wpOp P ops Q i (fun a' w' => S w' ∧ wpAnyH P md ops Q S fuel (listed.setIfInBounds i true) a' w') a w) : wpAnyH P md ops Q S (fuel + 1) listed a w := by
  refine wpAnyH_all hr (by simp) fun k hk => ?_
  obtain rfl : k = i := by simpa using hk
  exact h1
/-- A load, and what makes a block of its own, in either order. -/
theorem wpAnyH_load_make {i j x y : Nat} {oi oj : Oper} {fuel : Nat} {listed : Array Bool} {a : Act} {w w' : World} {vi vj : Value} (hr : Region.ready md ops listed = [i, j]) (hri : Region.ready md ops (listed.setIfInBounds i true) = [j])
    (hrj : Region.ready md ops (listed.setIfInBounds j true) = [i]) (hoi : ops[i]? = some oi) (hoj : ops[j]? = some oj) (gi : oi.guard = none) (gj : oj.guard = none) (di : oi.dst = some x) (dj : oj.dst = some y) (hxy : x ≠ y) (hij : i ≠ j)
    (r1 : (execOp a.eval oi).run P w = .ok (.value vi) w) (r2 : (execOp (a.put (some x) vi).eval oj).run P w = .ok (.value vj) w') (r3 : (execOp a.eval oj).run P w = .ok (.value vj) w') (r4 : (execOp (a.put (some y) vj).eval oi).run P w' = .ok (.value vi) w')
    (hS : S w) (hS' : S w') (h : wpAnyH P md ops Q S fuel ((listed.setIfInBounds i true).setIfInBounds j true) ((a.put (some x) vi).put (some y) vj) w') : wpAnyH P md ops Q S (fuel + 2) listed a w := by
  refine wpAnyH_two hr ?_ ?_
  · refine wpOp_run hoi gi r1 ⟨hS, ?_⟩
    rw [di]
    refine wpAnyH_run hri hoj gj r2 hS' ?_
    rw [dj]
    exact h
  · refine wpOp_run hoj gj r3 ⟨hS', ?_⟩
    rw [dj]
    refine wpAnyH_run hrj hoi gi r4 hS' ?_
    rw [di, ← put_comm hxy, set_comm (Ne.symm hij)]
    exact h
/-- A load, what hangs on it alone, and what makes a block of its own. -/
theorem wpAnyH_load_len_make {i k j x z y : Nat} {oi ok oj : Oper} {fuel : Nat} {listed : Array Bool} {a : Act} {w w' : World} {vi vk vj : Value} (hr : Region.ready md ops listed = [i, j]) (h1 : Region.ready md ops (listed.setIfInBounds i true) = [k, j])
    (h2 : Region.ready md ops (listed.setIfInBounds j true) = [i]) (h3 : Region.ready md ops ((listed.setIfInBounds i true).setIfInBounds k true) = [j]) (h4 : Region.ready md ops ((listed.setIfInBounds i true).setIfInBounds j true) = [k])
    (hoi : ops[i]? = some oi) (hok : ops[k]? = some ok) (hoj : ops[j]? = some oj) (gi : oi.guard = none) (gk : ok.guard = none) (gj : oj.guard = none) (di : oi.dst = some x) (dk : ok.dst = some z) (dj : oj.dst = some y)
    (hxy : x ≠ y) (hzy : z ≠ y) (hij : i ≠ j) (hkj : k ≠ j)
    (ri : (execOp a.eval oi).run P w = .ok (.value vi) w) (ri' : (execOp (a.put (some y) vj).eval oi).run P w' = .ok (.value vi) w')
    (rk : (execOp (a.put (some x) vi).eval ok).run P w = .ok (.value vk) w) (rk' : (execOp ((a.put (some x) vi).put (some y) vj).eval ok).run P w' = .ok (.value vk) w')
    (rj : (execOp a.eval oj).run P w = .ok (.value vj) w') (rj' : (execOp (a.put (some x) vi).eval oj).run P w = .ok (.value vj) w') (rj2 : (execOp ((a.put (some x) vi).put (some z) vk).eval oj).run P w = .ok (.value vj) w')
    (hS : S w) (hS' : S w') (h : wpAnyH P md ops Q S fuel (((listed.setIfInBounds i true).setIfInBounds k true).setIfInBounds j true) (((a.put (some x) vi).put (some z) vk).put (some y) vj) w') : wpAnyH P md ops Q S (fuel + 3) listed a w := by
  have e1 : (((listed.setIfInBounds i true).setIfInBounds j true).setIfInBounds k true) = (((listed.setIfInBounds i true).setIfInBounds k true).setIfInBounds j true) := set_comm (Ne.symm hkj)
  have e2 : (((a.put (some x) vi).put (some y) vj).put (some z) vk) = (((a.put (some x) vi).put (some z) vk).put (some y) vj) := put_comm (Ne.symm hzy)
  refine wpAnyH_two hr ?_ ?_
  · refine wpOp_run hoi gi ri ⟨hS, ?_⟩
    rw [di]
    refine wpAnyH_two h1 ?_ ?_
    · refine wpOp_run hok gk rk ⟨hS, ?_⟩
      rw [dk]
      refine wpAnyH_run h3 hoj gj rj2 hS' ?_
      rw [dj]
      exact h
    · refine wpOp_run hoj gj rj' ⟨hS', ?_⟩
      rw [dj]
      refine wpAnyH_run h4 hok gk rk' hS' ?_
      rw [dk, e1, e2]
      exact h
  · refine wpOp_run hoj gj rj ⟨hS', ?_⟩
    rw [dj]
    refine wpAnyH_run h2 hoi gi ri' hS' ?_
    rw [di, ← put_comm hxy, set_comm (Ne.symm hij)]
    refine wpAnyH_run h4 hok gk rk' hS' ?_
    rw [dk, e1, e2]
    exact h
theorem run_op_load_cell {o : Oper} {ev : Operand → Value} {w : World} (ty : TypeId) (x : Operand) (ho : o.op = .load ty x) (b off : Nat) (hx : ev x = .pointer (some ⟨b, off, none⟩)) (v : Value) (d : TypeDesc) (hu : P.underlying ty = some d)
    (hd : (match d with | .struct _ | .array _ _ => true | _ => false) = false) (hc : w.cell? ⟨b, off, none⟩ = some v) : (execOp ev o).run P w = .ok (.value v) w := by
  unfold execOp
  simp only [ho, hx, Instr.loadAt, Instr.sureAddr, Sem.run_bind, Sem.run_pure, Result.andThen_ok, run_loadVar_cell hu hd hc]
/-- append of one element onto a slice of our own. -/
theorem wpOp_append_acc {i : Nat} {o : Oper} {a : Act} {w : World} {K : Act → World → Prop} (ho0 : ops[i]? = some o) (hgd : o.guard = none) (s x : Operand) (t : TypeId)
    (ho : o.op = .call { callee := .builtin .append, args := #[s, x], argTypes := #[t, t] }) (E : TypeId) (sz bytes : Nat) (ht : P.underlying t = some (.slice E))
    (hi : (P.info? E).map (fun i => (i.zero.map (fun z => z.cells.size), i.size, i.bytes)) = some (some sz, sz, bytes)) (hsz : 0 < sz) (hby : bytes ≤ 100)
    (base : Nat) (es : List (List Tr)) (n : Nat) (hn : es.length = n) (v : Value) (U : Nat → Prop) (hs : a.eval s = v) (hacc : Acc E base sz w es v U)
    (e : List Tr) (cs : List Value) (T : Nat → Prop) (he : e.length = sz) (ho2 : OwnL w e cs T) (hST : ∀ x, U x → T x → False) (hT : ∀ x, T x → base ≤ x ∧ x < w.heap.size) (hTv : ∀ x, v.ownBlock = some x → ¬ T x)
    (B c : Nat) (E2 : TypeId) (hx : a.eval x = .slice (some ⟨B, 0, none⟩) 1 c) (hB : OB w B E2 ⟨cs⟩) (hlen : n ≤ 1099511627776) (hbase : base ≤ w.heap.size)
    (h : ∀ g cap w', Acc E base sz w' (es ++ [e]) (.slice (some ⟨g, 0, none⟩) (n + 1) cap) (fun x => U x ∨ T x ∨ x = g) → w.grownBy w' v.ownBlock → (v.ownBlock = some g ∨ g = w.heap.size) → g < w'.heap.size →
      K (a.put o.dst (.slice (some ⟨g, 0, none⟩) (n + 1) cap)) w') : wpOp P ops Q i K a w := by
  subst hn
  obtain ⟨xs, hxs⟩ := hacc.owns
  have hw : Region.wanted o (yielded ops a.tmps) = true := by simp [Region.wanted, hgd]
  cases hq : P.info? E with
  | none => simp [hq] at hi
  | some inf =>
    simp only [hq, Option.map_some, Option.some.injEq, Prod.mk.injEq] at hi
    obtain ⟨h1, h2, h3⟩ := hi
    cases hz : inf.zero with
    | none => simp [hz] at h1
    | some z =>
      simp only [hz, Option.map_some, Option.some.injEq] at h1
      have hcl : cs.length = sz := by rw [ho2.1, he]
      have hbb : (es.length + 1) * bytes ≤ 1099511627777 * 100 := Nat.mul_le_mul (by omega) hby
      unfold wpOp
      simp only [ho0]
      rw [if_pos hw]
      refine .inl ?_; refine wp_append_lies w s x t ho base E inf z sz bytes ht hq hz h2 h3 h1 hsz v es.length xs hs hxs ⟨B, 0, none⟩ 1 c cs hx (by omega) ?_ (ho2.rep.one) (by omega) (by unfold maxLen; omega) (by omega) hbase _ rfl ?_
      · intro j u hu
        exact World.news_of_block hB j u (by simpa using hu)
      · intro g cap w' k1 k2 k3 k4
        exact h g cap w' (hacc.snoc hxs he ho2 hST hT hTv k1 k2 k3 hbase) k2 k3 k4
/-- A store of one cell. -/
theorem wpOp_store_cell {i : Nat} {o : Oper} {a : Act} {w : World} {K : Act → World → Prop} (ho0 : ops[i]? = some o) (hgd : o.guard = none) (ty : TypeId) (x y : Operand) (ho : o.op = .store ty x y)
    (B off : Nat) (hx : a.eval x = .pointer (some ⟨B, off, none⟩)) (v : Value) (hy : a.eval y = v) (hv : v.cells = #[v]) (T : TypeId) (arr : Array Value) (hob : OB w B T arr) (hi : (P.info? ty).map (·.size) = some 1)
    (hfit : off < arr.size) (h1 : v.oneCell' = true)
    (h : ∀ w', OB w' B T (splice arr off [v]) → w.grownBy w' (some B) → w'.heap.size = w.heap.size → K (a.put o.dst undef) w') : wpOp P ops Q i K a w := by
  have hw : Region.wanted o (yielded ops a.tmps) = true := by simp [Region.wanted, hgd]
  have hst := run_storeCells_at P B off T [v] 0 arr w hob (by simp; omega) (by simpa using h1)
  cases hq : P.info? ty with
  | none => simp [hq] at hi
  | some inf =>
    have hs : inf.size = 1 := by simpa [hq] using hi
    have hrun : (storeVar ty ⟨B, off, none⟩ v).run P w = .ok () (w.setRow B (splice arr off [v])) := by
      simp [storeVar, Go.sizeOf, typeInfo, hq, hv, hs, splice]
      simpa using hst
    unfold wpOp
    simp only [ho0]
    rw [if_pos hw]
    refine .inl ?_
    unfold Oper.wp execOp
    simp only [ho, hx, hy, Instr.storeAt, Instr.sureAddr, Sem.run_bind, Sem.run_pure, Result.andThen_ok, hrun]
    exact h _ (setRow_heap w B arr _ T _ hob) ⟨rfl, rfl, rfl, by simp, fun k _ hk => setRow_other w B k _ (fun e => hk (by rw [e]))⟩ (by simp)
/-- A store of a struct. -/
theorem wpOp_store_rep {i : Nat} {o : Oper} {a : Act} {w : World} {K : Act → World → Prop} (ho0 : ops[i]? = some o) (hgd : o.guard = none) (ty : TypeId) (x y : Operand) (ho : o.op = .store ty x y)
    (B off : Nat) (hx : a.eval x = .pointer (some ⟨B, off, none⟩)) (cs : List Value) (hy : a.eval y = .agg ⟨cs⟩) (T : TypeId) (arr : Array Value) (hob : OB w B T arr) (hi : (P.info? ty).map (·.size) = some cs.length)
    (hfit : off + cs.length ≤ arr.size) (h1 : ∀ v ∈ cs, v.oneCell' = true)
    (h : ∀ w', OB w' B T (splice arr off cs) → w.grownBy w' (some B) → w'.heap.size = w.heap.size → K (a.put o.dst undef) w') : wpOp P ops Q i K a w := by
  have hw : Region.wanted o (yielded ops a.tmps) = true := by simp [Region.wanted, hgd]
  have hst := run_storeCells_at P B off T cs 0 arr w hob (by simpa using hfit) h1
  cases hq : P.info? ty with
  | none => simp [hq] at hi
  | some inf =>
    have hs : inf.size = cs.length := by simpa [hq] using hi
    have hrun : (storeVar ty ⟨B, off, none⟩ (.agg ⟨cs⟩)).run P w = .ok () (w.setRow B (splice arr off cs)) := by
      simp [storeVar, Go.sizeOf, typeInfo, hq, Value.cells, hs, hst, splice]
    unfold wpOp
    simp only [ho0]
    rw [if_pos hw]
    refine .inl ?_
    unfold Oper.wp execOp
    simp only [ho, hx, hy, Instr.storeAt, Instr.sureAddr, Sem.run_bind, Sem.run_pure, Result.andThen_ok, hrun]
    exact h _ (setRow_heap w B arr _ T _ hob) ⟨rfl, rfl, rfl, by simp, fun k _ hk => setRow_other w B k _ (fun e => hk (by rw [e]))⟩ (by simp)
end
end Go.Proofs.Ytmpepccpnnldoaa
