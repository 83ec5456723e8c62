/- Words, rules and walks of several kinds, laid together: MaParS, ParN, Stk, LookP, AnyH, ParW, ParO, MaParI, ParD, ParE, ParR, ParV, ParZ. No conditions but those that each theorem states. -/
import Derived.Test.YtmpepccpnnldoaaGreatQhec5c59e3
import Derived.Test.YtmpepccpnnldoaaGreatQh26493c2d
import Derived.Test.YtmpepccpnnldoaaGreatQhb90f6f50
import Derived.Test.YtmpepccpnnldoaaGreatQhc4eb6a9a
set_option linter.unusedSimpArgs false
set_option linter.unusedVariables false
namespace Go.Proofs.YtmpepccpnnldoaaGreat
set_option maxRecDepth 100000
set_option maxHeartbeats 40000000
noncomputable section
open Go.RowKit Go.Proofs
set_option linter.unusedSimpArgs false
set_option linter.unusedVariables false

attribute [local irreducible] lt

def sl2Skip_T (m : Gl2In → Option Gl2In) : Prop := ∀ (pr : Gl2In) (r : Gl2In), m pr = some r → ACalls Tryz.prog 48 [.ptr 0 0] ⟨[some ⟨78, [pS pr.gs, pI pr.gat, pI pr.gdeep, pI pr.gsize, pB pr.gbad]⟩], []⟩ (fun q t => q = (.tup [] : PV) ∧ t = ⟨[some ⟨78, [pS r.gs, pI r.gat, pI r.gdeep, pI r.gsize, pB r.gbad]⟩], []⟩)
def sl2Skip_F1 (fu : Nat) (pr : Gl2In) : Int → Option (LR Int Gl2In) :=
 fun v1 => sw (decide ((v1 : Int) < ((pr.gs.size : Nat) : Int)))
 (gd (0 ≤ v1 ∧ (v1).toNat < (pr.gs).size)
 (sw (decide ((((bAt pr.gs ((v1).toNat)).toNat : Int) : Int) = 32))
 (some (.next (wrap64 (v1 + 1))))
 (sw (decide ((((bAt pr.gs ((v1).toNat)).toNat : Int) : Int) = 10))
 (some (.next (wrap64 (v1 + 1))))
 (some (.brk v1)))))
 (some (.brk v1))
def sl2Skip_R1 (fu : Nat) (pr : Gl2In) : Option (Gl2In ⊕ Int) :=
 loopW (sl2Skip_F1 fu pr) fu pr.gat
def sl2Skip_M (fu : Nat) (pr : Gl2In) : Option Gl2In :=
 so (sl2Skip_R1 fu pr) (fun v1 =>
 some (Gl2In.mk pr.gs v1 pr.gdeep pr.gsize pr.gbad))
theorem sl2Skip_ok (fu : Nat)   : sl2Skip_T (sl2Skip_M fu) := by
  intro pr r H
  have H := hd0 H
  refine qI Tryz.func48 (fun C hC => ?_)
  refine loopV (σ := Int) (fun v1 => ⟨[(0, .ptr 0 0)], ⟨[some ⟨78, [pS pr.gs, pI v1, pI pr.gdeep, pI pr.gsize, pB pr.gbad]⟩], []⟩⟩) (fun v1 => ⟨[], ⟨[some ⟨78, [pS pr.gs, pI v1, pI pr.gdeep, pI pr.gsize, pB pr.gbad]⟩], []⟩⟩) (soI H) ?_ ?_
  · rintro k2 v1 H
    iterate 2 refine qS ?_
    rcases bool2 (decide ((v1 : Int) < ((pr.gs.size : Nat) : Int))) with g3 | g3
    · have H := swI1 H g3
      refine gdE H fun z4 H => ?_
      rcases bool2 (decide ((((bAt pr.gs ((v1).toNat)).toNat : Int) : Int) = 32)) with g5 | g5
      · have H := swI1 H g5
        refine dW (dI [0] rMv (dI [2] rNp (dI [3] (rFp fo78_1) (dD [4] (rL1 sh3) (dI [0] rMv (dI [6] rNp (dI [7] (rFp fo78_0) (dD [8] (rL1 sh9) (dI [9] (AOp.lenS rfl rfl rfl Tryz.underlying9) (dI [5, 10] rLt (dI [11] rMv (dI (hg := wantT g3) [0] rMv (dI (hg := wantT g3) [13] rNp ?_)))))))))))))
        refine dI (hg := wantT g3) [14] (rFp fo78_0) (dD (hg := wantT g3) [15] (rL1 sh9) (dI (hg := wantT g3) [0] rMv (dI (hg := wantT g3) [17] rNp (dI (hg := wantT g3) [18] (rFp fo78_1) (dD (hg := wantT g3) [19] (rL1 sh3) (dI (hg := wantT g3) [16, 20] (AOp.indexSI (y := v1) rfl rfl rfl rfl z4.1 z4.2 Tryz.underlying9) (dI (hg := wantT g3) [21] rEq (dI (hg := wantT g3) [22] rMv ?_))))))))
        iterate 10 refine dSk g5 ?_
        refine dI (hg := wantT g3) [23] (rPt g5) (dI [12, 34] (rPt g3) (dN (cndT rfl (AWP.skip (AWP.block (qR ?_))))))
        iterate 2 refine q1 rMv ?_
        refine q1 rNp (q1 (rFp fo78_1) (q1 (rL1 sh3) (q1 rAw (q1 rNp (q1 (rFp fo78_1) (q1 (rSu sz3) (qN ?_)))))))
        exact lwN ⟨_, (smI H :), wkA⟩
      have H := swI0 H g5
      refine dW (dI [0] rMv (dI [2] rNp (dI [3] (rFp fo78_1) (dD [4] (rL1 sh3) (dI [0] rMv (dI [6] rNp (dI [7] (rFp fo78_0) (dD [8] (rL1 sh9) (dI [9] (AOp.lenS rfl rfl rfl Tryz.underlying9) (dI [5, 10] rLt (dI [11] rMv (dI (hg := wantT g3) [0] rMv (dI (hg := wantT g3) [13] rNp ?_)))))))))))))
      refine dI (hg := wantT g3) [14] (rFp fo78_0) (dD (hg := wantT g3) [15] (rL1 sh9) (dI (hg := wantT g3) [0] rMv (dI (hg := wantT g3) [17] rNp (dI (hg := wantT g3) [18] (rFp fo78_1) (dD (hg := wantT g3) [19] (rL1 sh3) (dI (hg := wantT g3) [16, 20] (AOp.indexSI (y := v1) rfl rfl rfl rfl z4.1 z4.2 Tryz.underlying9) (dI (hg := wantT g3) [21] rEq (dI (hg := wantT g3) [22] rMv (dI (hg := wantT g5) [0] rMv (dI (hg := wantT g5) [24] rNp (dI (hg := wantT g5) [25] (rFp fo78_0) (dD (hg := wantT g5) [26] (rL1 sh9) (dI (hg := wantT g5) [0] rMv ?_)))))))))))))
      refine dI (hg := wantT g5) [28] rNp (dI (hg := wantT g5) [29] (rFp fo78_1) (dD (hg := wantT g5) [30] (rL1 sh3) (dI (hg := wantT g5) [27, 31] (AOp.indexSI (y := v1) rfl rfl rfl rfl z4.1 z4.2 Tryz.underlying9) (dI (hg := wantT g5) [32] rEq (dI (hg := wantT g3) [23, 33] (rPf g5) (dI [12, 34] (rPt g3) (dN ?_)))))))
      refine cndB H (fun h6 H => ?_) (fun h6 H => ?_)
      · refine AWP.skip (AWP.block (qR ?_))
        iterate 2 refine q1 rMv ?_
        refine q1 rNp (q1 (rFp fo78_1) (q1 (rL1 sh3) (q1 rAw (q1 rNp (q1 (rFp fo78_1) (q1 (rSu sz3) (qN ?_)))))))
        exact lwN ⟨_, (smI H :), wkA⟩
      refine AWP.exit ?_; exact lwB ⟨_, (smI H :), wkA⟩
    have H := swI0 H g3
    refine dW (dI [0] rMv (dI [2] rNp (dI [3] (rFp fo78_1) (dD [4] (rL1 sh3) (dI [0] rMv (dI [6] rNp (dI [7] (rFp fo78_0) (dD [8] (rL1 sh9) (dI [9] (AOp.lenS rfl rfl rfl Tryz.underlying9) (dI [5, 10] rLt (dI [11] rMv ?_)))))))))))
    iterate 11 refine dSk g3 ?_
    iterate 10 refine dSu ?_
    refine dSk g3 (dI [12] (rPf g3) (dN (cndF rfl (AWP.exit ?_))))
    exact lwB ⟨_, (smI H :), wkA⟩
  rintro v1 H
  obtain rfl : _ = r := (smI H :)
  exact qe (ps := []) ⟨rfl, rfl⟩ trivial

abbrev sl2Read_Y := Gl2In → Option (GSExpr × Gl2In)
def sl2Read_T (m : sl2Read_Y) : Prop := ∀ (pq0 : Gl2In) (r : GSExpr × Gl2In), m pq0 = some r → ACalls Tryz.prog 47 [.ptr 0 0] ⟨[some ⟨78, [pS pq0.gs, pI pq0.gat, pI pq0.gdeep, pI pq0.gsize, pB pq0.gbad]⟩], []⟩ (fun q t => q = ((GSExpr.pv r.1) : PV) ∧ t = ⟨[some ⟨78, [pS r.2.gs, pI r.2.gat, pI r.2.gdeep, pI r.2.gsize, pB r.2.gbad]⟩], []⟩)
def sl2Read_F1 (fu : Nat) (r_sl2Read : sl2Read_Y) (pq0 x2 : Gl2In) : Int → Option (LR Int (GSExpr × Gl2In)) :=
 fun v5 => sw (decide ((v5 : Int) < ((x2.gs.size : Nat) : Int)))
 (gd (0 ≤ v5 ∧ (v5).toNat < (x2.gs).size)
 (bd (sl2Byte_M fu (bAt x2.gs ((v5).toNat))) (fun x10 =>
 sw (x10)
 (some (.next (wrap64 (v5 + 1))))
 (some (.brk v5)))))
 (some (.brk v5))
def sl2Read_R1 (fu : Nat) (r_sl2Read : sl2Read_Y) (pq0 x2 : Gl2In) : Option ((GSExpr × Gl2In) ⊕ Int) :=
 loopW (sl2Read_F1 fu r_sl2Read pq0 x2) fu x2.gat
def sl2Read_F2 (fu : Nat) (r_sl2Read : sl2Read_Y) (pq0 x2 : Gl2In) (v5 : Int) : (ByteArray × Int × Int × Int × Bool × (List GSExpr)) → Option (LR (ByteArray × Int × Int × Int × Bool × (List GSExpr)) (GSExpr × Gl2In)) :=
 fun (v17, v18, v19, v20, v21, v23) => sw (!(v21))
 (bd (sl2Skip_M fu (Gl2In.mk v17 v18 v19 v20 v21)) (fun x27 =>
 sw (decide ((x27.gat : Int) < ((x27.gs.size : Nat) : Int)))
 (gd (0 ≤ x27.gat ∧ (x27.gat).toNat < (x27.gs).size)
 (sw (decide ((((bAt x27.gs ((x27.gat).toNat)).toNat : Int) : Int) = 41))
 (some (.ret ((GSExpr.mk s_ v23), (Gl2In.mk x27.gs (wrap64 (x27.gat + 1)) (wrap64 (x27.gdeep - 1)) x27.gsize x27.gbad))))
 (bd (r_sl2Read x27) (fun (x32, x33) =>
 gd ((v23).length + (([x32] : List GSExpr)).length ≤ 68719476736)
 (some (.next (x33.gs, x33.gat, x33.gdeep, x33.gsize, x33.gbad, (v23 ++ ([x32] : List GSExpr)))))))))
 (bd (r_sl2Read x27) (fun (x36, x37) =>
 gd ((v23).length + (([x36] : List GSExpr)).length ≤ 68719476736)
 (some (.next (x37.gs, x37.gat, x37.gdeep, x37.gsize, x37.gbad, (v23 ++ ([x36] : List GSExpr)))))))))
 (some (.brk (v17, v18, v19, v20, v21, v23)))
def sl2Read_R2 (fu : Nat) (r_sl2Read : sl2Read_Y) (pq0 x2 : Gl2In) (v5 : Int) : Option ((GSExpr × Gl2In) ⊕ (ByteArray × Int × Int × Int × Bool × (List GSExpr))) :=
 loopW (sl2Read_F2 fu r_sl2Read pq0 x2 v5) fu (x2.gs, (wrap64 (v5 + 1)), (wrap64 (x2.gdeep + 1)), (wrap64 (x2.gsize + 1)), x2.gbad, ([]))
def sl2Read_G (fu : Nat) (r_sl2Read : sl2Read_Y) (pq0 : Gl2In) : Option (GSExpr × Gl2In) :=
 bd (sl2Skip_M fu pq0) (fun x2 =>
 sw (decide ((x2.gat : Int) ≥ ((x2.gs.size : Nat) : Int)))
 (some ((GSExpr.mk s_ []), (Gl2In.mk x2.gs x2.gat x2.gdeep (wrap64 (x2.gsize + 1)) true)))
 (sw (decide ((wrap64 (x2.gsize + 1) : Int) > 900))
 (some ((GSExpr.mk s_ []), (Gl2In.mk x2.gs x2.gat x2.gdeep (wrap64 (x2.gsize + 1)) true)))
 (so (sl2Read_R1 fu r_sl2Read pq0 x2) (fun v5 =>
 sw (decide ((v5 : Int) > x2.gat))
 (gd ((0 : Int) ≤ x2.gat ∧ (x2.gat : Int) ≤ v5 ∧ (v5 : Int) ≤ ((x2.gs.size : Nat) : Int))
 (some ((GSExpr.mk (x2.gs.extract (x2.gat : Int).toNat (v5 : Int).toNat) []), (Gl2In.mk x2.gs v5 x2.gdeep (wrap64 (x2.gsize + 1)) x2.gbad))))
 (gd (0 ≤ v5 ∧ (v5).toNat < (x2.gs).size)
 (sw (!decide ((((bAt x2.gs ((v5).toNat)).toNat : Int) : Int) = 40))
 (some ((GSExpr.mk s_ []), (Gl2In.mk x2.gs v5 x2.gdeep (wrap64 (x2.gsize + 1)) true)))
 (sw (decide ((x2.gdeep : Int) = 14))
 (some ((GSExpr.mk s_ []), (Gl2In.mk x2.gs v5 x2.gdeep (wrap64 (x2.gsize + 1)) true)))
 (so (sl2Read_R2 fu r_sl2Read pq0 x2 v5) (fun (v17, v18, v19, v20, v21, v23) =>
 some ((GSExpr.mk s_ v23), (Gl2In.mk v17 v18 v19 v20 v21)))))))))))
theorem sl2Read_step (fu : Nat) (r_sl2Read : sl2Read_Y) (h_sl2Read : sl2Read_T r_sl2Read) : sl2Read_T (sl2Read_G fu r_sl2Read) := by
  intro pq0 r H
  have H := hd0 H
  refine qI Tryz.func47 (fun C hC => ?_)
  refine qS (qR (q1 (rAl zr44) (qN (qS (qR (q1 rMv (bdE H fun x2 z1 H => (q1 (rCp [0] [] Tryz.func48 (sl2Skip_ok fu pq0 _ z1)) (qN (qS (qR ?_)))))))))))
  iterate 2 refine q1 rMv ?_
  refine q1 rNp (q1 (rFp fo78_3) (q1 (rL1 sh3) (q1 rAw (q1 rNp (q1 (rFp fo78_3) (q1 (rSu sz3) (qN ?_)))))))
  iterate 2 refine qS ?_
  rcases bool2 (decide ((x2.gat : Int) ≥ ((x2.gs.size : Nat) : Int))) with g3 | g3
  · have H := swI1 H g3
    refine dW (dI [0] rMv (dI [15] rNp (dI [16] (rFp fo78_1) (dD [17] (rL1 sh3) (dI [0] rMv (dI [19] rNp (dI [20] (rFp fo78_0) (dD [21] (rL1 sh9) (dI [22] (AOp.lenS rfl rfl rfl Tryz.underlying9) (dI [18, 23] rGe (dI [24] rMv ?_)))))))))))
    iterate 5 refine dSk g3 ?_
    refine dI [25] (rPt g3) (dN (cndT rfl (qS (qR (q1 rMv (q1 rNp (q1 (rFp fo78_4) (q1 (rSu sz4) (qN (qS (qR (q1 (rBd zr44 pl44) (q1 (rSu sz44) ?_)))))))))))))
    refine qN (AWP.ret ?_)
    obtain rfl : _ = r := (smI H :)
    exact qe1 (hr := ⟨⟨_, _, _, rfl, rfl, sh44, rfl, rfl⟩, trivial⟩)
  have H := swI0 H g3
  refine dW (dI [0] rMv (dI [15] rNp (dI [16] (rFp fo78_1) (dD [17] (rL1 sh3) (dI [0] rMv (dI [19] rNp (dI [20] (rFp fo78_0) (dD [21] (rL1 sh9) (dI [22] (AOp.lenS rfl rfl rfl Tryz.underlying9) (dI [18, 23] rGe (dI [24] rMv (dI (hg := wantT g3) [0] rMv (dI (hg := wantT g3) [26] rNp ?_)))))))))))))
  refine dI (hg := wantT g3) [27] (rFp fo78_3) (dD (hg := wantT g3) [28] (rL1 sh3) (dI (hg := wantT g3) [29] rGt (dI [25, 30] (rPf g3) (dN ?_))))
  refine cndB H (fun h4 H => ?_) (fun h4 H => ?_)
  · refine qS (qR (q1 rMv (q1 rNp (q1 (rFp fo78_4) (q1 (rSu sz4) (qN (qS (qR (q1 (rBd zr44 pl44) (q1 (rSu sz44) (qN (AWP.ret ?_))))))))))))
    obtain rfl : _ = r := (smI H :)
    exact qe1 (hr := ⟨⟨_, _, _, rfl, rfl, sh44, rfl, rfl⟩, trivial⟩)
  refine AWP.skip (qS (qR (q1 rMv (q1 rNp (q1 (rFp fo78_1) (q1 (rL1 sh3) (q1 rMv (qN (qS ?_)))))))))
  refine loopV (σ := Int) (fun v5 => ⟨[(0, .ptr 0 0), (2, .ptr 1 0), (3, pI x2.gat)], ⟨[some ⟨78, [pS x2.gs, pI v5, pI x2.gdeep, pI (wrap64 (x2.gsize + 1)), pB x2.gbad]⟩, some ⟨44, [pS s_, .nil]⟩], []⟩⟩) (fun v5 => ⟨[(0, .ptr 0 0), (2, .ptr 1 0), (3, pI x2.gat)], ⟨[some ⟨78, [pS x2.gs, pI v5, pI x2.gdeep, pI (wrap64 (x2.gsize + 1)), pB x2.gbad]⟩, some ⟨44, [pS s_, .nil]⟩], []⟩⟩) (soI H) ?_ ?_
  · rintro k6 v5 H
    iterate 2 refine qS ?_
    rcases bool2 (decide ((v5 : Int) < ((x2.gs.size : Nat) : Int))) with g7 | g7
    · have H := swI1 H g7
      refine gdE H fun z8 H => (bdE H fun x10 z9 H => (dW (dI [0] rMv (dI [40] rNp (dI [41] (rFp fo78_1) (dD [42] (rL1 sh3) (dI [0] rMv (dI [44] rNp (dI [45] (rFp fo78_0) (dD [46] (rL1 sh9) (dI [47] (AOp.lenS rfl rfl rfl Tryz.underlying9) (dI [43, 48] rLt (dI [49] rMv ?_)))))))))))))
      refine dI (hg := wantT g7) [0] rMv (dI (hg := wantT g7) [51] rNp (dI (hg := wantT g7) [52] (rFp fo78_0) (dD (hg := wantT g7) [53] (rL1 sh9) (dI (hg := wantT g7) [0] rMv (dI (hg := wantT g7) [55] rNp (dI (hg := wantT g7) [56] (rFp fo78_1) (dD (hg := wantT g7) [57] (rL1 sh3) (dI (hg := wantT g7) [54, 58] (AOp.indexSI (y := v5) rfl rfl rfl rfl z8.1 z8.2 Tryz.underlying9) (dI (hg := wantT g7) [59] (rCf Tryz.func75 (sl2Byte_ok fu (bAt x2.gs ((v5).toNat)) _ z9)) (dI [50, 60] (rPt g7) (dN ?_)))))))))))
      refine cndB H (fun h11 H => ?_) (fun h11 H => ?_)
      · refine AWP.skip (AWP.block (qR ?_))
        iterate 2 refine q1 rMv ?_
        refine q1 rNp (q1 (rFp fo78_1) (q1 (rL1 sh3) (q1 rAw (q1 rNp (q1 (rFp fo78_1) (q1 (rSu sz3) (qN ?_)))))))
        exact lwN ⟨_, (smI H :), wkA⟩
      refine AWP.exit ?_; exact lwB ⟨_, (smI H :), wkA⟩
    have H := swI0 H g7
    refine dW (dI [0] rMv (dI [40] rNp (dI [41] (rFp fo78_1) (dD [42] (rL1 sh3) (dI [0] rMv (dI [44] rNp (dI [45] (rFp fo78_0) (dD [46] (rL1 sh9) (dI [47] (AOp.lenS rfl rfl rfl Tryz.underlying9) (dI [43, 48] rLt (dI [49] rMv ?_)))))))))))
    iterate 10 refine dSk g7 ?_
    refine dI [50] (rPf g7) (dN (cndF rfl (AWP.exit ?_)))
    exact lwB ⟨_, (smI H :), wkA⟩
  rintro v5 H
  iterate 2 refine qS ?_
  refine qR (q1 rMv (q1 rNp (q1 (rFp fo78_1) (q1 (rL1 sh3) (q1 rMv (q1 rGt (qN ?_)))))))
  refine cndB H (fun h12 H => ?_) (fun h12 H => ?_)
  · refine qS (gdE H fun z13 H => (dW (dI [0] rMv (dI [76] rNp (dI [77] (rFp fo78_0) (dD [78] (rL1 sh9) (dI [3] rMv (dI [0] rMv (dI [81] rNp (dI [82] (rFp fo78_1) (dD [83] (rL1 sh3) (dI [79, 80, 84] (AOp.sliceS (l := x2.gat) (k := v5) rfl rfl rfl rfl rfl z13 Tryz.underlying9) (dI [85] (rBd zr44 pl44) ?_)))))))))))))
    refine dE0 [2, 86] (rSu sz44) (dN (AWP.ret ?_))
    obtain rfl : _ = r := (smI H :)
    exact qe1 (hr := ⟨⟨_, _, _, rfl, rfl, sh44, rfl, rfl⟩, trivial⟩)
  refine AWP.skip ?_
  iterate 2 refine qS ?_
  refine gdE H fun z14 H => ?_
  rcases bool2 (!decide ((((bAt x2.gs ((v5).toNat)).toNat : Int) : Int) = 40)) with g15 | g15
  · have H := swI1 H g15
    refine dW (dI [0] rMv (dI [87] rNp (dI [88] (rFp fo78_0) (dD [89] (rL1 sh9) (dI [0] rMv (dI [91] rNp (dI [92] (rFp fo78_1) (dD [93] (rL1 sh3) (dI [90, 94] (AOp.indexSI (y := v5) rfl rfl rfl rfl z14.1 z14.2 Tryz.underlying9) (dI [95] rNe (dI [96] rMv ?_)))))))))))
    iterate 5 refine dSk g15 ?_
    refine dI [97] (rPt g15) (dN (cndT rfl (qS (qR (q1 rMv (q1 rNp (q1 (rFp fo78_4) (q1 (rSu sz4) (qN (qS (qR (q1 (rBd zr44 pl44) (q1 (rSu sz44) ?_)))))))))))))
    refine qN (AWP.ret ?_)
    obtain rfl : _ = r := (smI H :)
    exact qe1 (hr := ⟨⟨_, _, _, rfl, rfl, sh44, rfl, rfl⟩, trivial⟩)
  have H := swI0 H g15
  refine dW (dI [0] rMv (dI [87] rNp (dI [88] (rFp fo78_0) (dD [89] (rL1 sh9) (dI [0] rMv (dI [91] rNp (dI [92] (rFp fo78_1) (dD [93] (rL1 sh3) (dI [90, 94] (AOp.indexSI (y := v5) rfl rfl rfl rfl z14.1 z14.2 Tryz.underlying9) (dI [95] rNe (dI [96] rMv (dI (hg := wantT g15) [0] rMv (dI (hg := wantT g15) [98] rNp ?_)))))))))))))
  refine dI (hg := wantT g15) [99] (rFp fo78_2) (dD (hg := wantT g15) [100] (rL1 sh3) (dI (hg := wantT g15) [101] rEq (dI [97, 102] (rPf g15) (dN ?_))))
  refine cndB H (fun h16 H => ?_) (fun h16 H => ?_)
  · refine qS (qR (q1 rMv (q1 rNp (q1 (rFp fo78_4) (q1 (rSu sz4) (qN (qS (qR (q1 (rBd zr44 pl44) (q1 (rSu sz44) (qN (AWP.ret ?_))))))))))))
    obtain rfl : _ = r := (smI H :)
    exact qe1 (hr := ⟨⟨_, _, _, rfl, rfl, sh44, rfl, rfl⟩, trivial⟩)
  refine AWP.skip (qS (qR ?_))
  iterate 2 refine q1 rMv ?_
  refine q1 rNp (q1 (rFp fo78_1) (q1 (rL1 sh3) (q1 rAw (q1 rNp (q1 (rFp fo78_1) (q1 (rSu sz3) (qN (qS (qR ?_)))))))))
  iterate 2 refine q1 rMv ?_
  refine q1 rNp (q1 (rFp fo78_2) (q1 (rL1 sh3) (q1 rAw (q1 rNp (q1 (rFp fo78_2) (q1 (rSu sz3) (qN (qS (qR (q1 (rBd zr44 pl44) (q1 (rAl zr44) (q1 (rSu sz44) (qN ?_)))))))))))))
  refine qS (AWP.wk (Wk.regBox (k := 2) (j := 1) 44 2 (by decide) rfl rfl) ?_)
  refine loopV (σ := ByteArray × Int × Int × Int × Bool × (List GSExpr)) (fun (v17, v18, v19, v20, v21, v23) => ⟨[(0, .ptr 0 0), (2, .ptr 1 0), (4, .ptr 2 0)], ⟨[some ⟨78, [pS v17, pI v18, pI v19, pI v20, pB v21]⟩, some ⟨44, [pS s_, .nil]⟩, some ⟨44, [pS s_, aSExpr v23 0]⟩], [⟨44, 2, GSExpr.trs (v23), false⟩]⟩⟩) (fun (v17, v18, v19, v20, v21, v23) => ⟨[(2, .ptr 1 0), (4, .ptr 2 0)], ⟨[some ⟨78, [pS v17, pI v18, pI v19, pI v20, pB v21]⟩, some ⟨44, [pS s_, .nil]⟩, some ⟨44, [pS s_, aSExpr v23 0]⟩], [⟨44, 2, GSExpr.trs (v23), false⟩]⟩⟩) (soI H) ?_ ?_
  · rintro k24 ⟨v17, v18, v19, v20, v21, v23⟩ H
    iterate 2 refine qS ?_
    refine qR (q1 rMv (q1 rNp (q1 (rFp fo78_4) (q1 (rL1 sh4) (q1 rNo (qN ?_))))))
    refine cndB H (fun h25 H => ?_) (fun h25 H => ?_)
    · refine AWP.skip (AWP.block (qS (qR (q1 rMv (bdE H fun x27 z26 H => (q1 (rCp [0] [] Tryz.func48 (sl2Skip_ok fu (Gl2In.mk v17 v18 v19 v20 v21) _ z26)) (qN ?_)))))))
      iterate 2 refine qS ?_
      rcases bool2 (decide ((x27.gat : Int) < ((x27.gs.size : Nat) : Int))) with g28 | g28
      · have H := swI1 H g28
        refine gdE H fun z29 H => (dW (dI [0] rMv (dI [132] rNp (dI [133] (rFp fo78_1) (dD [134] (rL1 sh3) (dI [0] rMv (dI [136] rNp (dI [137] (rFp fo78_0) (dD [138] (rL1 sh9) (dI [139] (AOp.lenS rfl rfl rfl Tryz.underlying9) (dI [135, 140] rLt (dI [141] rMv (dI (hg := wantT g28) [0] rMv ?_)))))))))))))
        refine dI (hg := wantT g28) [143] rNp (dI (hg := wantT g28) [144] (rFp fo78_0) (dD (hg := wantT g28) [145] (rL1 sh9) (dI (hg := wantT g28) [0] rMv (dI (hg := wantT g28) [147] rNp (dI (hg := wantT g28) [148] (rFp fo78_1) (dD (hg := wantT g28) [149] (rL1 sh3) (dI (hg := wantT g28) [146, 150] (AOp.indexSI (y := x27.gat) rfl rfl rfl rfl z29.1 z29.2 Tryz.underlying9) (dI (hg := wantT g28) [151] rEq (dI [142, 152] (rPt g28) (dN ?_))))))))))
        refine cndB H (fun h30 H => ?_) (fun h30 H => ?_)
        · refine qS (qR ?_)
          iterate 2 refine q1 rMv ?_
          refine q1 rNp (q1 (rFp fo78_1) (q1 (rL1 sh3) (q1 rAw (q1 rNp (q1 (rFp fo78_1) (q1 (rSu sz3) (qN (qS (qR ?_)))))))))
          iterate 2 refine q1 rMv ?_
          refine q1 rNp (q1 (rFp fo78_2) (q1 (rL1 sh3) (q1 rSw (q1 rNp (q1 (rFp fo78_2) (q1 (rSu sz3) (qN (qS (qR (q1 (rLp [pS s_, aSExpr v23 0] sh44) (q1 (rSu sz44) (qN (AWP.ret ?_)))))))))))))
          obtain rfl : _ = r := (lwR (smI H) :)
          exact qe1 (hr := ⟨⟨_, _, _, rfl, rfl, sh44, rfl, rfl⟩, trivial⟩)
        refine AWP.skip (bdE2 H fun x32 x33 z31 H => (gdE H fun z34 H => (dW (dI [4] (rFp fo44_1) (dB [171] 0 1 (vL1 sh42) (dI [0] rMv (dE [173] (rCp [0] [] Tryz.func47 (h_sl2Read x27 _ z31)) (dI [174] (rBs ([x32] : List GSExpr) el42 zr44) (dE [172, 175] (rAp z34 el42 ze42) (dI [4] (rFp fo44_1) (dE0 [177, 176] (rSu sz42) (dN ?_))))))))))))
        exact lwN ⟨_, (smI H :), wkA⟩
      have H := swI0 H g28
      refine dW (dI [0] rMv (dI [132] rNp (dI [133] (rFp fo78_1) (dD [134] (rL1 sh3) (dI [0] rMv (dI [136] rNp (dI [137] (rFp fo78_0) (dD [138] (rL1 sh9) (dI [139] (AOp.lenS rfl rfl rfl Tryz.underlying9) (dI [135, 140] rLt (dI [141] rMv ?_)))))))))))
      iterate 10 refine dSk g28 ?_
      refine dI [142] (rPf g28) (dN (cndF rfl (AWP.skip (bdE2 H fun x36 x37 z35 H => (gdE H fun z38 H => (dW (dI [4] (rFp fo44_1) (dB [171] 0 1 (vL1 sh42) (dI [0] rMv (dE [173] (rCp [0] [] Tryz.func47 (h_sl2Read x27 _ z35)) (dI [174] (rBs ([x36] : List GSExpr) el42 zr44) (dE [172, 175] (rAp z38 el42 ze42) (dI [4] (rFp fo44_1) ?_)))))))))))))
      refine dE0 [177, 176] (rSu sz42) (dN ?_)
      exact lwN ⟨_, (smI H :), wkA⟩
    refine AWP.exit ?_; exact lwB ⟨_, (smI H :), wkA⟩
  rintro ⟨v17, v18, v19, v20, v21, v23⟩ H
  refine qS (qR (q1 (rLp [pS s_, aSExpr v23 0] sh44) (q1 (rSu sz44) (qN (AWP.ret ?_)))))
  obtain rfl : _ = r := (smI H :)
  exact qe1 (hr := ⟨⟨_, _, _, rfl, rfl, sh44, rfl, rfl⟩, trivial⟩)
def sl2Read_M : Nat → Gl2In → Option (GSExpr × Gl2In)
  | 0, _ => none
  | fu + 1, pq0 => sl2Read_G fu (sl2Read_M fu) pq0
theorem sl2Read_all (fu : Nat) : sl2Read_T (sl2Read_M fu) := by
  induction fu with
  | zero => exact (fun pq0 r H => by simp only [sl2Read_M] at H; cases H)
  | succ fu ih => exact (fun pq0 r H => by simp only [sl2Read_M] at H; exact sl2Read_step fu (sl2Read_M fu) ih pq0 r H)
theorem sl2Read_ok (fu : Nat) : sl2Read_T (sl2Read_M fu) := (sl2Read_all fu)

def sParseSExpr_T (m : ByteArray → Option (GSExpr × Bool)) : Prop := ∀ (ps : ByteArray) (r : GSExpr × Bool), m ps = some r → AFun Tryz.prog 25 [pS ps] (.tup [(GSExpr.pv r.1), pB r.2] : PV)
def sParseSExpr_M (fu : Nat) (ps : ByteArray) : Option (GSExpr × Bool) :=
 bd (sl2Read_M fu (Gl2In.mk ps 0 0 0 false)) (fun (x2, x3) =>
 bd (sl2Skip_M fu x3) (fun x5 =>
 sw (x5.gbad)
 (some ((GSExpr.mk s_ []), false))
 (sw (!decide ((x5.gat : Int) = ((ps.size : Nat) : Int)))
 (some ((GSExpr.mk s_ []), false))
 (bd (sIsValidSExpr_M fu x2) (fun x9 =>
 sw (!(x9))
 (some ((GSExpr.mk s_ []), false))
 (some (x2, true)))))))
theorem sParseSExpr_ok (fu : Nat)   : sParseSExpr_T (sParseSExpr_M fu) := by
  intro ps r H
  have H := hd0 H
  refine qI Tryz.func25 (fun C hC => ?_)
  refine qS (qR (q1 (rAl zr44) (q1 rMv (qN (qS (qR (q1 rMv (q1 (rBd zr78 pl78) (q1 (rBx ([pS ps, pI 0, pI 0, pI 0, pB false])) (q1 rMv (qN (qS (qR ?_)))))))))))))
  refine q1 rMv (bdE2 H fun x2 x3 z1 H => (q1 (rCp [1] [] Tryz.func47 (sl2Read_ok fu (Gl2In.mk ps 0 0 0 false) _ z1)) (q1 (rAl zr44) (q1 (rSu sz44) (qN (qS (qR (q1 rMv (bdE H fun x5 z4 H => (q1 (rCp [1] [] Tryz.func48 (sl2Skip_ok fu x3 _ z4)) (qN ?_)))))))))))
  iterate 2 refine qS ?_
  refine qR (q1 rMv (q1 rNp (q1 (rFp fo78_4) (q1 (rL1 sh4) (q1 rMv ?_)))))
  refine spB 17 H (fun g6 H => ?_) fun g6 H => ?_
  · refine qk g6 ?_
    iterate 6 refine qk g6 ?_
    refine q1 (rPt g6) (q1 rMv ?_)
    iterate 3 refine qk rfl ?_
    refine q1 (rPt rfl) (qN (cndT rfl (qS (qR (q1 (rBd zr44 pl44) (q1 (rSu sz44) (q1 rMv (qN (AWP.ret ?_)))))))))
    obtain rfl : _ = r := (smI H :)
    exact qe2 (hr := ⟨⟨_, _, _, rfl, rfl, sh44, rfl, rfl⟩, rfl, trivial⟩)
  refine qg g6 rMv (qg g6 rNp (qg g6 (rFp fo78_1) (qg g6 (rL1 sh3) (qg g6 rMv (qg g6 (AOp.lenS rfl rfl rfl Tryz.underlying9) (qg g6 rNe (q1 (rPf g6) (q1 rMv ?_))))))))
  refine spB 26 H (fun g7 H => ?_) fun g7 H => ?_
  · refine qk g7 ?_
    iterate 2 refine qk g7 ?_
    refine q1 (rPt g7) (qN (cndT rfl (qS (qR (q1 (rBd zr44 pl44) (q1 (rSu sz44) (q1 rMv (qN (AWP.ret ?_)))))))))
    obtain rfl : _ = r := (smI H :)
    exact qe2 (hr := ⟨⟨_, _, _, rfl, rfl, sh44, rfl, rfl⟩, rfl, trivial⟩)
  refine qg g7 (rLp [pS x2.gAtom, rSExpr x2.gList] sh44) (bdE H fun x9 z8 H => (qg g7 (rCf Tryz.func49 (sIsValidSExpr_ok fu x2 _ z8)) (qg g7 rNo (q1 (rPf g7) (qN ?_)))))
  refine cndB H (fun h10 H => ?_) (fun h10 H => ?_)
  · refine qS (qR (q1 (rBd zr44 pl44) (q1 (rSu sz44) (q1 rMv (qN (AWP.ret ?_))))))
    obtain rfl : _ = r := (smI H :)
    exact qe2 (hr := ⟨⟨_, _, _, rfl, rfl, sh44, rfl, rfl⟩, rfl, trivial⟩)
  refine AWP.skip (qS (qR (q1 (rLp [pS x2.gAtom, rSExpr x2.gList] sh44) (q1 (rSu sz44) (q1 rMv (qN (AWP.ret ?_)))))))
  obtain rfl : _ = r := (smI H :)
  exact qe2 (hr := ⟨⟨_, _, _, rfl, rfl, sh44, rfl, rfl⟩, rfl, trivial⟩)

def sl4Var_T (m : ByteArray → Option GType) : Prop := ∀ (ps : ByteArray) (r : GType), m ps = some r → AFun Tryz.prog 50 [pS ps] ((GType.pv r) : PV)
def sl4Var_M (fu : Nat) (ps : ByteArray) : Option GType :=
 some (GType.mk 1 ps [])
theorem sl4Var_ok (fu : Nat)   : sl4Var_T (sl4Var_M fu) := by
  intro ps r H
  have H := hd0 H
  refine qI Tryz.func50 (fun C hC => ?_)
  refine qS (qR (q1 (rAl zr26) (qN (qS (qR (q1 rMv (q1 (rBd zr26 pl26) (q1 (rSu sz26) (qN (AWP.ret ?_))))))))))
  obtain rfl : _ = r := (smI H :)
  exact qe1 (hr := ⟨⟨_, _, _, rfl, rfl, sh26, rfl, rfl⟩, trivial⟩)

def sl4Con_T (m : ByteArray → (List GType) → Option GType) : Prop := ∀ (ps : ByteArray) (pargs : List GType) (r : GType), m ps pargs = some r → AFun Tryz.prog 37 [pS ps, rType pargs] ((GType.pv r) : PV)
def sl4Con_M (fu : Nat) (ps : ByteArray) (pargs : List GType) : Option GType :=
 gd (([] : List GType).length + (pargs).length ≤ 68719476736)
 (some (GType.mk 2 ps (([]) ++ pargs)))
theorem sl4Con_ok (fu : Nat)   : sl4Con_T (sl4Con_M fu) := by
  intro ps pargs r H
  have H := hd0 H
  refine qI Tryz.func37 (fun C hC => ?_)
  refine qS (qR (q1 (rAl zr26) (qN (qS (qR (q1 rMv (q1 (rBa ([] : List GType) el24 zr26) (q1 rMv (gdE H fun z1 H => (q1 (rAp z1 el24 ze24) (q1 (rBd zr26 pl26) (q1 (rSu sz26) (qN ?_)))))))))))))
  refine AWP.ret ?_
  obtain rfl : _ = r := (smI H :)
  exact qe1 (hr := ⟨⟨_, _, _, rfl, rfl, sh26, rfl, rfl⟩, trivial⟩)

abbrev sl5Ty_Y := GSExpr → Option GType
def sl5Ty_T (m : sl5Ty_Y) : Prop := ∀ (pa0 : GSExpr) (r : GType), m pa0 = some r → AFun Tryz.prog 26 [(GSExpr.pv pa0)] ((GType.pv r) : PV)
def sl5Ty_F1 (fu : Nat) (r_sl5Ty : sl5Ty_Y) (pa0 : GSExpr) : Nat → ((List GType)) → Option (LR ((List GType)) GType) :=
 fun i11 v13 => bd (r_sl5Ty (atD pa0.gList i11)) (fun x17 =>
 gd ((v13).length + (([x17] : List GType)).length ≤ 68719476736)
 (some (.next (v13 ++ ([x17] : List GType)))))
def sl5Ty_R1 (fu : Nat) (r_sl5Ty : sl5Ty_Y) (pa0 : GSExpr) : Option (GType ⊕ ((List GType))) :=
 loopN (sl5Ty_F1 fu r_sl5Ty pa0) (pa0.gList.length - 1) 1 ([])
def sl5Ty_G (fu : Nat) (r_sl5Ty : sl5Ty_Y) (pa0 : GSExpr) : Option GType :=
 sw (!decide (pa0.gAtom = s_))
 (gd (0 < (pa0.gAtom).size)
 (sw (decide ((((bAt pa0.gAtom 0).toNat : Int) : Int) = 39))
 (gd ((0 : Int) ≤ 1 ∧ (1 : Int) ≤ ((pa0.gAtom.size : Nat) : Int) ∧ (((pa0.gAtom.size : Nat) : Int) : Int) ≤ ((pa0.gAtom.size : Nat) : Int))
 (bd (sl4Var_M fu (pa0.gAtom.extract (1 : Int).toNat (((pa0.gAtom.size : Nat) : Int) : Int).toNat)) (fun x6 =>
 some x6)))
 (bd (sl4Con_M fu pa0.gAtom ([])) (fun x8 =>
 some x8))))
 (sw (decide ((((pa0.gList.length : Nat) : Int) : Int) < 2))
 (some (GType.mk 0 s_ []))
 (gd (0 < (pa0.gList).length)
 (so (sl5Ty_R1 fu r_sl5Ty pa0) (fun v13 =>
 sw (decide ((atD pa0.gList 0).gAtom = s_assoc))
 (sw (decide ((((v13.length : Nat) : Int) : Int) = 2))
 (gd (1 < (pa0.gList).length)
 (sw (!decide ((atD pa0.gList 1).gAtom = s_))
 (gd ((0 : Int) ≤ 1 ∧ (1 : Int) ≤ ((v13.length : Nat) : Int) ∧ (((v13.length : Nat) : Int) : Int) ≤ ((v13.length : Nat) : Int))
 (some (GType.mk 3 ((atD pa0.gList 1).gAtom) (List.drop (1 : Int).toNat (List.take (((v13.length : Nat) : Int) : Int).toNat v13)))))
 (sw (decide ((atD pa0.gList 0).gAtom = s_dyn))
 (some (GType.mk 2 ((atD pa0.gList 0).gAtom) v13))
 (some (GType.mk 2 ((atD pa0.gList 0).gAtom) v13)))))
 (sw (decide ((atD pa0.gList 0).gAtom = s_dyn))
 (sw (decide ((((v13.length : Nat) : Int) : Int) = 1))
 (gd (1 < (pa0.gList).length)
 (sw (!decide ((atD pa0.gList 1).gAtom = s_))
 (some (GType.mk 4 ((atD pa0.gList 1).gAtom) []))
 (some (GType.mk 2 ((atD pa0.gList 0).gAtom) v13))))
 (some (GType.mk 2 ((atD pa0.gList 0).gAtom) v13)))
 (some (GType.mk 2 ((atD pa0.gList 0).gAtom) v13))))
 (sw (decide ((atD pa0.gList 0).gAtom = s_dyn))
 (sw (decide ((((v13.length : Nat) : Int) : Int) = 1))
 (gd (1 < (pa0.gList).length)
 (sw (!decide ((atD pa0.gList 1).gAtom = s_))
 (some (GType.mk 4 ((atD pa0.gList 1).gAtom) []))
 (some (GType.mk 2 ((atD pa0.gList 0).gAtom) v13))))
 (some (GType.mk 2 ((atD pa0.gList 0).gAtom) v13)))
 (some (GType.mk 2 ((atD pa0.gList 0).gAtom) v13)))))))
theorem sl5Ty_step (fu : Nat) (r_sl5Ty : sl5Ty_Y) (h_sl5Ty : sl5Ty_T r_sl5Ty) : sl5Ty_T (sl5Ty_G fu r_sl5Ty) := by
  intro pa0 r H
  have H := hd0 H
  refine qI Tryz.func26 (fun C hC => ?_)
  refine qS (qR (q1 (rBx ([pS pa0.gAtom, rSExpr pa0.gList])) (q1 (rAl zr26) (qN ?_))))
  iterate 2 refine qS ?_
  refine qR (q1 (rFp fo44_0) (q1 (rL1 sh9) (q1 rSn (qN ?_))))
  refine cndB H (fun h1 H => ?_) (fun h1 H => ?_)
  · refine qS (qS (qR (q1 (rFp fo44_0) (q1 (rL1 sh9) (gdE H fun z2 H => (q1 (AOp.indexS (k := 0) rfl rfl rfl rfl z2 Tryz.underlying9) (q1 rEq (qN ?_))))))))
    refine cndB H (fun h3 H => ?_) (fun h3 H => ?_)
    · refine qS (qR (q1 (rFp fo44_0) (q1 (rL1 sh9) (gdE H fun z4 H => (q1 (AOp.sliceS (l := 1) (k := ((pa0.gAtom.size : Nat) : Int)) rfl rfl rfl rfl rfl z4 Tryz.underlying9) (bdE H fun x6 z5 H => (q1 (rCf Tryz.func50 (sl4Var_ok fu (pa0.gAtom.extract (1 : Int).toNat (((pa0.gAtom.size : Nat) : Int) : Int).toNat) _ z5)) (q1 (rSu sz26) (qN (AWP.ret ?_))))))))))
      obtain rfl : _ = r := (smI H :)
      exact qe1 (hr := ⟨⟨_, _, _, rfl, rfl, sh26, rfl, rfl⟩, trivial⟩)
    refine AWP.skip (qS (qR (q1 (rFp fo44_0) (q1 (rL1 sh9) (bdE H fun x8 z7 H => (q1 (rCf Tryz.func37 (sl4Con_ok fu pa0.gAtom ([]) _ z7)) (q1 (rSu sz26) (qN (AWP.ret ?_)))))))))
    obtain rfl : _ = r := (smI H :)
    exact qe1 (hr := ⟨⟨_, _, _, rfl, rfl, sh26, rfl, rfl⟩, trivial⟩)
  refine AWP.skip ?_
  iterate 2 refine qS ?_
  refine qR (q1 (rFp fo44_1) (q1 (rL1 sh42) (q1 (rLn el42 (GSExpr.trs_len _)) (q1 rLt (qN ?_)))))
  refine cndB H (fun h9 H => ?_) (fun h9 H => ?_)
  · have h9n : pa0.gList.length < 2 := by have := of_decide_eq_true h9; omega
    refine qS (qR (q1 (rBd zr26 pl26) (q1 (rSu sz26) (qN (AWP.ret ?_)))))
    obtain rfl : _ = r := (smI H :)
    exact qe1 (hr := ⟨⟨_, _, _, rfl, rfl, sh26, rfl, rfl⟩, trivial⟩)
  refine AWP.skip (qS (qR (q1 (rFp fo44_1) (q1 (rL1 sh42) (gdE H fun z10 H => (q1 (rIx z10 el42) (q1 (rFe fo44_0) (q1 (rK1 sh9) (q1 rMv (qN (qS (qR (q1 (rBa ([] : List GType) el24 zr26) ?_)))))))))))))
  refine q1 rMv (qN ?_)
  iterate 2 refine qS ?_
  refine qR (q1 rMv (qN ?_))
  refine lenF 21 (GSExpr.trs_len _) (fun hl14 => ?_)
  refine loopB (σ := (List GType)) (fun i11 v13 => ⟨[(1, .ptr 0 0), (2, .ptr 1 0), (3, pS ((atD pa0.gList 0).gAtom)), (4, aType v13 0), (5, pN i11)], ⟨[some ⟨44, [pS pa0.gAtom, rSExpr pa0.gList]⟩, some ⟨26, [pI 0, pS s_, .nil]⟩], [⟨26, 3, GType.trs (v13), false⟩]⟩⟩) (fun v13 => ⟨[(1, .ptr 0 0), (2, .ptr 1 0), (3, pS ((atD pa0.gList 0).gAtom)), (4, aType v13 0)], ⟨[some ⟨44, [pS pa0.gAtom, rSExpr pa0.gList]⟩, some ⟨26, [pI 0, pS s_, .nil]⟩], [⟨26, 3, GType.trs (v13), false⟩]⟩⟩) (soI H) ?_ ?_
  · rintro i11 v13 H
    iterate 2 refine qS ?_
    refine qR (q1 rMv (q1 (rFp fo44_1) (q1 (rL1 sh42) (q1 (rLn el42 (GSExpr.trs_len _)) (q1 rLt (qN ?_))))))
    refine cndL H (fun h15 h15l H => ?_) (fun h15 H => ?_)
    · have h15n := nat_lt_of h15
      refine AWP.skip (qS (AWP.block (qR (q1 rMv (q1 (rFp fo44_1) (q1 (rL1 sh42) (q1 rMv (q1 (rIx h15n el42) (q1 (rKe (GSExpr.cs (atD pa0.gList i11)) sh44) (bdE H fun x17 z16 H => (q1 (rCf Tryz.func26 (h_sl5Ty (atD pa0.gList i11) _ z16)) (q1 (rBs ([x17] : List GType) el24 zr26) (gdE H fun z18 H => ?_)))))))))))))
      refine q1 (rAp z18 el24 ze24) (q1 rMv (qN (qR (q1 rMv (q1 (AOp.addI rfl rfl rfl rfl (c := ((i11 + 1 : Nat) : Int)) (by omega) (by omega)) (q1 rMv (qN ?_)))))))
      exact lpN h15l ⟨_, (smI H :), wkA⟩
    refine AWP.exit ?_; exact lpX ⟨_, H, wkA⟩
  rintro v13 H
  refine qS (AWP.block (qS (qR (q1 rMv (q1 rSe (q1 rMv ?_))))))
  refine spB 50 H (fun g19 H => ?_) fun g19 H => ?_
  · refine qg g19 rMv (qg g19 (rLn el24 (GType.trs_len _)) (qg g19 rEq (q1 (rPt g19) (q1 rMv ?_))))
    refine spB 55 H (fun g20 H => ?_) fun g20 H => ?_
    · refine qg g20 (rFp fo44_1) (qg g20 (rL1 sh42) (gdE H fun z21 H => (qg g20 (rIx z21 el42) (qg g20 (rFe fo44_0) (qg g20 (rK1 sh9) (qg g20 rSn (q1 (rPt g20) (q1 rMv (qN ?_)))))))))
      refine cndB H (fun h22 H => ?_) (fun h22 H => ?_)
      · refine qS (gdE H fun z23 H => (dW (dI [1] (rFp fo44_1) (dD [63] (rL1 sh42) (dI [64] (rIx z21 el42) (dI [65] (rFe fo44_0) (dI [66] (rK1 sh9) (dI [4] rMv ?_))))))))
        refine dI [68] (AOp.congrP (AOp.sliceR (es := GType.trs (v13)) (l := 1) (k := ((v13.length : Nat) : Int)) rfl rfl rfl rfl rfl (by rw [GType.trs_len]; exact rfl) (by rw [GType.trs_len]; exact z23) el24) (GType.trs_part _ _ _)) ?_; refine dI [67, 69] (rBd zr26 pl26) (dE0 [2, 70] (rSu sz26) (dN (AWP.ret ?_)))
        obtain rfl : _ = r := (smI H :)
        exact qe1 (hr := ⟨⟨_, _, _, rfl, rfl, sh26, rfl, rfl⟩, trivial⟩)
      refine qS (qR (q1 rMv (q1 rSe (q1 rMv ?_))))
      refine spB 74 H (fun g24 H => ?_) fun g24 H => ?_
      · refine qg g24 rMv (qg g24 (rLn el24 (GType.trs_len _)) (qg g24 rEq (q1 (rPt g24) (q1 rMv ?_))))
        iterate 6 refine qk (dne (b := 1) g20 (by decide)) ?_
        refine q1 (rPf (dne (b := 1) g20 (by decide))) (q1 rMv (qN (cndF rfl (AWP.skip (qS (qR ?_))))))
        iterate 2 refine q1 rMv ?_
        refine q1 (rBd zr26 pl26) (q1 (rSu sz26) (qN (AWP.ret ?_)))
        obtain rfl : _ = r := (smI H :)
        exact qe1 (hr := ⟨⟨_, _, _, rfl, rfl, sh26, rfl, rfl⟩, trivial⟩)
      iterate 3 refine qk g24 ?_
      refine q1 (rPf g24) (q1 rMv ?_)
      iterate 6 refine qk rfl ?_
      refine q1 (rPf rfl) (q1 rMv (qN (cndF rfl (AWP.skip (qS (qR ?_))))))
      iterate 2 refine q1 rMv ?_
      refine q1 (rBd zr26 pl26) (q1 (rSu sz26) (qN (AWP.ret ?_)))
      obtain rfl : _ = r := (smI H :)
      exact qe1 (hr := ⟨⟨_, _, _, rfl, rfl, sh26, rfl, rfl⟩, trivial⟩)
    iterate 6 refine qk g20 ?_
    refine q1 (rPf g20) (q1 rMv (qN (cndF rfl (qS (qR (q1 rMv (q1 rSe (q1 rMv ?_))))))))
    refine spB 74 H (fun g25 H => ?_) fun g25 H => ?_
    · refine qg g25 rMv (qg g25 (rLn el24 (GType.trs_len _)) (qg g25 rEq (q1 (rPt g25) (q1 rMv ?_))))
      refine spB 79 H (fun g26 H => ?_) fun g26 H => ?_
      · refine qg g26 (rFp fo44_1) (qg g26 (rL1 sh42) (gdE H fun z27 H => (qg g26 (rIx z27 el42) (qg g26 (rFe fo44_0) (qg g26 (rK1 sh9) (qg g26 rSn (q1 (rPt g26) (q1 rMv (qN ?_)))))))))
        refine cndB H (fun h28 H => ?_) (fun h28 H => ?_)
        · refine qS (qR (q1 (rFp fo44_1) (q1 (rL1 sh42) (q1 (rIx z27 el42) (q1 (rFe fo44_0) (q1 (rK1 sh9) (q1 (rBd zr26 pl26) (q1 (rSu sz26) (qN (AWP.ret ?_))))))))))
          obtain rfl : _ = r := (smI H :)
          exact qe1 (hr := ⟨⟨_, _, _, rfl, rfl, sh26, rfl, rfl⟩, trivial⟩)
        refine AWP.skip (qS (qR ?_))
        iterate 2 refine q1 rMv ?_
        refine q1 (rBd zr26 pl26) (q1 (rSu sz26) (qN (AWP.ret ?_)))
        obtain rfl : _ = r := (smI H :)
        exact qe1 (hr := ⟨⟨_, _, _, rfl, rfl, sh26, rfl, rfl⟩, trivial⟩)
      iterate 6 refine qk g26 ?_
      refine q1 (rPf g26) (q1 rMv (qN (cndF rfl (AWP.skip (qS (qR ?_))))))
      iterate 2 refine q1 rMv ?_
      refine q1 (rBd zr26 pl26) (q1 (rSu sz26) (qN (AWP.ret ?_)))
      obtain rfl : _ = r := (smI H :)
      exact qe1 (hr := ⟨⟨_, _, _, rfl, rfl, sh26, rfl, rfl⟩, trivial⟩)
    iterate 3 refine qk g25 ?_
    refine q1 (rPf g25) (q1 rMv ?_)
    iterate 6 refine qk rfl ?_
    refine q1 (rPf rfl) (q1 rMv (qN (cndF rfl (AWP.skip (qS (qR ?_))))))
    iterate 2 refine q1 rMv ?_
    refine q1 (rBd zr26 pl26) (q1 (rSu sz26) (qN (AWP.ret ?_)))
    obtain rfl : _ = r := (smI H :)
    exact qe1 (hr := ⟨⟨_, _, _, rfl, rfl, sh26, rfl, rfl⟩, trivial⟩)
  iterate 3 refine qk g19 ?_
  refine q1 (rPf g19) (q1 rMv ?_)
  iterate 6 refine qk rfl ?_
  refine q1 (rPf rfl) (q1 rMv (qN (cndF rfl (qS (qR (q1 rMv (q1 rSe (q1 rMv ?_))))))))
  refine spB 74 H (fun g29 H => ?_) fun g29 H => ?_
  · refine qg g29 rMv (qg g29 (rLn el24 (GType.trs_len _)) (qg g29 rEq (q1 (rPt g29) (q1 rMv ?_))))
    refine spB 79 H (fun g30 H => ?_) fun g30 H => ?_
    · refine qg g30 (rFp fo44_1) (qg g30 (rL1 sh42) (gdE H fun z31 H => (qg g30 (rIx z31 el42) (qg g30 (rFe fo44_0) (qg g30 (rK1 sh9) (qg g30 rSn (q1 (rPt g30) (q1 rMv (qN ?_)))))))))
      refine cndB H (fun h32 H => ?_) (fun h32 H => ?_)
      · refine qS (qR (q1 (rFp fo44_1) (q1 (rL1 sh42) (q1 (rIx z31 el42) (q1 (rFe fo44_0) (q1 (rK1 sh9) (q1 (rBd zr26 pl26) (q1 (rSu sz26) (qN (AWP.ret ?_))))))))))
        obtain rfl : _ = r := (smI H :)
        exact qe1 (hr := ⟨⟨_, _, _, rfl, rfl, sh26, rfl, rfl⟩, trivial⟩)
      refine AWP.skip (qS (qR ?_))
      iterate 2 refine q1 rMv ?_
      refine q1 (rBd zr26 pl26) (q1 (rSu sz26) (qN (AWP.ret ?_)))
      obtain rfl : _ = r := (smI H :)
      exact qe1 (hr := ⟨⟨_, _, _, rfl, rfl, sh26, rfl, rfl⟩, trivial⟩)
    iterate 6 refine qk g30 ?_
    refine q1 (rPf g30) (q1 rMv (qN (cndF rfl (AWP.skip (qS (qR ?_))))))
    iterate 2 refine q1 rMv ?_
    refine q1 (rBd zr26 pl26) (q1 (rSu sz26) (qN (AWP.ret ?_)))
    obtain rfl : _ = r := (smI H :)
    exact qe1 (hr := ⟨⟨_, _, _, rfl, rfl, sh26, rfl, rfl⟩, trivial⟩)
  iterate 3 refine qk g29 ?_
  refine q1 (rPf g29) (q1 rMv ?_)
  iterate 6 refine qk rfl ?_
  refine q1 (rPf rfl) (q1 rMv (qN (cndF rfl (AWP.skip (qS (qR ?_))))))
  iterate 2 refine q1 rMv ?_
  refine q1 (rBd zr26 pl26) (q1 (rSu sz26) (qN (AWP.ret ?_)))
  obtain rfl : _ = r := (smI H :)
  exact qe1 (hr := ⟨⟨_, _, _, rfl, rfl, sh26, rfl, rfl⟩, trivial⟩)
def sl5Ty_M : Nat → GSExpr → Option GType
  | 0, _ => none
  | fu + 1, pa0 => sl5Ty_G fu (sl5Ty_M fu) pa0
theorem sl5Ty_all (fu : Nat) : sl5Ty_T (sl5Ty_M fu) := by
  induction fu with
  | zero => exact (fun pa0 r H => by simp only [sl5Ty_M] at H; cases H)
  | succ fu ih => exact (fun pa0 r H => by simp only [sl5Ty_M] at H; exact sl5Ty_step fu (sl5Ty_M fu) ih pa0 r H)
theorem sl5Ty_ok (fu : Nat) : sl5Ty_T (sl5Ty_M fu) := (sl5Ty_all fu)

def sParseGoal_T (m : ByteArray → Option (GBound × Bool)) : Prop := ∀ (ps : ByteArray) (r : GBound × Bool), m ps = some r → AFun Tryz.prog 9 [pS ps] (.tup [(GBound.pv r.1), pB r.2] : PV)
def sParseGoal_M (fu : Nat) (ps : ByteArray) : Option (GBound × Bool) :=
 bd (sParseSExpr_M fu ps) (fun (x2, x3) =>
 sw (!(x3))
 (some ((GBound.mk s_ (GType.mk 0 s_ [])), false))
 (sw (!decide ((((x2.gList.length : Nat) : Int) : Int) = 2))
 (some ((GBound.mk s_ (GType.mk 0 s_ [])), false))
 (gd (0 < (x2.gList).length)
 (gd (1 < (x2.gList).length)
 (bd (sl5Ty_M fu (atD x2.gList 1)) (fun x9 =>
 bd (sFormatGoal_M fu (GBound.mk ((atD x2.gList 0).gAtom) x9)) (fun x11 =>
 sw (decide (x11 = s_))
 (some ((GBound.mk s_ (GType.mk 0 s_ [])), false))
 (sw (!decide (x11 = ps))
 (some ((GBound.mk s_ (GType.mk 0 s_ [])), false))
 (some ((GBound.mk ((atD x2.gList 0).gAtom) x9), true))))))))))
theorem sParseGoal_ok (fu : Nat)   : sParseGoal_T (sParseGoal_M fu) := by
  intro ps r H
  have H := hd0 H
  refine qI Tryz.func9 (fun C hC => ?_)
  refine qS (qR (q1 (rAl zr28) (q1 rMv (qN (qS (qR (q1 rMv (bdE2 H fun x2 x3 z1 H => (q1 (rCf Tryz.func25 (sParseSExpr_ok fu ps _ z1)) (q1 rMv ?_))))))))))
  iterate 2 refine q1 rEx ?_
  refine q1 (rAl zr44) (q1 (rSu sz44) (q1 rMv (qN ?_)))
  iterate 2 refine qS ?_
  refine qR (q1 rMv (q1 rNo (q1 rMv ?_)))
  refine spB 14 H (fun g4 H => ?_) fun g4 H => ?_
  · refine qk g4 ?_
    iterate 3 refine qk g4 ?_
    refine q1 (rPt g4) (qN (cndT rfl (qS (qR (q1 (rBd zr28 pl28) (q1 (rSu sz28) (q1 rMv (qN (AWP.ret ?_)))))))))
    obtain rfl : _ = r := (smI H :)
    exact qe2 (hr := ⟨⟨_, _, _, rfl, rfl, sh28, rfl, rfl⟩, rfl, trivial⟩)
  refine qg g4 (rFp fo44_1) (qg g4 (rL1 sh42) (qg g4 (rLn el42 (GSExpr.trs_len _)) (qg g4 rNe (q1 (rPf g4) (qN ?_)))))
  refine cndB H (fun h5 H => ?_) (fun h5 H => ?_)
  · refine qS (qR (q1 (rBd zr28 pl28) (q1 (rSu sz28) (q1 rMv (qN (AWP.ret ?_))))))
    obtain rfl : _ = r := (smI H :)
    exact qe2 (hr := ⟨⟨_, _, _, rfl, rfl, sh28, rfl, rfl⟩, rfl, trivial⟩)
  refine AWP.skip (qS (gdE H fun z6 H => (gdE H fun z7 H => (bdE H fun x9 z8 H => (dW (dI [4] (rFp fo44_1) (dB [21] 0 1 (vL1 sh42) (dI [22] (rIx z6 el42) (dI [23] (rFe fo44_0) (dI [24] (rK1 sh9) (dI [4] (rFp fo44_1) (dB [26] 0 1 (vL1 sh42) (dI [27] (rIx z7 el42) ?_)))))))))))))
  refine dI [28] (rKe (GSExpr.cs (atD x2.gList 1)) sh44) (dI [29] (rCf Tryz.func26 (sl5Ty_ok fu (atD x2.gList 1) _ z8)) (dI [25, 30] (rBd zr28 pl28) (dE [] (rAl zr28) (dE0 [6, 31] (rSu sz28) (dN ?_)))))
  iterate 2 refine qS ?_
  refine qR (q1 (rLp [pS ((atD x2.gList 0).gAtom), pI x9.gKind, pS x9.gName, rType x9.gArgs] sh28) (bdE H fun x11 z10 H => (q1 (rCf Tryz.func10 (sFormatGoal_ok fu (GBound.mk ((atD x2.gList 0).gAtom) x9) _ z10)) (q1 rSe (q1 rMv ?_)))))
  refine spB 35 H (fun g12 H => ?_) fun g12 H => ?_
  · refine qk g12 ?_
    iterate 3 refine qk g12 ?_
    refine q1 (rPt g12) (qN (cndT rfl (qS (qR (q1 (rBd zr28 pl28) (q1 (rSu sz28) (q1 rMv (qN (AWP.ret ?_)))))))))
    obtain rfl : _ = r := (smI H :)
    exact qe2 (hr := ⟨⟨_, _, _, rfl, rfl, sh28, rfl, rfl⟩, rfl, trivial⟩)
  refine qg g12 (rLp [pS ((atD x2.gList 0).gAtom), pI x9.gKind, pS x9.gName, rType x9.gArgs] sh28) (qg g12 (rCf Tryz.func10 (sFormatGoal_ok fu (GBound.mk ((atD x2.gList 0).gAtom) x9) _ z10)) (qg g12 rMv (qg g12 rSn (q1 (rPf g12) (qN ?_)))))
  refine cndB H (fun h13 H => ?_) (fun h13 H => ?_)
  · refine qS (qR (q1 (rBd zr28 pl28) (q1 (rSu sz28) (q1 rMv (qN (AWP.ret ?_))))))
    obtain rfl : _ = r := (smI H :)
    exact qe2 (hr := ⟨⟨_, _, _, rfl, rfl, sh28, rfl, rfl⟩, rfl, trivial⟩)
  refine AWP.skip (qS (qR (q1 (rLp [pS ((atD x2.gList 0).gAtom), pI x9.gKind, pS x9.gName, rType x9.gArgs] sh28) (q1 (rSu sz28) (q1 rMv (qN (AWP.ret ?_)))))))
  obtain rfl : _ = r := (smI H :)
  exact qe2 (hr := ⟨⟨_, _, _, rfl, rfl, sh28, rfl, rfl⟩, rfl, trivial⟩)

end
end Go.Proofs.YtmpepccpnnldoaaGreat

namespace Go.Proofs.YtmpepccpnnldoaaGreat
set_option linter.unusedSimpArgs false
set_option linter.unusedVariables false
open Go.RowKit Go.Proofs

def atB (c : UInt8) : Bool := lowC c || (digC c || decide ((Lib.indexByte (x_272d2b2a3c3d2e).data.toList c : Int) ≥ 0))
theorem atB_i (fu : Nat) (c : UInt8) : iisAtomByte_M fu c = some (atB c) := by
  unfold iisAtomByte_M atB
  rw [low_i, dig_i, bd_some]
  cases lowC c
  · cases digC c
    · show gd _ _ = _
      exact gdT (by decide) rfl
    · rfl
  · rfl
/-- Where the atom ends. -/
def scanA (s : ByteArray) : Nat → Nat → Nat
  | 0, i => i
  | k + 1, i => if atB (bAt s i) then scanA s k (i + 1) else i
def endA (s : ByteArray) (i : Nat) : Nat := scanA s (s.size - i) i
theorem scanA_ge (s : ByteArray) : ∀ k i, i ≤ scanA s k i
  | 0, i => Nat.le_refl _
  | k + 1, i => by
    have := scanA_ge s k (i + 1)
    rw [scanA]
    split <;> omega
theorem scanA_le (s : ByteArray) : ∀ k i, scanA s k i ≤ i + k
  | 0, i => Nat.le_refl _
  | k + 1, i => by
    have := scanA_le s k (i + 1)
    rw [scanA]
    split <;> omega
theorem endA_next {s : ByteArray} {i : Nat} (h : i < s.size) (hb : atB (bAt s i) = true) : endA s i = endA s (i + 1) := by
  unfold endA
  rw [show s.size - i = (s.size - (i + 1)) + 1 by omega, scanA, if_pos hb]
theorem endA_stop {s : ByteArray} {i : Nat} (h : i < s.size) (hb : atB (bAt s i) = false) : endA s i = i := by
  unfold endA
  rw [show s.size - i = (s.size - (i + 1)) + 1 by omega, scanA, if_neg (by rw [hb]; decide)]
theorem endA_end {s : ByteArray} {i : Nat} (h : s.size ≤ i) : endA s i = i := by
  unfold endA
  rw [show s.size - i = 0 by omega, scanA]
theorem endA_ge (s : ByteArray) (i : Nat) : i ≤ endA s i := scanA_ge s _ i
theorem endA_le {s : ByteArray} {i : Nat} (h : i ≤ s.size) : endA s i ≤ s.size := by have := scanA_le s (s.size - i) i; unfold endA; omega
def subB (s : ByteArray) (i j : Nat) : ByteArray := s.extract i j

/-- The state: the lists that have begun, the count, the place. -/
structure PState where
  st : List (List GSExpr)
  cnt : Nat
  at_ : Nat
/-- The last list with one more element. -/
def addLast : List (List GSExpr) → GSExpr → List (List GSExpr)
  | [], _ => []
  | [l], x => [l ++ [x]]
  | l :: r, x => l :: addLast r x
/-- The last list ends, and becomes an element of the one before it. -/
def closeL : List (List GSExpr) → List (List GSExpr)
  | [] => []
  | [l] => [l]
  | [k, l] => [k ++ [.mk s_ l]]
  | k :: r => k :: closeL r
/-- One byte that is neither a blank nor the like. -/
def tokP (s : ByteArray) (p : PState) : Option (List (List GSExpr) × Nat) :=
  let c := bAt s p.at_
  if c = 40 then some (p.st ++ [[]], p.at_ + 1)
  else if c = 41 then (if p.st.length = 1 then none else some (closeL p.st, p.at_ + 1))
  else if atB c = true then some (addLast p.st (.mk (subB s p.at_ (endA s p.at_)) []), endA s p.at_)
  else none
def pstep (s : ByteArray) (p : PState) : Option PState :=
  if bAt s p.at_ = 32 ∨ bAt s p.at_ = 10 then some ⟨p.st, p.cnt, p.at_ + 1⟩
  else match tokP s p with
    | none => none
    | some q => if 15 < q.1.length ∨ 1800 < p.cnt + 1 then none else some ⟨q.1, p.cnt + 1, q.2⟩
def prun (s : ByteArray) : Nat → PState → Option PState
  | 0, p => some p
  | k + 1, p => if p.at_ < s.size then (match pstep s p with | none => none | some q => prun s k q) else some p
theorem tokP_next {s : ByteArray} {p : PState} {q : List (List GSExpr) × Nat} (hi : p.at_ < s.size) (h : tokP s p = some q) : p.at_ < q.2 ∧ q.2 ≤ s.size := by
  unfold tokP at h
  dsimp only at h
  split at h
  · cases h; exact ⟨Nat.lt_succ_self _, hi⟩
  · split at h
    · split at h
      · cases h
      · cases h; exact ⟨Nat.lt_succ_self _, hi⟩
    · split at h
      · rename_i hb
        cases h
        have h1 := endA_next hi hb
        have h2 := endA_ge s (p.at_ + 1)
        have h3 := endA_le (Nat.le_of_lt hi)
        exact ⟨by show p.at_ < endA s p.at_; omega, h3⟩
      · cases h
theorem pstep_next {s : ByteArray} {p q : PState} (hi : p.at_ < s.size) (h : pstep s p = some q) : p.at_ < q.at_ ∧ q.at_ ≤ s.size := by
  unfold pstep at h
  split at h
  · cases h; exact ⟨Nat.lt_succ_self _, hi⟩
  · split at h
    · cases h
    · rename_i r hr
      split at h
      · cases h
      · cases h; exact tokP_next hi hr
theorem prun_fuel {s : ByteArray} : ∀ (k : Nat) (p : PState), s.size - p.at_ ≤ k → prun s k p = prun s (s.size - p.at_) p
  | 0, p, h => by rw [show s.size - p.at_ = 0 by omega]
  | k + 1, p, h => by
    by_cases hi : p.at_ < s.size
    · rw [show s.size - p.at_ = (s.size - (p.at_ + 1)) + 1 by omega, prun, prun, if_pos hi, if_pos hi]
      cases hq : pstep s p with
      | none => rfl
      | some q =>
        have := pstep_next hi hq
        show prun s k q = prun s _ q
        rw [prun_fuel k q (by omega), prun_fuel (s.size - (p.at_ + 1)) q (by omega)]
    · rw [show s.size - p.at_ = 0 by omega]
      simp only [prun, if_neg hi]
  termination_by k => k
theorem prun_step {s : ByteArray} {p : PState} (hi : p.at_ < s.size) : prun s (s.size - p.at_) p = match pstep s p with | none => none | some q => prun s (s.size - q.at_) q := by
  rw [show s.size - p.at_ = (s.size - (p.at_ + 1)) + 1 by omega, prun, if_pos hi]
  cases hq : pstep s p with
  | none => rfl
  | some q =>
    have := pstep_next hi hq
    show prun s _ q = prun s _ q
    rw [prun_fuel (s.size - (p.at_ + 1)) q (by omega)]
theorem prun_end {s : ByteArray} {p : PState} (hi : ¬ p.at_ < s.size) : prun s (s.size - p.at_) p = some p := by
  rw [show s.size - p.at_ = 0 by omega, prun]
def pinit : PState := ⟨[[]], 0, 0⟩
noncomputable def parseM (fu : Nat) (s : ByteArray) : Option (GSExpr × Bool) :=
  match prun s s.size pinit with
  | none => some (.mk s_ [], false)
  | some p => match p.st with
    | [[x]] => bd (iIsValidSExpr_M fu x) fun v => some (if v then (x, true) else (.mk s_ [], false))
    | _ => some (.mk s_ [], false)
noncomputable def iParseSExpr_M (fu : Nat) (s : ByteArray) : Option (GSExpr × Bool) := gd (s.size ≤ 1099511627776) (parseM fu s)
def iParseSExpr_T (m : ByteArray → Option (GSExpr × Bool)) : Prop := ∀ (ps : ByteArray) (r : GSExpr × Bool), m ps = some r → AFun Tryz.prog 21 [pS ps] (.tup [(GSExpr.pv r.1), pB r.2] : PV)
end Go.Proofs.YtmpepccpnnldoaaGreat

namespace Go.Proofs.YtmpepccpnnldoaaGreat
set_option linter.unusedSimpArgs false
set_option linter.unusedVariables false
open Go.RowKit Go.Proofs

theorem Acc.init {E : TypeId} {base sz : Nat} {w : World} {es : List (List Tr)} {e : List Tr} {S : Nat → Prop} {a : Option Addr} {cap n : Nat} (h : Acc E base sz w (es ++ [e]) (.slice a n cap) S) (hn : n = es.length + 1) : Acc E base sz w es (.slice a es.length cap) S := by
  obtain ⟨hown, hwh, hlens, hlt⟩ := h
  have hl : (es ++ [e]).length = es.length + 1 := by simp
  refine ⟨?_, ?_, fun x hx => hlens x (by simp [hx]), hlt⟩
  · cases hown with
    | row c T h1 h2 h3 h4 h5 h6 =>
      have hg : ∀ i x, es[i]? = some x → (es ++ [e])[i]? = some x := fun i x hx => by rw [List.getElem?_append_left (List.getElem?_eq_some_iff.1 hx).1]; exact hx
      refine Own.row c T (by omega) h2 (fun hne => ?_) (fun i x hx => h4 i x (hg i x hx)) (fun i x hx => h5 i x (hg i x hx)) (fun i x hx j d hd i' x' hx' => h6 i x (hg i x hx) j d hd i' x' (hg i' x' hx'))
      obtain ⟨b, off, E', arr, ha, hb, hs, hc⟩ := h3 (by simp)
      exact ⟨b, off, E', arr, ha, hb, hs, fun i x hx => hc i x (hg i x hx)⟩
  · rcases hwh with ⟨-, h0⟩ | ⟨g, c, cur, hv, h2, h3, h4, h5, h6⟩
    · omega
    · injection hv with hv1 hv2 hv3
      subst hv1 hv3
      exact .inr ⟨g, cap, cur, rfl, h2, h3, by omega, h5, h6⟩
/-- The last element is written over. -/
theorem Acc.setLast {E : TypeId} {base sz : Nat} {w w' : World} {es : List (List Tr)} {e0 e : List Tr} {S T : Nat → Prop} {g cap : Nat} {cs : List Value} {cur : Array Value} (h : Acc E base sz w (es ++ [e0]) (.slice (some ⟨g, 0, none⟩) (es.length + 1) cap) S)
    (hsz : 0 < sz) (he : e.length = sz) (ho : OwnL w e cs T) (hST : ∀ x, S x → T x → False) (hT : ∀ x, T x → base ≤ x ∧ x < w.heap.size) (hTg : ¬ T g) (hob : OB w g E cur) (hob' : OB w' g E (splice cur (es.length * sz) cs)) (hg : w.grownBy w' (some g)) (hb : base ≤ w.heap.size) :
    Acc E base sz w' (es ++ [e]) (.slice (some ⟨g, 0, none⟩) (es.length + 1) cap) (fun x => S x ∨ T x ∨ x = g) := by
  have hi := h.init rfl
  have hcl : cs.length = sz := by rw [ho.1, he]
  obtain ⟨-, hwh, -, -⟩ := h
  rcases hwh with ⟨hv, -⟩ | ⟨g', c', cur', hv, h2, h3, h4, h5, h6⟩
  · cases hv
  · injection hv with hv1 hv2 hv3
    injection hv1 with hv1
    injection hv1 with hv1
    subst hv1 hv3
    have hc : cur' = cur := by
      have e1 : w.heap[g]? = some (.cells cur' E (0, 0)) := h3
      have e2 : w.heap[g]? = some (.cells cur E (0, 0)) := hob
      rw [e1] at e2
      injection e2 with e2
      injection e2
    subst hc
    have hle : (es.length + 1) * sz ≤ cur'.size := by
      rw [h6]
      refine Nat.mul_le_mul_right sz ?_
      have : (es ++ [e0]).length = es.length + 1 := by simp
      omega
    have hle2 : es.length * sz + sz ≤ cur'.size := by rw [Nat.succ_mul] at hle; exact hle
    refine hi.snoc (base' := base) (xs := cur'.toList.take (es.length * sz)) (cs := cs) ⟨by simp; omega, .inr ⟨g, cap, cur', rfl, h2, h3, by simp at h4; omega, h5, h6, rfl⟩⟩ he ho hST hT (fun x hx => ?_) ⟨?_, .inr ⟨g, cap, _, rfl, h2, hob', by simpa using h4, h5, ?_, ?_⟩⟩ hg (.inl rfl) hb
    · injection hx with hx
      exact hx ▸ hTg
    · simp [hcl, Nat.succ_mul]; omega
    · rw [splice_size (by rw [hcl]; exact hle2), h6]
    · unfold splice
      have e1 : (cur'.toList.take (es.length * sz) ++ cs).length = (es.length + 1) * sz := by simp [hcl, Nat.succ_mul]; omega
      rw [← e1, List.toList_toArray, List.take_left]
theorem ob_inj {w : World} {g : Nat} {t : TypeId} {a b : Array Value} (h : OB w g t a) (k : OB w g t b) : a = b := by
  have e1 : w.heap[g]? = some (.cells a t (0, 0)) := h
  have e2 : w.heap[g]? = some (.cells b t (0, 0)) := k
  rw [e1] at e2
  injection e2 with e2
  injection e2
structure Lv where
  v : Value
  l : List GSExpr
  S : Nat → Prop
def Lv.F (a : Lv) (x : Nat) : Prop := a.S x ∨ a.v.ownBlock = some x
def Lv.nil : Lv := ⟨.slice none 0 0, [], fun _ => False⟩
theorem Lv.nil_F (x : Nat) : ¬ Lv.nil.F x := by
  rintro (h | h)
  · exact h
  · cases h
abbrev LAcc (base : Nat) (w : World) (a : Lv) : Prop := Acc 44 base 2 w (GSExpr.trs a.l) a.v a.S
theorem LAcc.lt {base : Nat} {w : World} {a : Lv} (h : LAcc base w a) {x : Nat} (hx : a.F x) : base ≤ x ∧ x < w.heap.size := by
  rcases hx with hx | hx
  · exact Acc.lt h x hx
  · exact Acc.blk h hx
theorem LAcc.shapeV {base : Nat} {w : World} {a : Lv} (h : LAcc base w a) : ∃ x c, a.v = .slice x a.l.length c ∧ a.l.length ≤ c ∧ c ≤ maxLen := by
  obtain ⟨x, c, h1, h2, h3⟩ := Acc.shape h
  rw [GSExpr.trs_len] at h1 h2
  exact ⟨x, c, h1, h2, h3⟩
structure Stk (base : Nat) (w : World) (g cap : Nat) (L : List Lv) : Prop where
  own : w.ownsRow base 42 1 (.slice (some ⟨g, 0, none⟩) L.length cap) L.length (L.map Lv.v)
  acc : ∀ a ∈ L, LAcc base w a ∧ ¬ a.F g
  dis : L.Pairwise (fun a b => ∀ x, a.F x → b.F x → False)
theorem Stk.ob {base : Nat} {w : World} {g cap : Nat} {L : List Lv} (h : Stk base w g cap L) : ∃ cur, OB w g 42 cur ∧ cur.size = cap ∧ L.length ≤ cap ∧ cap ≤ maxLen ∧ base ≤ g ∧ cur.toList.take L.length = L.map Lv.v := by
  rcases h.own.2 with ⟨hv, -⟩ | ⟨g', c', cur, hv, h2, h3, h4, h5, h6, h7⟩
  · cases hv
  · injection hv with hv1 hv2 hv3
    injection hv1 with hv1
    injection hv1 with hv1
    subst hv1 hv3
    exact ⟨cur, h3, by omega, h4, h5, h2, by simpa using h7⟩
theorem Stk.lt {base : Nat} {w : World} {g cap : Nat} {L : List Lv} (h : Stk base w g cap L) : g < w.heap.size := by
  obtain ⟨cur, h1, -⟩ := h.ob
  exact h1.lt
theorem Stk.cell {base : Nat} {w : World} {g cap : Nat} {L : List Lv} (h : Stk base w g cap L) {j : Nat} (hj : j < L.length) : w.cell? ⟨g, j, none⟩ = some (L[j]).v := by
  obtain ⟨cur, h1, h2, h3, -, -, h7⟩ := h.ob
  rw [h1.cell]
  have h8 : (cur.toList.take L.length)[j]? = (L.map Lv.v)[j]? := by rw [h7]
  rw [List.getElem?_take, if_pos hj, List.getElem?_map, List.getElem?_eq_getElem hj, Array.getElem?_toList] at h8
  exact h8
theorem Stk.ext {base : Nat} {w w' : World} {g cap : Nat} {L : List Lv} (h : Stk base w g cap L) (hx : Ext w w') : Stk base w' g cap L := by
  refine ⟨?_, fun a ha => ⟨(h.acc a ha).1.ext hx, (h.acc a ha).2⟩, h.dis⟩
  obtain ⟨cur, h1, h2, h3, h4, h5, h7⟩ := h.ob
  exact ⟨by simp, .inr ⟨g, cap, cur, rfl, h5, h1.ext hx, h3, h4, by omega, by simpa using h7⟩⟩
/-- One more list begins. -/
theorem Stk.push {base : Nat} {w w' : World} {g cap g' cap' : Nat} {L : List Lv} (h : Stk base w g cap L) (hr : w'.ownsRow base 42 1 (.slice (some ⟨g', 0, none⟩) (L.length + 1) cap') (L.length + 1) (L.map Lv.v ++ [.slice none 0 0]))
    (hg : w.grownBy w' (some g)) (hgg : some g = some g' ∨ w.heap.size ≤ g') : Stk base w' g' cap' (L ++ [Lv.nil]) := by
  refine ⟨?_, fun a ha => ?_, ?_⟩
  · rw [List.length_append, List.length_singleton, List.map_append]
    exact hr
  · rcases List.mem_append.1 ha with ha | ha
    · obtain ⟨h1, h2⟩ := h.acc a ha
      refine ⟨Acc.keep h1 hg.size fun b hb hlt => hg.block b hlt fun e => h2 (by cases e; exact hb), fun hf => ?_⟩
      rcases hgg with e | e
      · cases e; exact h2 hf
      · have := (LAcc.lt h1 hf).2; omega
    · obtain rfl := List.mem_singleton.1 ha
      exact ⟨Acc.nil _ _ _ _, Lv.nil_F _⟩
  · rw [List.pairwise_append]
    refine ⟨h.dis, by simp, fun a _ b hb x _ hx => ?_⟩
    obtain rfl := List.mem_singleton.1 hb
    exact Lv.nil_F _ hx
/-- The last list is taken off. -/
theorem Stk.pop {base : Nat} {w : World} {g cap : Nat} {L : List Lv} {a : Lv} (h : Stk base w g cap (L ++ [a])) : Stk base w g cap L ∧ LAcc base w a ∧ (∀ b ∈ L, ∀ x, b.F x → a.F x → False) ∧ ¬ a.F g := by
  obtain ⟨h1, h2⟩ := h.acc a (by simp)
  have hd := h.dis
  rw [List.pairwise_append] at hd
  refine ⟨⟨?_, fun b hb => h.acc b (by simp [hb]), hd.1⟩, h1, fun b hb => hd.2.2 b hb a (by simp), h2⟩
  obtain ⟨cur, k1, k2, k3, k4, k5, k7⟩ := h.ob
  refine ⟨by simp, .inr ⟨g, cap, cur, rfl, k5, k1, by simp at k3; omega, k4, by omega, ?_⟩⟩
  have := congrArg (List.take L.length) k7
  rw [List.take_take, List.map_append] at this
  simpa using this
/-- The last list has turned. -/
theorem Stk.set {base : Nat} {w w' : World} {g cap : Nat} {L : List Lv} {a a' : Lv} {T : Nat → Prop} (h : Stk base w g cap (L ++ [a])) (hacc : LAcc base w' a') (hF : ∀ x, a'.F x → a.F x ∨ T x ∨ w.heap.size ≤ x)
    (hT : ∀ b ∈ L, ∀ x, b.F x → T x → False) (hTg : ¬ T g) (hz : w.heap.size ≤ w'.heap.size) (hblk : ∀ x, x < w.heap.size → x ≠ g → ¬ a.F x → w'.heap[x]? = w.heap[x]?)
    (hc : ∀ cur, OB w g 42 cur → OB w' g 42 (splice cur L.length [a'.v])) : Stk base w' g cap (L ++ [a']) := by
  obtain ⟨hp, ha, hda, hag⟩ := h.pop
  obtain ⟨cur, k1, k2, k3, k4, k5, k7⟩ := h.ob
  have k3' : L.length + 1 ≤ cap := by simpa using k3
  have hlt := h.lt
  refine ⟨⟨by simp, .inr ⟨g, cap, _, by simp, k5, hc cur k1, by simpa using k3, k4, by rw [splice_size (by simp; omega)]; omega, ?_⟩⟩, fun b hb => ?_, ?_⟩
  · have e1 := congrArg (List.take L.length) k7
    rw [List.take_take, List.map_append] at e1
    have e2 : cur.toList.take L.length = L.map Lv.v := by simpa using e1
    unfold splice
    rw [e2]
    have e3 : (L.map Lv.v ++ [a'.v]).length = (L ++ [a']).length * 1 := by simp
    rw [← e3, List.toList_toArray, List.take_left, List.map_append]
    rfl
  · rcases List.mem_append.1 hb with hb | hb
    · obtain ⟨h1, h2⟩ := hp.acc b hb
      refine ⟨Acc.keep h1 hz fun x hx hxl => hblk x hxl (fun e => h2 (e ▸ hx)) fun hf => hda b hb x hx hf, h2⟩
    · obtain rfl := List.mem_singleton.1 hb
      refine ⟨hacc, fun hf => ?_⟩
      rcases hF g hf with h1 | h1 | h1
      · exact hag h1
      · exact hTg h1
      · omega
  · rw [List.pairwise_append]
    refine ⟨hp.dis, by simp, fun b hb c hc' x hx hx' => ?_⟩
    obtain rfl := List.mem_singleton.1 hc'
    rcases hF x hx' with h1 | h1 | h1
    · exact hda b hb x hx h1
    · exact hT b hb x hx h1
    · have := (LAcc.lt (hp.acc b hb).1 hx).2
      omega
/-- .. by an append onto it, and a store of it. -/
theorem Stk.set2 {base : Nat} {w w' : World} {g cap g2 n c : Nat} {L : List Lv} {a a' : Lv} {T : Nat → Prop} (h : Stk base w g cap (L ++ [a])) (hacc : LAcc base w' a') (hS : ∀ x, a'.S x → a.S x ∨ T x ∨ x = g2) (hv : a'.v = .slice (some ⟨g2, 0, none⟩) n c)
    (hgg : a.v.ownBlock = some g2 ∨ g2 = w.heap.size) (hT : ∀ b ∈ L, ∀ x, b.F x → T x → False) (hTg : ¬ T g) (hz : w.heap.size ≤ w'.heap.size) (hblk : ∀ x, x < w.heap.size → x ≠ g → ¬ a.F x → x ≠ g2 → w'.heap[x]? = w.heap[x]?)
    (hc : ∀ cur, OB w g 42 cur → OB w' g 42 (splice cur L.length [a'.v])) : Stk base w' g cap (L ++ [a']) := by
  have hg2 : a.F g2 ∨ w.heap.size ≤ g2 := hgg.imp (fun e => .inr e) (fun e => by omega)
  refine h.set hacc (fun x hx => ?_) hT hTg hz (fun x h1 h2 h3 => hblk x h1 h2 h3 fun e => ?_) hc
  · rcases hx with hx | hx
    · rcases hS x hx with h1 | h1 | rfl
      · exact .inl (.inl h1)
      · exact .inr (.inl h1)
      · exact hg2.imp id .inr
    · rw [hv] at hx
      cases hx
      exact hg2.imp id .inr
  · subst e
    rcases hg2 with h4 | h4
    · exact h3 h4
    · omega
theorem own_mk {w : World} {base : Nat} {a : Lv} (h : LAcc base w a) : OwnL w (GSExpr.mk s_ a.l).tr [.string ⟨#[]⟩, a.v] a.S := by
  show OwnL w (.leaf (.string ⟨#[]⟩) :: ([.row 2 (GSExpr.trs a.l)] ++ [])) _ _
  exact OwnL.cons_leaf (Nat.zero_le _) (OwnL.one h.own)
theorem own_atom {w : World} {v : ByteArray} (h : v.size ≤ maxLen) : OwnL w (GSExpr.mk v []).tr [.string v, .slice none 0 0] (fun _ => False) := by
  show OwnL w (.leaf (.string v) :: ([.row 2 (GSExpr.trs [])] ++ [])) _ _
  exact OwnL.cons_leaf h (OwnL.one (Acc.nil 44 0 2 w).own)
theorem trs_snoc (l : List GSExpr) (x : GSExpr) : GSExpr.trs (l ++ [x]) = GSExpr.trs l ++ [x.tr] := by rw [GSExpr.trs_map, GSExpr.trs_map, List.map_append]; rfl
theorem snoc2 {α : Type} {L : List α} (h : 2 ≤ L.length) : ∃ K b a, L = K ++ [b] ++ [a] := by
  match hr : L.reverse with
  | [] => have := congrArg List.length hr; simp at this; subst this; simp at h
  | [x] => have := congrArg List.length hr; simp at this; omega
  | a :: b :: K => exact ⟨K.reverse, b, a, by have := congrArg List.reverse hr; simpa using this⟩
theorem snoc1 {α : Type} {L : List α} (h : 1 ≤ L.length) : ∃ K a, L = K ++ [a] := by
  match hr : L.reverse with
  | [] => have := congrArg List.length hr; simp at this; subst this; simp at h
  | a :: K => exact ⟨K.reverse, a, by have := congrArg List.reverse hr; simpa using this⟩
end Go.Proofs.YtmpepccpnnldoaaGreat

namespace Go.Proofs.YtmpepccpnnldoaaGreat
open Go.RowKit Go.Proofs

theorem results_cell_row_tmp {P : Program} {fn : Func} {p q : Tmp} {ty : TypeId} (h : fn.results = #[.cell p ty, .tmp q]) (tmps : Array Value) (w : World) (g : Nat) (t : TypeId) (cs : Array Value) (fr : Nat × Nat) (d : TypeDesc) (v : Value)
    (hp : tmps.getD p undef = .pointer (some ⟨g, 0, none⟩)) (hv : tmps.getD q undef = v) (hg : w.heap[g]? = some (.cells cs t fr))
    (hu : P.underlying ty = some d) (hd : (match d with | .struct _ | .array _ _ => true | _ => false) = true) (hi : (P.info? ty).map (·.size) = some cs.size) :
    (results fn tmps).run P w = .ok (.tuple #[.agg cs, v]) w := by
  have hp' : tmps[p]?.getD undef = .pointer (some ⟨g, 0, none⟩) := by simpa using hp
  have hv' : tmps[q]?.getD undef = v := by simpa using hv
  simp [results, h, hp', hv', asAddr, run_loadVar_row w g t ty cs fr d hg hu hd hi]
end Go.Proofs.YtmpepccpnnldoaaGreat

namespace Go.Proofs.YtmpepccpnnldoaaGreat
set_option linter.unusedSimpArgs false
set_option linter.unusedVariables false
open Go.RowKit Go.Proofs

theorem splice_getP {arr : Array Value} {o : Nat} {cs : List Value} (h : o + cs.length ≤ arr.size) (q : Nat) : (splice arr o cs)[q]? = if q < o then arr[q]? else if q < o + cs.length then cs[q - o]? else arr[q]? := by
  unfold splice
  rw [List.getElem?_toArray, List.append_assoc]
  by_cases h1 : q < o
  · rw [if_pos h1, List.getElem?_append_left (by simp; omega), List.getElem?_take, if_pos h1]; simp
  · rw [if_neg h1, List.getElem?_append_right (by simp; omega)]
    have hl : (List.take o arr.toList).length = o := by simp; omega
    rw [hl]
    by_cases h2 : q < o + cs.length
    · rw [if_pos h2, List.getElem?_append_left (by omega)]
    · rw [if_neg h2, List.getElem?_append_right (by omega), List.getElem?_drop, Array.getElem?_toList]
      congr 1; omega
section
variable {P : Program} {md : Region.Mode} {ops : Array Oper} {Q : Exit → Act → World → Prop} {S : World → Prop}
theorem set_comm {α : Type} {a : Array α} {i j : Nat} {x y : α} (h : i ≠ j) : (a.setIfInBounds i x).setIfInBounds j y = (a.setIfInBounds j y).setIfInBounds i x := by
  apply Array.ext_getElem?
  intro k
  simp only [Array.getElem?_setIfInBounds, Array.size_setIfInBounds]
  by_cases h1 : i = k <;> by_cases h2 : j = k <;> simp [h1, h2] <;> first | rfl | omega
theorem put_comm {a : Act} {x y : Nat} {u v : Value} (h : x ≠ y) : (a.put (some x) u).put (some y) v = (a.put (some y) v).put (some x) u := by
  unfold Act.put
  dsimp only
  rw [set_comm h]
theorem wpAnyH_two {i j : Nat} {fuel : Nat} {listed : Array Bool} {a : Act} {w : World} (hr : Region.ready md ops listed = [i, j]) (h1 : wpOp P ops Q i (fun a' w' => S w' ∧ wpAnyH P md ops Q S fuel (listed.setIfInBounds i true) a' w') a w)
    (h2 : wpOp P ops Q j (fun a' w' => S w' ∧ wpAnyH P md ops Q S fuel (listed.setIfInBounds j true) a' w') a w) : wpAnyH P md ops Q S (fuel + 1) listed a w := by
  refine wpAnyH_all hr (by simp) fun k hk => ?_
  simp only [List.mem_cons, List.not_mem_nil, or_false] at hk
  rcases hk with rfl | rfl
  · exact h1
  · exact h2
theorem wpAnyH_one {i : Nat} {fuel : Nat} {listed : Array Bool} {a : Act} {w : World} (hr : Region.ready md ops listed = [i]) (h1 : wpOp P ops Q i (fun a' w' => S w' ∧ wpAnyH P md ops Q S fuel (listed.setIfInBounds i true) a' w') a w) : wpAnyH P md ops Q S (fuel + 1) listed a w := by
  refine wpAnyH_all hr (by simp) fun k hk => ?_
  obtain rfl : k = i := by simpa using hk
  exact h1
/-- A load, and what makes a block of its own, in either order. -/
theorem wpAnyH_load_make {i j x y : Nat} {oi oj : Oper} {fuel : Nat} {listed : Array Bool} {a : Act} {w w' : World} {vi vj : Value} (hr : Region.ready md ops listed = [i, j]) (hri : Region.ready md ops (listed.setIfInBounds i true) = [j])
    (hrj : Region.ready md ops (listed.setIfInBounds j true) = [i]) (hoi : ops[i]? = some oi) (hoj : ops[j]? = some oj) (gi : oi.guard = none) (gj : oj.guard = none) (di : oi.dst = some x) (dj : oj.dst = some y) (hxy : x ≠ y) (hij : i ≠ j)
    (r1 : (execOp a.eval oi).run P w = .ok (.value vi) w) (r2 : (execOp (a.put (some x) vi).eval oj).run P w = .ok (.value vj) w') (r3 : (execOp a.eval oj).run P w = .ok (.value vj) w') (r4 : (execOp (a.put (some y) vj).eval oi).run P w' = .ok (.value vi) w')
    (hS : S w) (hS' : S w') (h : wpAnyH P md ops Q S fuel ((listed.setIfInBounds i true).setIfInBounds j true) ((a.put (some x) vi).put (some y) vj) w') : wpAnyH P md ops Q S (fuel + 2) listed a w := by
  refine wpAnyH_two hr ?_ ?_
  · refine wpOp_run hoi gi r1 ⟨hS, ?_⟩
    rw [di]
    refine wpAnyH_run hri hoj gj r2 hS' ?_
    rw [dj]
    exact h
  · refine wpOp_run hoj gj r3 ⟨hS', ?_⟩
    rw [dj]
    refine wpAnyH_run hrj hoi gi r4 hS' ?_
    rw [di, ← put_comm hxy, set_comm (Ne.symm hij)]
    exact h
/-- A load, what hangs on it alone, and what makes a block of its own. -/
theorem wpAnyH_load_len_make {i k j x z y : Nat} {oi ok oj : Oper} {fuel : Nat} {listed : Array Bool} {a : Act} {w w' : World} {vi vk vj : Value} (hr : Region.ready md ops listed = [i, j]) (h1 : Region.ready md ops (listed.setIfInBounds i true) = [k, j])
    (h2 : Region.ready md ops (listed.setIfInBounds j true) = [i]) (h3 : Region.ready md ops ((listed.setIfInBounds i true).setIfInBounds k true) = [j]) (h4 : Region.ready md ops ((listed.setIfInBounds i true).setIfInBounds j true) = [k])
    (hoi : ops[i]? = some oi) (hok : ops[k]? = some ok) (hoj : ops[j]? = some oj) (gi : oi.guard = none) (gk : ok.guard = none) (gj : oj.guard = none) (di : oi.dst = some x) (dk : ok.dst = some z) (dj : oj.dst = some y)
    (hxy : x ≠ y) (hzy : z ≠ y) (hij : i ≠ j) (hkj : k ≠ j)
    (ri : (execOp a.eval oi).run P w = .ok (.value vi) w) (ri' : (execOp (a.put (some y) vj).eval oi).run P w' = .ok (.value vi) w')
    (rk : (execOp (a.put (some x) vi).eval ok).run P w = .ok (.value vk) w) (rk' : (execOp ((a.put (some x) vi).put (some y) vj).eval ok).run P w' = .ok (.value vk) w')
    (rj : (execOp a.eval oj).run P w = .ok (.value vj) w') (rj' : (execOp (a.put (some x) vi).eval oj).run P w = .ok (.value vj) w') (rj2 : (execOp ((a.put (some x) vi).put (some z) vk).eval oj).run P w = .ok (.value vj) w')
    (hS : S w) (hS' : S w') (h : wpAnyH P md ops Q S fuel (((listed.setIfInBounds i true).setIfInBounds k true).setIfInBounds j true) (((a.put (some x) vi).put (some z) vk).put (some y) vj) w') : wpAnyH P md ops Q S (fuel + 3) listed a w := by
  have e1 : (((listed.setIfInBounds i true).setIfInBounds j true).setIfInBounds k true) = (((listed.setIfInBounds i true).setIfInBounds k true).setIfInBounds j true) := set_comm (Ne.symm hkj)
  have e2 : (((a.put (some x) vi).put (some y) vj).put (some z) vk) = (((a.put (some x) vi).put (some z) vk).put (some y) vj) := put_comm (Ne.symm hzy)
  refine wpAnyH_two hr ?_ ?_
  · refine wpOp_run hoi gi ri ⟨hS, ?_⟩
    rw [di]
    refine wpAnyH_two h1 ?_ ?_
    · refine wpOp_run hok gk rk ⟨hS, ?_⟩
      rw [dk]
      refine wpAnyH_run h3 hoj gj rj2 hS' ?_
      rw [dj]
      exact h
    · refine wpOp_run hoj gj rj' ⟨hS', ?_⟩
      rw [dj]
      refine wpAnyH_run h4 hok gk rk' hS' ?_
      rw [dk, e1, e2]
      exact h
  · refine wpOp_run hoj gj rj ⟨hS', ?_⟩
    rw [dj]
    refine wpAnyH_run h2 hoi gi ri' hS' ?_
    rw [di, ← put_comm hxy, set_comm (Ne.symm hij)]
    refine wpAnyH_run h4 hok gk rk' hS' ?_
    rw [dk, e1, e2]
    exact h
theorem run_op_load_cell {o : Oper} {ev : Operand → Value} {w : World} (ty : TypeId) (x : Operand) (ho : o.op = .load ty x) (b off : Nat) (hx : ev x = .pointer (some ⟨b, off, none⟩)) (v : Value) (d : TypeDesc) (hu : P.underlying ty = some d)
    (hd : (match d with | .struct _ | .array _ _ => true | _ => false) = false) (hc : w.cell? ⟨b, off, none⟩ = some v) : (execOp ev o).run P w = .ok (.value v) w := by
  unfold execOp
  simp only [ho, hx, Instr.loadAt, Instr.sureAddr, Sem.run_bind, Sem.run_pure, Result.andThen_ok, run_loadVar_cell hu hd hc]
/-- append of one element onto a slice of our own. -/
theorem wpOp_append_acc {i : Nat} {o : Oper} {a : Act} {w : World} {K : Act → World → Prop} (ho0 : ops[i]? = some o) (hgd : o.guard = none) (s x : Operand) (t : TypeId)
    (ho : o.op = .call { callee := .builtin .append, args := #[s, x], argTypes := #[t, t] }) (E : TypeId) (sz bytes : Nat) (ht : P.underlying t = some (.slice E))
    (hi : (P.info? E).map (fun i => (i.zero.map (fun z => z.cells.size), i.size, i.bytes)) = some (some sz, sz, bytes)) (hsz : 0 < sz) (hby : bytes ≤ 100)
    (base : Nat) (es : List (List Tr)) (n : Nat) (hn : es.length = n) (v : Value) (U : Nat → Prop) (hs : a.eval s = v) (hacc : Acc E base sz w es v U)
    (e : List Tr) (cs : List Value) (T : Nat → Prop) (he : e.length = sz) (ho2 : OwnL w e cs T) (hST : ∀ x, U x → T x → False) (hT : ∀ x, T x → base ≤ x ∧ x < w.heap.size) (hTv : ∀ x, v.ownBlock = some x → ¬ T x)
    (B c : Nat) (E2 : TypeId) (hx : a.eval x = .slice (some ⟨B, 0, none⟩) 1 c) (hB : OB w B E2 ⟨cs⟩) (hlen : n ≤ 1099511627776) (hbase : base ≤ w.heap.size)
    (h : ∀ g cap w', Acc E base sz w' (es ++ [e]) (.slice (some ⟨g, 0, none⟩) (n + 1) cap) (fun x => U x ∨ T x ∨ x = g) → w.grownBy w' v.ownBlock → (v.ownBlock = some g ∨ g = w.heap.size) → g < w'.heap.size →
      K (a.put o.dst (.slice (some ⟨g, 0, none⟩) (n + 1) cap)) w') : wpOp P ops Q i K a w := by
  subst hn
  obtain ⟨xs, hxs⟩ := hacc.owns
  have hw : Region.wanted o (yielded ops a.tmps) = true := by simp [Region.wanted, hgd]
  cases hq : P.info? E with
  | none => simp [hq] at hi
  | some inf =>
    simp only [hq, Option.map_some, Option.some.injEq, Prod.mk.injEq] at hi
    obtain ⟨h1, h2, h3⟩ := hi
    cases hz : inf.zero with
    | none => simp [hz] at h1
    | some z =>
      simp only [hz, Option.map_some, Option.some.injEq] at h1
      have hcl : cs.length = sz := by rw [ho2.1, he]
      have hbb : (es.length + 1) * bytes ≤ 1099511627777 * 100 := Nat.mul_le_mul (by omega) hby
      unfold wpOp
      simp only [ho0]
      rw [if_pos hw]
      refine .inl ?_; refine wp_append_lies w s x t ho base E inf z sz bytes ht hq hz h2 h3 h1 hsz v es.length xs hs hxs ⟨B, 0, none⟩ 1 c cs hx (by omega) ?_ (ho2.rep.one) (by omega) (by unfold maxLen; omega) (by omega) hbase _ rfl ?_
      · intro j u hu
        exact World.news_of_block hB j u (by simpa using hu)
      · intro g cap w' k1 k2 k3 k4
        exact h g cap w' (hacc.snoc hxs he ho2 hST hT hTv k1 k2 k3 hbase) k2 k3 k4
/-- A store of one cell. -/
theorem wpOp_store_cell {i : Nat} {o : Oper} {a : Act} {w : World} {K : Act → World → Prop} (ho0 : ops[i]? = some o) (hgd : o.guard = none) (ty : TypeId) (x y : Operand) (ho : o.op = .store ty x y)
    (B off : Nat) (hx : a.eval x = .pointer (some ⟨B, off, none⟩)) (v : Value) (hy : a.eval y = v) (hv : v.cells = #[v]) (T : TypeId) (arr : Array Value) (hob : OB w B T arr) (hi : (P.info? ty).map (·.size) = some 1)
    (hfit : off < arr.size) (h1 : v.oneCell' = true)
    (h : ∀ w', OB w' B T (splice arr off [v]) → w.grownBy w' (some B) → w'.heap.size = w.heap.size → K (a.put o.dst undef) w') : wpOp P ops Q i K a w := by
  have hw : Region.wanted o (yielded ops a.tmps) = true := by simp [Region.wanted, hgd]
  have hst := run_storeCells_at P B off T [v] 0 arr w hob (by simp; omega) (by simpa using h1)
  cases hq : P.info? ty with
  | none => simp [hq] at hi
  | some inf =>
    have hs : inf.size = 1 := by simpa [hq] using hi
    have hrun : (storeVar ty ⟨B, off, none⟩ v).run P w = .ok () (w.setRow B (splice arr off [v])) := by
      simp [storeVar, Go.sizeOf, typeInfo, hq, hv, hs, splice]
      simpa using hst
    unfold wpOp
    simp only [ho0]
    rw [if_pos hw]
    refine .inl ?_
    unfold Oper.wp execOp
    simp only [ho, hx, hy, Instr.storeAt, Instr.sureAddr, Sem.run_bind, Sem.run_pure, Result.andThen_ok, hrun]
    exact h _ (setRow_heap w B arr _ T _ hob) ⟨rfl, rfl, rfl, by simp, fun k _ hk => setRow_other w B k _ (fun e => hk (by rw [e]))⟩ (by simp)
/-- A store of a struct. -/
theorem wpOp_store_rep {i : Nat} {o : Oper} {a : Act} {w : World} {K : Act → World → Prop} (ho0 : ops[i]? = some o) (hgd : o.guard = none) (ty : TypeId) (x y : Operand) (ho : o.op = .store ty x y)
    (B off : Nat) (hx : a.eval x = .pointer (some ⟨B, off, none⟩)) (cs : List Value) (hy : a.eval y = .agg ⟨cs⟩) (T : TypeId) (arr : Array Value) (hob : OB w B T arr) (hi : (P.info? ty).map (·.size) = some cs.length)
    (hfit : off + cs.length ≤ arr.size) (h1 : ∀ v ∈ cs, v.oneCell' = true)
    (h : ∀ w', OB w' B T (splice arr off cs) → w.grownBy w' (some B) → w'.heap.size = w.heap.size → K (a.put o.dst undef) w') : wpOp P ops Q i K a w := by
  have hw : Region.wanted o (yielded ops a.tmps) = true := by simp [Region.wanted, hgd]
  have hst := run_storeCells_at P B off T cs 0 arr w hob (by simpa using hfit) h1
  cases hq : P.info? ty with
  | none => simp [hq] at hi
  | some inf =>
    have hs : inf.size = cs.length := by simpa [hq] using hi
    have hrun : (storeVar ty ⟨B, off, none⟩ (.agg ⟨cs⟩)).run P w = .ok () (w.setRow B (splice arr off cs)) := by
      simp [storeVar, Go.sizeOf, typeInfo, hq, Value.cells, hs, hst, splice]
    unfold wpOp
    simp only [ho0]
    rw [if_pos hw]
    refine .inl ?_
    unfold Oper.wp execOp
    simp only [ho, hx, hy, Instr.storeAt, Instr.sureAddr, Sem.run_bind, Sem.run_pure, Result.andThen_ok, hrun]
    exact h _ (setRow_heap w B arr _ T _ hob) ⟨rfl, rfl, rfl, by simp, fun k _ hk => setRow_other w B k _ (fun e => hk (by rw [e]))⟩ (by simp)
end
end Go.Proofs.YtmpepccpnnldoaaGreat

namespace Go.Proofs.YtmpepccpnnldoaaGreat
set_option linter.unusedSimpArgs false
set_option linter.unusedVariables false
open Go.RowKit Go.Proofs

theorem stk_init {w w' : World} {g : Nat} {base : Nat} (h : OB w' g 42 #[.slice none 0 0]) (hg : base ≤ g) : Stk base w' g 1 [Lv.nil] :=
  ⟨⟨rfl, .inr ⟨g, 1, _, rfl, hg, h, by simp, by unfold maxLen; omega, rfl, rfl⟩⟩, fun a ha => by
    obtain rfl := List.mem_singleton.1 ha
    exact ⟨Acc.nil _ _ _ _, Lv.nil_F _⟩, by simp⟩
theorem stk_ge {base : Nat} {w : World} {g cap : Nat} {L : List Lv} (h : Stk base w g cap L) : base ≤ g := by obtain ⟨cur, -, -, -, -, h5, -⟩ := h.ob; exact h5
theorem zero_ones : ∀ v ∈ ([.string ⟨#[]⟩, .slice none 0 0] : List Value), v.oneCell' = true := by intro v hv; simp only [List.mem_cons, List.not_mem_nil, or_false] at hv; rcases hv with rfl | rfl <;> rfl
theorem info42 : ∃ i z, Tryz.prog.info? 42 = some i ∧ i.zero = some z ∧ i.size = 1 ∧ i.bytes = 24 ∧ z.cells.size = 1 := by
  have h : (Tryz.prog.info? 42).map (fun i => (i.zero.map (fun z => z.cells.size), i.size, i.bytes)) = some (some 1, 1, 24) := by kernel_rfl
  cases hq : Tryz.prog.info? 42 with
  | none => simp [hq] at h
  | some i =>
    simp only [hq, Option.map_some, Option.some.injEq, Prod.mk.injEq] at h
    obtain ⟨h1, h2, h3⟩ := h
    cases hz : i.zero with
    | none => simp [hz] at h1
    | some z =>
      simp only [hz, Option.map_some, Option.some.injEq] at h1
      exact ⟨i, z, rfl, hz, h2, h3, h1⟩
theorem wpList_push {ops : Array Oper} {rest : List Oper} {o : Oper} {a : Act} {w : World} {Q : Exit → Act → World → Prop} (hgd : o.guard = none) (x y : Operand) (ho : o.op = .call { callee := .builtin .append, args := #[x, y], argTypes := #[70, 70] })
    (base g cap : Nat) (L : List Lv) (hs : a.eval x = .slice (some ⟨g, 0, none⟩) L.length cap) (h : Stk base w g cap L) (B : Nat) (hx : a.eval y = .slice (some ⟨B, 0, none⟩) 1 1) (hB : OB w B 42 #[.slice none 0 0]) (hL : L.length ≤ 1000)
    (hk : ∀ g' cap' w', Stk base w' g' cap' (L ++ [Lv.nil]) → w.grownBy w' (some g) → wpList Tryz.prog ops Q rest (a.put o.dst (.slice (some ⟨g', 0, none⟩) (L.length + 1) cap')) w') : wpList Tryz.prog ops Q (o :: rest) a w := by
  obtain ⟨i, z, h1, h2, h3, h4, h5⟩ := info42
  have hbase : base ≤ w.heap.size := by obtain ⟨cur, k1, -, -, -, k5, -⟩ := h.ob; have := k1.lt; omega
  refine wpList_append_lies w hgd x y 70 ho base 42 i z 1 24 Tryz.underlying70 h1 h2 h3 h4 h5 (by decide) _ L.length _ hs h.own ⟨B, 0, none⟩ 1 1 [.slice none 0 0] hx rfl ?_ (by intro u hu; obtain rfl := List.mem_singleton.1 hu; rfl) (by decide) (by unfold maxLen; omega) (by omega) hbase _ rfl ?_
  · intro j u hu
    exact World.news_of_block hB j u (by simpa using hu)
  · intro g' cap' w' k1 k2 k3 k4
    refine hk g' cap' w' (h.push k1 k2 ?_) k2
    rcases k3 with k3 | k3
    · exact .inl k3
    · exact .inr (by omega)
theorem lens_snoc {L : List Lv} {b : Lv} {k : Nat} (h : ∀ a ∈ L, a.l.length ≤ k) (hb : b.l.length ≤ k + 1) : ∀ a ∈ L ++ [b], a.l.length ≤ k + 1 := by
  intro a ha
  rcases List.mem_append.1 ha with ha | ha
  · have := h a ha; omega
  · obtain rfl := List.mem_singleton.1 ha; exact hb
theorem two_ones {v : Value} {x : Option Addr} {n c : Nat} {t : ByteArray} (h : v = .slice x n c) : ∀ u ∈ ([.string t, v] : List Value), u.oneCell' = true := by
  intro u hu
  simp only [List.mem_cons, List.not_mem_nil, or_false] at hu
  rcases hu with rfl | rfl
  · rfl
  · rw [h]; rfl
/-- An element has been put behind the last list: the two stores in either order. -/
theorem stk_atom {base : Nat} {w w5 w6 w7 w8 : World} {g cap g2 c2 : Nat} {K : List Lv} {b : Lv} {v : ByteArray} {arr cur : Array Value} (hv : v.size ≤ maxLen) (h5 : Stk base w5 g cap (K ++ [b]))
    (hacc6 : Acc 44 base 2 w6 (GSExpr.trs b.l ++ [(GSExpr.mk s_ []).tr]) (.slice (some ⟨g2, 0, none⟩) (b.l.length + 1) c2) (fun x => b.S x ∨ False ∨ x = g2)) (hg6 : w5.grownBy w6 b.v.ownBlock) (hgg6 : b.v.ownBlock = some g2 ∨ g2 = w5.heap.size)
    (hX : Ext w w5) (hbw : base = w.heap.size + 1) (hO : OB w5 w.heap.size 44 #[.string ⟨#[]⟩, .slice none 0 0]) (harr : OB w6 g2 44 arr) (hcur : OB w6 g 42 cur)
    (hord : (OB w7 g2 44 (splice arr (b.l.length * 2) [.string v, .slice none 0 0]) ∧ w6.grownBy w7 (some g2) ∧ (∀ c, OB w7 g 42 c → OB w8 g 42 (splice c K.length [.slice (some ⟨g2, 0, none⟩) (b.l.length + 1) c2])) ∧ w7.grownBy w8 (some g)) ∨
      (OB w7 g 42 (splice cur K.length [.slice (some ⟨g2, 0, none⟩) (b.l.length + 1) c2]) ∧ w6.grownBy w7 (some g) ∧ (∀ c, OB w7 g2 44 c → OB w8 g2 44 (splice c (b.l.length * 2) [.string v, .slice none 0 0])) ∧ w7.grownBy w8 (some g2))) :
    ∃ b' : Lv, b'.v = .slice (some ⟨g2, 0, none⟩) (b.l.length + 1) c2 ∧ b'.l = b.l ++ [.mk v []] ∧ Stk base w8 g cap (K ++ [b']) ∧ Ext w w8 ∧ OB w8 w.heap.size 44 #[.string ⟨#[]⟩, .slice none 0 0] := by
  subst hbw
  obtain ⟨hbA, hbg⟩ := h5.acc b (by simp)
  have hgl := h5.lt
  have hgw := stk_ge h5
  have hne : g2 ≠ g := by
    rcases hgg6 with e | e
    · exact fun h => hbg (.inr (h ▸ e))
    · omega
  have hg2w : w.heap.size + 1 ≤ g2 := (Acc.blk hacc6 (x := g2) rfl).1
  have keepg : ∀ {u u' : World} {es : List (List Tr)} {S' : Nat → Prop}, Acc 44 (w.heap.size + 1) 2 u es (.slice (some ⟨g2, 0, none⟩) es.length c2) S' → (∀ x, S' x → x ≠ g) → u.grownBy u' (some g) → Acc 44 (w.heap.size + 1) 2 u' es (.slice (some ⟨g2, 0, none⟩) es.length c2) S' := fun h hS hg => Acc.keep h hg.size fun x hx hl => hg.block x hl fun e => by
    have e := Option.some.inj e
    subst e
    rcases hx with h1 | h1
    · exact hS _ h1 rfl
    · cases h1; exact hne rfl
  have hl6 : (GSExpr.trs b.l ++ [(GSExpr.mk s_ []).tr]).length = b.l.length + 1 := by simp [GSExpr.trs_len]
  have hSg : ∀ x, (b.S x ∨ False ∨ x = g2) → x ≠ g := by
    rintro x (h | h | h) e
    · exact hbg (.inl (e ▸ h))
    · exact h
    · exact hne (h.symm.trans e)
  have hb6 : w.heap.size + 1 ≤ w6.heap.size := by have := hg6.size; omega
  have hob6 : ∀ x, x < w5.heap.size → ¬ b.F x → w6.heap[x]? = w5.heap[x]? := fun x h1 h2 => hg6.block x h1 fun e => h2 (.inr e.symm)
  have fin : ∀ S', Acc 44 (w.heap.size + 1) 2 w8 (GSExpr.trs b.l ++ [(GSExpr.mk v []).tr]) (.slice (some ⟨g2, 0, none⟩) ((GSExpr.trs b.l).length + 1) c2) S' → (∀ x, S' x → b.S x ∨ False ∨ x = g2) → w6.heap.size ≤ w8.heap.size → (∀ x, x < w6.heap.size → x ≠ g → x ≠ g2 → w8.heap[x]? = w6.heap[x]?) → OB w8 g 42 (splice cur K.length [.slice (some ⟨g2, 0, none⟩) (b.l.length + 1) c2]) →
      ∃ b' : Lv, b'.v = .slice (some ⟨g2, 0, none⟩) (b.l.length + 1) c2 ∧ b'.l = b.l ++ [.mk v []] ∧ Stk (w.heap.size + 1) w8 g cap (K ++ [b']) ∧ Ext w w8 ∧ OB w8 w.heap.size 44 #[.string ⟨#[]⟩, .slice none 0 0] := fun S' h8 hS hz hblk hcell => by
    rw [GSExpr.trs_len, ← trs_snoc] at h8
    have hk : ∀ x, x < w5.heap.size → x ≠ g → ¬ b.F x → x ≠ g2 → w8.heap[x]? = w5.heap[x]? := fun x h1 h2 h3 h4 => (hblk x (Nat.lt_of_lt_of_le h1 hg6.size) h2 h4).trans (hob6 x h1 h3)
    have hlow : ∀ x, x < w.heap.size + 1 → w8.heap[x]? = w5.heap[x]? := fun x hx => hk x (by omega) (by omega) (fun h => by have := (LAcc.lt hbA h).1; omega) (by omega)
    refine ⟨⟨.slice (some ⟨g2, 0, none⟩) (b.l.length + 1) c2, b.l ++ [.mk v []], S'⟩, rfl, rfl, h5.set2 (T := fun _ => False) (g2 := g2) h8 hS rfl hgg6 (fun _ _ _ _ h => h) (fun h => h) (Nat.le_trans hg6.size hz) hk (fun cur' h' => ?_), ?_, (hlow _ (by omega)).trans hO⟩
    · have e : OB w6 g 42 cur' := (hob6 g hgl hbg).trans h'
      obtain rfl := ob_inj e hcur
      exact hcell
    · have e5 : w5.heap.size ≤ w8.heap.size := Nat.le_trans hg6.size hz
      rcases hord with ⟨-, q1, -, q2⟩ | ⟨-, q1, -, q2⟩
      · exact grown_ext (grown_ext (grown_ext_own hX hg6 (fun x h => by have := (LAcc.lt hbA (.inr h)).1; omega)) q1 (by omega)) q2 (by omega)
      · exact grown_ext (grown_ext (grown_ext_own hX hg6 (fun x h => by have := (LAcc.lt hbA (.inr h)).1; omega)) q1 (by omega)) q2 (by omega)
  have hacc6' : Acc 44 (w.heap.size + 1) 2 w6 (GSExpr.trs b.l ++ [(GSExpr.mk s_ []).tr]) (.slice (some ⟨g2, 0, none⟩) ((GSExpr.trs b.l).length + 1) c2) (fun x => b.S x ∨ False ∨ x = g2) := by rw [GSExpr.trs_len]; exact hacc6
  have hl6' : (GSExpr.trs b.l).length + 1 = (GSExpr.trs b.l ++ [(GSExpr.mk s_ []).tr]).length := by simp
  have hS8 : ∀ x, ((b.S x ∨ False ∨ x = g2) ∨ False ∨ x = g2) → b.S x ∨ False ∨ x = g2 := fun x h => by rcases h with h | h | h; exact h; exact h.elim; exact .inr (.inr h)
  rcases hord with ⟨o7, q7, o8, q8⟩ | ⟨o7, q7, o8, q8⟩
  · have h7 := hacc6'.setLast (e := (GSExpr.mk v []).tr) (cs := [.string v, .slice none 0 0]) (T := fun _ => False) (by decide) (GSExpr.tr_len _) (own_atom hv) (fun _ _ h => h) (fun _ h => h.elim) (fun h => h) harr (by rw [GSExpr.trs_len]; exact o7) q7 hb6
    have hl7 : (GSExpr.trs b.l).length + 1 = (GSExpr.trs b.l ++ [(GSExpr.mk v []).tr]).length := by simp
    rw [hl7] at h7
    have h8 := keepg h7 (fun x h => hSg x (hS8 x h)) q8
    rw [← hl7] at h8
    exact fin _ h8 hS8 (Nat.le_trans q7.size q8.size) (fun x h1 h2 h3 => (q8.block x (Nat.lt_of_lt_of_le h1 q7.size) (fun e => h2 (Option.some.inj e))).trans (q7.block x h1 (fun e => h3 (Option.some.inj e)))) (o8 cur ((q7.block g (Nat.lt_of_lt_of_le hgl hg6.size) (fun e => hne (Option.some.inj e).symm)).trans hcur))
  · rw [hl6'] at hacc6'
    have h7 := keepg hacc6' hSg q7
    rw [← hl6'] at h7
    have harr7 : OB w7 g2 44 arr := (q7.block g2 harr.lt (fun e => hne (Option.some.inj e))).trans harr
    have h8 := h7.setLast (e := (GSExpr.mk v []).tr) (cs := [.string v, .slice none 0 0]) (T := fun _ => False) (by decide) (GSExpr.tr_len _) (own_atom hv) (fun _ _ h => h) (fun _ h => h.elim) (fun h => h) harr7 (by rw [GSExpr.trs_len]; exact o8 arr harr7) q8 (by have := q7.size; omega)
    exact fin _ h8 hS8 (Nat.le_trans q7.size q8.size) (fun x h1 h2 h3 => (q8.block x (Nat.lt_of_lt_of_le h1 q7.size) (fun e => h3 (Option.some.inj e))).trans (q7.block x h1 (fun e => h2 (Option.some.inj e)))) (o7.grown q8 hne.symm)
theorem exec_sub {o : Oper} {ev : Operand → Value} {w : World} (x y z : Operand) (ho : o.op = .slice 9 x (some y) (some z) none) (s : ByteArray) (i j : Nat) (hx : ev x = .string s) (hy : ev y = .int .i64 (i : Int)) (hz : ev z = .int .i64 (j : Int)) (h1 : i ≤ j) (h2 : j ≤ s.size) : (execOp ev o).run Tryz.prog w = .ok (.value (.string (subB s i j))) w := by
  have hu : Tryz.prog.underlying 9 = some .string := Tryz.underlying9
  unfold execOp
  simp [ho, hx, Instr.sliceAt, Instr.slice, run_underlying hu, Instr.sliceBounds, Instr.sliceBound, hy, hz, asIntOf, subB]
  rw [if_pos h2, if_pos h1]
theorem exec_pred {o : Oper} {ev : Operand → Value} {w : World} (x : Operand) (ho : o.op = .binOp .sub 3 x (.const (.int .i64 1)) 3) (k : Nat) (hx : ev x = .int .i64 ((k + 1 : Nat) : Int)) (h1 : ev (.const (.int .i64 1)) = .int .i64 1) (hk : k ≤ 1000) : (execOp ev o).run Tryz.prog w = .ok (.value (.int .i64 (k : Int))) w := by
  have e : wrap64 (k : Int) = (k : Int) := wrap_in (by omega) (by omega)
  unfold execOp
  simp only [ho, hx, h1]
  simp [go_sem]
  exact e
theorem byte_of {c k : UInt8} (h : (c.toNat : Int) = (k.toNat : Int)) : c = k := UInt8.toNat_inj.1 (by omega)
theorem byte_beq {c k : UInt8} (h : ((c.toNat : Int) == (k.toNat : Int)) = true) : c = k := byte_of (by simpa using h)
theorem byte_not {c : UInt8} (h1 : ((c.toNat : Int) == 32) = false) (h2 : ((c.toNat : Int) == 10) = false) (h3 : ((c.toNat : Int) == 40) = false) (h4 : ((c.toNat : Int) == 41) = false) : ¬ (c = 32 ∨ c = 10) ∧ ¬ c = 40 ∧ ¬ c = 41 := by
  refine ⟨?_, ?_, ?_⟩
  · rintro (rfl | rfl)
    · exact absurd h1 (by decide)
    · exact absurd h2 (by decide)
  · rintro rfl
    exact absurd h3 (by decide)
  · rintro rfl
    exact absurd h4 (by decide)
theorem prun_next {s : ByteArray} {p q : PState} (hi : p.at_ < s.size) (h : pstep s p = some q) : prun s (s.size - p.at_) p = prun s (s.size - q.at_) q := by rw [prun_step hi, h]
theorem prun_none {s : ByteArray} {p : PState} (hi : p.at_ < s.size) (h : pstep s p = none) : prun s (s.size - p.at_) p = none := by rw [prun_step hi, h]
theorem pstep_blank {s : ByteArray} {p : PState} (h : bAt s p.at_ = 32 ∨ bAt s p.at_ = 10) : pstep s p = some ⟨p.st, p.cnt, p.at_ + 1⟩ := by unfold pstep; rw [if_pos h]
theorem pstep_tok {s : ByteArray} {p : PState} {q : List (List GSExpr) × Nat} (hn : ¬ (bAt s p.at_ = 32 ∨ bAt s p.at_ = 10)) (h : tokP s p = some q) (hk : ¬ (15 < q.1.length ∨ 1800 < p.cnt + 1)) : pstep s p = some ⟨q.1, p.cnt + 1, q.2⟩ := by
  unfold pstep
  rw [if_neg hn, h]
  exact if_neg hk
theorem pstep_fail {s : ByteArray} {p : PState} {q : List (List GSExpr) × Nat} (hn : ¬ (bAt s p.at_ = 32 ∨ bAt s p.at_ = 10)) (h : tokP s p = some q) (hk : 15 < q.1.length ∨ 1800 < p.cnt + 1) : pstep s p = none := by
  unfold pstep
  rw [if_neg hn, h]
  exact if_pos hk
theorem pstep_none {s : ByteArray} {p : PState} (hn : ¬ (bAt s p.at_ = 32 ∨ bAt s p.at_ = 10)) (h : tokP s p = none) : pstep s p = none := by
  unfold pstep
  rw [if_neg hn, h]
theorem tok_open {s : ByteArray} {p : PState} (h : bAt s p.at_ = 40) : tokP s p = some (p.st ++ [[]], p.at_ + 1) := by
  unfold tokP
  dsimp only
  rw [if_pos h]
theorem tok_close0 {s : ByteArray} {p : PState} (h : bAt s p.at_ = 41) (h1 : p.st.length = 1) : tokP s p = none := by
  unfold tokP
  dsimp only
  rw [h, if_neg (by decide), if_pos rfl, if_pos h1]
theorem tok_close {s : ByteArray} {p : PState} (h : bAt s p.at_ = 41) (h1 : ¬ p.st.length = 1) : tokP s p = some (closeL p.st, p.at_ + 1) := by
  unfold tokP
  dsimp only
  rw [h, if_neg (by decide), if_pos rfl, if_neg h1]
theorem tok_atom {s : ByteArray} {p : PState} (h0 : ¬ bAt s p.at_ = 40) (h1 : ¬ bAt s p.at_ = 41) (h : atB (bAt s p.at_) = true) : tokP s p = some (addLast p.st (.mk (subB s p.at_ (endA s p.at_)) []), endA s p.at_) := by
  unfold tokP
  dsimp only
  rw [if_neg h0, if_neg h1, if_pos h]
theorem tok_no {s : ByteArray} {p : PState} (h0 : ¬ bAt s p.at_ = 40) (h1 : ¬ bAt s p.at_ = 41) (h : atB (bAt s p.at_) = false) : tokP s p = none := by
  unfold tokP
  dsimp only
  rw [if_neg h0, if_neg h1, if_neg (by rw [h]; decide)]
theorem addLast_snoc (x : GSExpr) (l : List GSExpr) : ∀ L : List (List GSExpr), addLast (L ++ [l]) x = L ++ [l ++ [x]]
  | [] => rfl
  | [a] => rfl
  | a :: b :: L => by
    have := addLast_snoc x l (b :: L)
    show a :: addLast (b :: L ++ [l]) x = _
    rw [this]
    rfl
theorem closeL_snoc (k l : List GSExpr) : ∀ L : List (List GSExpr), closeL (L ++ [k, l]) = L ++ [k ++ [.mk s_ l]]
  | [] => rfl
  | [a] => rfl
  | [a, b] => rfl
  | a :: b :: c :: L => by
    have := closeL_snoc k l (b :: c :: L)
    show a :: closeL (b :: c :: L ++ [k, l]) = _
    rw [this]
    rfl
theorem fail_r {fu : Nat} {s : ByteArray} {r : GSExpr × Bool} (h : parseM fu s = some r) (hp : prun s s.size pinit = none) : r = (.mk s_ [], false) := by
  unfold parseM at h
  rw [hp] at h
  exact (Option.some.inj h).symm
theorem Own.at0 {w : World} {sz : Nat} {e : List Tr} {a : Option Addr} {len cap : Nat} {S : Nat → Prop} (h : Own w (.row sz [e]) (.slice a len cap) S) :
    ∃ b off cs, a = some ⟨b, off, none⟩ ∧ S b ∧ OwnL w e cs S ∧ ∀ j v, cs[j]? = some v → w.cell? ⟨b, off + j, none⟩ = some v := by
  cases h with
  | row c T h1 h2 h3 h4 h5 h6 =>
    obtain ⟨b, off, E, arr, ha, hob, hSb, hc⟩ := h3 (by simp)
    have hcs : ∀ (j : Nat) (v : Value), ((List.range e.length).map (c 0))[j]? = some v → j < e.length ∧ v = c 0 j := fun j v hv => by
      rw [List.getElem?_map] at hv
      rcases Nat.lt_or_ge j e.length with hj | hj
      · rw [List.getElem?_range hj] at hv
        exact ⟨hj, (Option.some.inj hv).symm⟩
      · rw [List.getElem?_eq_none (by simpa using hj)] at hv
        cases hv
    refine ⟨b, off, (List.range e.length).map (c 0), ha, hSb, ⟨by simp, fun j => T 0 j, fun j d hd => ⟨c 0 j, ?_, h4 0 e rfl j d hd⟩, fun j d hd => h5 0 e rfl j d hd, fun j d hd j' d' hd' hne => h6 0 e rfl j d hd 0 e rfl j' d' hd' fun _ => hne⟩, fun j v hv => ?_⟩
    · rw [List.getElem?_map, List.getElem?_range (List.getElem?_eq_some_iff.1 hd).1]
      rfl
    · obtain ⟨hj, rfl⟩ := hcs j v hv
      have := (hc 0 e rfl j _ (List.getElem?_eq_getElem hj)).1
      rw [hob.cell]
      simpa using this
theorem zeroSx_own (w w' : World) : OwnL w' (GSExpr.mk s_ []).tr [.string ⟨#[]⟩, .slice none 0 0] (Between w w') := (own_atom (v := ⟨#[]⟩) (Nat.zero_le _)).mono fun x h => h.elim
set_option maxRecDepth 100000 in
set_option maxHeartbeats 8000000 in
theorem parse_walk (fu : Nat) (s : ByteArray) (hs : s.size ≤ 1099511627776) (r : GSExpr × Bool) (H : parseM fu s = some r) (w : World) :
    Calls Tryz.prog 21 #[.string s] w fun e w' => ∃ cs, e = .returned (.tuple #[.agg ⟨cs⟩, .bool r.2]) ∧ Ext w w' ∧ OwnL w' r.1.tr cs (Between w w') := by
  have HH := Lib.hid H
  clear H
  go_enter Tryz.func21, Tryz.ntmps21
  go_wp2_with fail
  go_loopw [4, 5, 6] (fun o c i wr => ∃ (p : PState) (g cap : Nat) (L : List Lv), o = .slice (some ⟨g, 0, none⟩) L.length cap ∧ c = .int .i64 p.cnt ∧ i = .int .i64 p.at_ ∧ L.map Lv.l = p.st ∧ 1 ≤ L.length ∧ L.length ≤ 15 ∧ p.cnt ≤ 1800 ∧ p.at_ ≤ s.size ∧ Hid (Stk (w.heap.size + 1) wr g cap L) ∧ Hid (Ext w wr) ∧ Hid (OB wr w.heap.size 44 #[.string ⟨#[]⟩, .slice none 0 0]) ∧ Hid (∀ a ∈ L, a.l.length ≤ p.cnt) ∧ Hid (prun s (s.size - p.at_) p = prun s s.size pinit)) (fun _ _ i _ => s.size - (intOf i).toNat)
  case atStart =>
    refine ⟨pinit, w.heap.size + 1, 1, [Lv.nil], rfl, rfl, rfl, rfl, by simp, by simp, by simp [pinit], by simp [pinit], stk_init (w := w) ?_ (Nat.le_refl _), .alloc (.alloc (.refl _) _) _, ?_, (by intro a ha; obtain rfl := List.mem_singleton.1 ha; exact Nat.le_refl _), rfl⟩
    · have := OB.new (w.alloc (Obj.cells #[.string ⟨#[]⟩, .slice none 0 0] 44)) 42 #[.slice none 0 0]
      simpa using this
    · exact (OB.new w 44 #[.string ⟨#[]⟩, .slice none 0 0]).ext (.alloc (.refl _) _)
  case round =>
    obtain ⟨p, g, cap, L, rfl, rfl, rfl, hL, hL1, hL2, hc, hp, HST, HX, HO, HLN, HR⟩ := hrel
    by_cases hlt : p.at_ < s.size
    · have hbe : s[p.at_] = bAt s p.at_ := by unfold bAt; rw [getElem?_pos s p.at_ hlt]; rfl
      have hsg := stk_ge HST.out
      have hgi : s[p.at_]? = some (bAt s p.at_) := by rw [getElem?_pos s p.at_ hlt, hbe]
      go_wp2_with (first
        | (refine wpList_push rfl (.tmp 34) (.tmp 35) rfl (w.heap.size + 1) g cap L rfl (HST.out.ext (.alloc (.refl _) _)) wr.heap.size rfl (OB.new wr _ _) (by omega) ?_; intro g' cap' w2 hst2 hg2; have HST2 := Lib.hid hst2; have HX2 : Hid (Ext w w2) := grown_ext (HX.out.alloc _) hg2 (by omega); have HO2 : Hid (OB w2 w.heap.size 44 #[.string ⟨#[]⟩, .slice none 0 0]) := (HO.out.ext (.alloc (.refl _) _)).grown hg2 (by omega); clear hst2 hg2)
        | (refine wpList_store_rep rfl 44 (.tmp 2) (.tmp 126) rfl w.heap.size 0 rfl [.string ⟨#[]⟩, .slice none 0 0] rfl 44 _ HO2.out isz44 (by simp) zero_ones ?_; intro w9 hob9 hgb9 hzb9; rw [splice_whole (by rfl)] at hob9; have HOB9 := Lib.hid hob9; have HGB9 := Lib.hid hgb9; clear hob9 hgb9 hzb9)
        | (refine wpList_store_rep rfl 44 (.tmp 2) (.tmp 44) rfl w.heap.size 0 rfl [.string ⟨#[]⟩, .slice none 0 0] rfl 44 _ HO.out isz44 (by simp) zero_ones ?_; intro w9 hob9 hgb9 hzb9; rw [splice_whole (by rfl)] at hob9; have HOB9 := Lib.hid hob9; have HGB9 := Lib.hid hgb9; clear hob9 hgb9 hzb9))
      -- a blank
      iterate 2
        · have hbl : bAt s p.at_ = 32 ∨ bAt s p.at_ = 10 := by
            first
              | (have h : ((bAt s p.at_).toNat : Int) = 32 := by assumption
                 exact .inl (byte_of (k := 32) h))
              | (have h : (((bAt s p.at_).toNat : Int) == 32) = true ∨ (((bAt s p.at_).toNat : Int) == 10) = true := by assumption
                 rcases h with h | h
                 · exact .inl (byte_beq (k := 32) h)
                 · exact .inr (byte_beq (k := 10) h))
          refine ⟨⟨⟨p.st, p.cnt, p.at_ + 1⟩, g, cap, L, rfl, rfl, congrArg (Value.int .i64) (by show (_ : Int) = ((p.at_ + 1 : Nat) : Int); omega), hL, hL1, hL2, hc, hlt, HST.out, HX.out, HO.out, HLN.out, ?_⟩, ?_⟩
          · show _ = _
            rw [← HR.out, prun_next hlt (pstep_blank hbl)]
          · simp [intOf]
            omega
      -- a list begins
      iterate 3
        · have h40 : (((bAt s p.at_).toNat : Int) == 40) = true := by assumption
          have hc40 : bAt s p.at_ = 40 := byte_beq (k := 40) h40
          have hnb : ¬ (bAt s p.at_ = 32 ∨ bAt s p.at_ = 10) := by rw [hc40]; decide
          have htk : tokP s p = some ((L ++ [Lv.nil]).map Lv.l, p.at_ + 1) := by rw [List.map_append, hL]; exact tok_open hc40
          have htn := tokP_next hlt htk
          first
            | (refine bodyPost_ret (results_cell_row_tmp Tryz.results21 _ _ w.heap.size 44 ⟨[.string ⟨#[]⟩, .slice none 0 0]⟩ _ _ _ rfl rfl HOB9.out Tryz.underlying44 rfl isz44) rfl ?_
               obtain rfl := fail_r HH.out (by rw [← HR.out]; exact prun_none hlt (pstep_fail hnb htk (by simp; omega)))
               exact ⟨_, rfl, grown_ext HX2.out HGB9.out (Nat.le_refl _), zeroSx_own _ _⟩)
            | (refine ⟨⟨⟨(L ++ [Lv.nil]).map Lv.l, p.cnt + 1, p.at_ + 1⟩, g', cap', L ++ [Lv.nil], by simp, congrArg (Value.int .i64) (by show (_ : Int) = ((p.cnt + 1 : Nat) : Int); omega), congrArg (Value.int .i64) (by show (_ : Int) = ((p.at_ + 1 : Nat) : Int); omega), rfl, by simp, by simp; omega, by show p.cnt + 1 ≤ 1800; omega, htn.2, HST2.out, HX2.out, HO2.out, ?_, ?_⟩, ?_⟩
               · exact lens_snoc (fun a ha => HLN.out a ha) (Nat.zero_le _)
               · show _ = _
                 rw [← HR.out, prun_next hlt (pstep_tok hnb htk (by simp; omega))]
               · have := htn.1
                 simp [intOf]
                 omega)
      -- no list that could end
      · have h41 : (((bAt s p.at_).toNat : Int) == 41) = true := by assumption
        have hc41 : bAt s p.at_ = 41 := byte_beq (k := 41) h41
        have hnb : ¬ (bAt s p.at_ = 32 ∨ bAt s p.at_ = 10) := by rw [hc41]; decide
        have h1 : L.length = 1 := by
          have h : ((L.length : Int) - 1 == 0) = true := by assumption
          have h : (L.length : Int) - 1 = 0 := by simpa using h
          omega
        have htk : tokP s p = none := tok_close0 hc41 (by rw [← hL]; simpa using h1)
        refine bodyPost_ret (results_cell_row_tmp Tryz.results21 _ _ w.heap.size 44 ⟨[.string ⟨#[]⟩, .slice none 0 0]⟩ _ _ _ rfl rfl HOB9.out Tryz.underlying44 rfl isz44) rfl ?_
        obtain rfl := fail_r HH.out (by rw [← HR.out]; exact prun_none hlt (pstep_none hnb htk))
        exact ⟨_, rfl, grown_ext HX.out HGB9.out (Nat.le_refl _), zeroSx_own _ _⟩
      -- a list ends
      · have h41 : (((bAt s p.at_).toNat : Int) == 41) = true := by assumption
        have hc41 : bAt s p.at_ = 41 := byte_beq (k := 41) h41
        have hnb : ¬ (bAt s p.at_ = 32 ∨ bAt s p.at_ = 10) := by rw [hc41]; decide
        have h1 : ¬ L.length = 1 := by
          have h : ((L.length : Int) - 1 == 0) = false := by assumption
          have h : ¬ (L.length : Int) - 1 = 0 := by simpa using h
          omega
        obtain ⟨K, b, a, hK⟩ := snoc2 (L := L) (by omega)
        have hKl : L.length = K.length + 2 := by rw [hK]; simp
        have htk : tokP s p = some (K.map Lv.l ++ [b.l ++ [.mk s_ a.l]], p.at_ + 1) := by
          have e : p.st = K.map Lv.l ++ [b.l, a.l] := by rw [← hL, hK]; simp
          rw [tok_close hc41 (by rw [← hL]; simpa using h1), e, closeL_snoc]
        obtain ⟨hp1, haA, hda, hag⟩ := Stk.pop (L := K ++ [b]) (a := a) (hK ▸ HST.out)
        have hcb : wr.cell? ⟨g, K.length, none⟩ = some b.v := by have := hp1.cell (j := K.length) (by simp); simpa using this
        have hca : wr.cell? ⟨g, K.length + 1, none⟩ = some a.v := by have := HST.out.cell (j := K.length + 1) (by omega); rw [this]; simp [hK]
        obtain ⟨hbA, hbg⟩ := hp1.acc b (by simp)
        have hHLN := HLN.out
        have e7 : ((L.length : Int) - 1) = ((K.length + 1 : Nat) : Int) := by omega
        simp only [e7]
        refine wp_region_held_drew (S := fun _ => True) (by kernel_rfl) trivial (fun _ => ?_)
        refine wpAnyH_run (i := 0) (v := .pointer (some ⟨wr.heap.size, 0, none⟩)) (w' := wr.drew.alloc (.cells #[.bool false] 4)) (by kernel_rfl) rfl rfl (by simp [execOp, go_sem]) trivial ?_
        simp only [Act.put, List.getElem_toArray, List.getElem_cons_zero, List.getElem_cons_succ, List.setIfInBounds_toArray, List.set_cons_zero, List.set_cons_succ]
        refine wpAnyH_two (i := 1) (j := 2) (by kernel_rfl) ?_ ?_
        · refine wpOp_store_cell rfl rfl 4 (.tmp 45) (.const (.bool true)) rfl wr.heap.size 0 rfl (.bool true) rfl rfl 4 _ (OB.new wr.drew _ _) isz4 (by simp) rfl ?_; intro w3 hob3 hgb3 hz3
          refine ⟨trivial, ?_⟩
          simp only [Act.put, List.getElem_toArray, List.getElem_cons_zero, List.getElem_cons_succ, List.setIfInBounds_toArray, List.set_cons_zero, List.set_cons_succ]
          refine wpAnyH_one (i := 2) (by kernel_rfl) ?_; refine wpOp_store_cell rfl rfl 4 (.tmp 45) (.const (.bool false)) rfl wr.heap.size 0 rfl (.bool false) rfl rfl 4 _ hob3 isz4 (by simp [splice]) rfl ?_; intro w4 hob4 hgb4 hz4
          refine ⟨trivial, ?_⟩
          simp only [Act.put, List.getElem_toArray, List.getElem_cons_zero, List.getElem_cons_succ, List.setIfInBounds_toArray, List.set_cons_zero, List.set_cons_succ]
          refine wpAnyH_run (i := 3) (v := .bool false) (w' := w4) (by kernel_rfl) rfl rfl (run_op_load_cell 4 (.tmp 45) rfl wr.heap.size 0 rfl (.bool false) _ Tryz.underlying4 rfl (by rw [hob4.cell]; rfl)) trivial ?_
          simp only [Act.put, List.getElem_toArray, List.getElem_cons_zero, List.getElem_cons_succ, List.setIfInBounds_toArray, List.set_cons_zero, List.set_cons_succ]
          refine wpAnyH_done (by kernel_rfl) ?_ _
          have HX4 : Hid (Ext wr w4) := grown_ext (grown_ext (.alloc (.drew (.refl wr)) _) hgb3 (Nat.le_refl _)) hgb4 (Nat.le_refl _)
          clear hob3 hgb3 hz3 hob4 hgb4 hz4
          go_wp2_with fail
          have hb0 := LAcc.shapeV hbA
          obtain ⟨ba, bc, hbv, hbl, hbm⟩ := hb0
          obtain ⟨aa, ac, hav, hal, ham⟩ := LAcc.shapeV haA
          have HST4 : Hid (Stk (w.heap.size + 1) w4 g cap (K ++ [b])) := hp1.ext HX4.out
          have HAA4 : Hid (LAcc (w.heap.size + 1) w4 a) := Acc.ext haA HX4.out
          have HBA4 : Hid (LAcc (w.heap.size + 1) w4 b) := Acc.ext hbA HX4.out
          have hcb4 : w4.cell? ⟨g, 0 + K.length * 1, none⟩ = some b.v := by have := HST4.out.cell (j := K.length) (by simp); simpa using this
          have hca4 : w4.cell? ⟨g, 0 + (K.length + 1) * 1, none⟩ = some a.v := by rw [show 0 + (K.length + 1) * 1 = K.length + 1 by omega, World.cell?_of_block (w := wr) (HX4.out.block g HST.out.lt)]; exact hca
          have hz4 := HX4.out.size
          have hgl4 : g < w4.heap.size := HST4.out.lt
          refine wp_region_held_drew (S := fun W => W.cell? ⟨g, 0 + (K.length + 1) * 1, none⟩ = some a.v) (by kernel_rfl) ?_ (fun hHeld => ?_)
          · exact hca4
          refine wpAnyH_take (i := 0) rfl (by kernel_rfl) (by kernel_rfl) (by kernel_rfl) (fun _ _ _ h => h) (.inl ⟨rfl, fun _ _ => rfl⟩) (by assumption) ?_
          simp only [Act.put, List.getElem_toArray, List.getElem_cons_zero, List.setIfInBounds_toArray, List.set_cons_zero, List.set_cons_succ]
          refine wpAnyH_take (i := 1) rfl (by kernel_rfl) (by kernel_rfl) (by kernel_rfl) (fun _ _ _ h => h) (.inl ⟨rfl, fun _ _ => rfl⟩) (by assumption) ?_
          simp only [Act.put, List.getElem_toArray, List.getElem_cons_zero, List.getElem_cons_succ, List.setIfInBounds_toArray, List.set_cons_zero, List.set_cons_succ]
          refine wpAnyH_take (i := 2) (v := .int .i64 (K.length : Int)) rfl (by kernel_rfl) (by kernel_rfl) (by kernel_rfl) (fun _ _ _ h => h) (.inl ⟨rfl, fun _ _ => exec_pred (.tmp 66) rfl K.length rfl rfl (by omega)⟩) (by assumption) ?_
          simp only [Act.put, List.getElem_toArray, List.getElem_cons_zero, List.getElem_cons_succ, List.setIfInBounds_toArray, List.set_cons_zero, List.set_cons_succ]
          refine wpAnyH_take (i := 3) rfl (by kernel_rfl) (by kernel_rfl) (by kernel_rfl) (fun _ _ _ h => h) (.inl ⟨rfl, fun _ _ => rfl⟩) (by assumption) ?_
          simp only [Act.put, List.getElem_toArray, List.getElem_cons_zero, List.getElem_cons_succ, List.setIfInBounds_toArray, List.set_cons_zero, List.set_cons_succ]
          refine wpAnyH_take (i := 4) rfl (by kernel_rfl) (by kernel_rfl) (by kernel_rfl) (fun _ _ _ h => h) (.inl ⟨rfl, fun _ _ => rfl⟩) (by assumption) ?_
          simp only [Act.put, List.getElem_toArray, List.getElem_cons_zero, List.getElem_cons_succ, List.setIfInBounds_toArray, List.set_cons_zero, List.set_cons_succ]
          refine wpAnyH_take (i := 5) (v := .int .i64 (K.length : Int)) rfl (by kernel_rfl) (by kernel_rfl) (by kernel_rfl) (fun _ _ _ h => h) (.inl ⟨rfl, fun _ _ => exec_pred (.tmp 69) rfl K.length rfl rfl (by omega)⟩) (by assumption) ?_
          simp only [Act.put, List.getElem_toArray, List.getElem_cons_zero, List.getElem_cons_succ, List.setIfInBounds_toArray, List.set_cons_zero, List.set_cons_succ]
          refine wpAnyH_index (i := 6) rfl (by kernel_rfl) (by kernel_rfl) (by kernel_rfl) rfl 70 (.tmp 68) (.tmp 70) rfl (g) (0) (L.length) (cap) (K.length) (1) rfl rfl ((by omega)) Tryz.underlying70 (by kernel_rfl) (by assumption) (fun _ _ _ _ h => h) ?_
          simp only [Act.put, List.getElem_toArray, List.getElem_cons_zero, List.getElem_cons_succ, List.setIfInBounds_toArray, List.set_cons_zero, List.set_cons_succ]
          refine wpAnyH_take (i := 8) rfl (by kernel_rfl) (by kernel_rfl) (by kernel_rfl) (fun _ _ _ h => h) (.inl ⟨rfl, fun _ _ => rfl⟩) (by assumption) ?_
          simp only [Act.put, List.getElem_toArray, List.getElem_cons_zero, List.getElem_cons_succ, List.setIfInBounds_toArray, List.set_cons_zero, List.set_cons_succ]
          refine wpAnyH_take (i := 9) rfl (by kernel_rfl) (by kernel_rfl) (by kernel_rfl) (fun _ _ _ h => h) (.inl ⟨rfl, fun _ _ => rfl⟩) (by assumption) ?_
          simp only [Act.put, List.getElem_toArray, List.getElem_cons_zero, List.getElem_cons_succ, List.setIfInBounds_toArray, List.set_cons_zero, List.set_cons_succ]
          refine wpAnyH_index (i := 10) rfl (by kernel_rfl) (by kernel_rfl) (by kernel_rfl) rfl 70 (.tmp 73) (.tmp 74) rfl (g) (0) (L.length) (cap) (K.length + 1) (1) rfl rfl ((by omega)) Tryz.underlying70 (by kernel_rfl) (by assumption) (fun _ _ _ _ h => h) ?_
          simp only [Act.put, List.getElem_toArray, List.getElem_cons_zero, List.getElem_cons_succ, List.setIfInBounds_toArray, List.set_cons_zero, List.set_cons_succ]
          refine wpAnyH_cell (i := 11) rfl (by kernel_rfl) (by kernel_rfl) (by kernel_rfl) rfl 42 (.tmp 75) rfl (g) (0 + (K.length + 1) * 1) rfl (a.v) _ Tryz.underlying42 rfl (fun W hW => hW) (by assumption) (fun _ _ _ _ h => h) ?_
          simp only [Act.put, List.getElem_toArray, List.getElem_cons_zero, List.getElem_cons_succ, List.setIfInBounds_toArray, List.set_cons_zero, List.set_cons_succ]
          refine wpAnyH_take (i := 12) (v := .agg ⟨[.string ⟨#[]⟩, a.v]⟩) rfl (by kernel_rfl) (by kernel_rfl) (by kernel_rfl) (fun _ _ _ h => h) (.inl ⟨rfl, fun _ _ => by simp [execOp, go_sem, hav]⟩) (by assumption) ?_
          simp only [Act.put, List.getElem_toArray, List.getElem_cons_zero, List.getElem_cons_succ, List.setIfInBounds_toArray, List.set_cons_zero, List.set_cons_succ]
          have hx5 : Ext w4 (w4.drew.alloc (.cells #[.string ⟨#[]⟩, a.v] 44)) := .alloc (.drew (.refl _)) _
          refine wpAnyH_load_make (i := 7) (j := 13) (vi := b.v) (vj := .slice (some ⟨w4.heap.size, 0, none⟩) 1 1) (w' := w4.drew.alloc (.cells #[.string ⟨#[]⟩, a.v] 44)) (by kernel_rfl) (by kernel_rfl) (by kernel_rfl) rfl rfl rfl rfl rfl rfl (by decide) (by decide)
            (run_op_load_cell 42 (.tmp 71) rfl g (0 + K.length * 1) rfl b.v _ Tryz.underlying42 rfl hcb4) (by simp [execOp, go_sem, Act.put]) (by simp [execOp, go_sem])
            (run_op_load_cell 42 (.tmp 71) rfl g (0 + K.length * 1) rfl b.v _ Tryz.underlying42 rfl (by rw [World.cell?_of_block (w := w4) (hx5.block g hgl4)]; exact hcb4)) hca4 (by rw [World.cell?_of_block (w := w4) (hx5.block g hgl4)]; exact hca4) ?_
          simp only [Act.put, List.getElem_toArray, List.getElem_cons_zero, List.getElem_cons_succ, List.setIfInBounds_toArray, List.set_cons_zero, List.set_cons_succ]
          refine wpAnyH_one (i := 14) (by kernel_rfl) ?_
          have HST5 := HST4.out.ext hx5
          have hbn := hHLN b (by rw [hK]; simp)
          refine wpOp_append_acc rfl rfl (.tmp 72) (.tmp 78) 42 rfl 44 2 40 Tryz.underlying42 iszc44 (by decide) (by decide) (w.heap.size + 1) (GSExpr.trs b.l) b.l.length (GSExpr.trs_len _) b.v b.S rfl (Acc.ext HBA4.out hx5) (GSExpr.mk s_ a.l).tr [.string ⟨#[]⟩, a.v] a.S (GSExpr.tr_len _) ((own_mk HAA4.out).ext hx5) (fun x h1 h2 => hda b (by simp) x (.inl h1) (.inl h2)) (fun x h => ⟨(LAcc.lt HAA4.out (.inl h)).1, Nat.lt_of_lt_of_le (LAcc.lt HAA4.out (.inl h)).2 hx5.size⟩) (fun x h1 h2 => hda b (by simp) x (.inr h1) (.inl h2)) w4.heap.size 1 44 rfl (OB.new w4.drew _ _) (by omega) (by have := hx5.size; have := HX4.out.size; have := HX.out.size; have := stk_ge HST5; have := HST5.lt; omega) ?_; intro g2 c2 w6 hacc6 hg6 hgg6 hlt6
          have hg6g : w6.heap[g]? = w4.heap[g]? := (hg6.block g HST5.lt (fun e => hbg (.inr e.symm))).trans (hx5.block g hgl4)
          have hS6 : w6.cell? ⟨g, 0 + (K.length + 1) * 1, none⟩ = some a.v := by rw [World.cell?_of_block (w := w4) hg6g]; exact hca4
          refine ⟨hS6, ?_⟩
          simp only [Act.put, List.getElem_toArray, List.getElem_cons_zero, List.getElem_cons_succ, List.setIfInBounds_toArray, List.set_cons_zero, List.set_cons_succ]
          refine wpAnyH_index (i := 15) rfl (by kernel_rfl) (by kernel_rfl) (by kernel_rfl) rfl 70 (.tmp 65) (.tmp 67) rfl g 0 L.length cap K.length 1 rfl rfl (by omega) Tryz.underlying70 (by kernel_rfl) hS6 (fun _ _ _ _ h => h) ?_
          simp only [Act.put, List.getElem_toArray, List.getElem_cons_zero, List.getElem_cons_succ, List.setIfInBounds_toArray, List.set_cons_zero, List.set_cons_succ]
          obtain ⟨cur, hcur, hcs, hcl, -, -, -⟩ := HST4.out.ob
          have hcl : K.length + 1 ≤ cap := by simpa using hcl
          have hcl2 : K.length + 2 ≤ cap := by obtain ⟨cur', -, -, h, -⟩ := HST.out.ob; omega
          have hob6 : OB w6 g 42 cur := hg6g.trans hcur
          refine wpAnyH_one (i := 16) (by kernel_rfl) ?_; refine wpOp_store_cell rfl rfl 42 (.tmp 80) (.tmp 79) rfl g (0 + K.length * 1) rfl (.slice (some ⟨g2, 0, none⟩) (b.l.length + 1) c2) rfl rfl 42 cur hob6 isz42 (by omega) rfl ?_; intro w7 hob7 hgb7 hz7
          refine ⟨?_, ?_⟩
          · show w7.cell? _ = _
            rw [hob7.cell, splice_getP (by simp; omega), if_neg (by omega), if_neg (by simp), ← hcur.cell]
            exact hca4
          simp only [Act.put, List.getElem_toArray, List.getElem_cons_zero, List.getElem_cons_succ, List.setIfInBounds_toArray, List.set_cons_zero, List.set_cons_succ]
          refine wpAnyH_done (by kernel_rfl) ?_ _
          have hne2 : g2 ≠ g := by
            rcases hgg6 with e | e
            · exact fun h => hbg (.inr (h ▸ e))
            · have := HST5.lt; omega
          have HST7 : Hid (Stk (w.heap.size + 1) w7 g cap (K ++ [⟨.slice (some ⟨g2, 0, none⟩) (b.l.length + 1) c2, b.l ++ [.mk s_ a.l], fun x => b.S x ∨ a.S x ∨ x = g2⟩])) := by
            refine HST5.set2 (T := a.S) (g2 := g2) ?_ (fun x h => h) rfl hgg6 (fun c hc x h1 h2 => hda c (by simp [hc]) x h1 (.inl h2)) (fun h => hag (.inl h)) (Nat.le_trans hg6.size hgb7.size) (fun x h1 h2 h3 h4 => ?_) (fun cur' h' => ?_)
            · show Acc 44 _ 2 w7 (GSExpr.trs (b.l ++ [.mk s_ a.l])) _ _
              rw [trs_snoc]
              refine Acc.keep hacc6 hgb7.size fun x hx hl => hgb7.block x hl fun e => ?_
              have e : x = g := Option.some.inj e
              subst e
              rcases hx with (h | h | h) | h
              · exact hbg (.inl h)
              · exact hag (.inl h)
              · exact hne2 h.symm
              · cases h; exact hne2 rfl
            · exact (hgb7.block x (Nat.lt_of_lt_of_le h1 hg6.size) (fun e => h2 (Option.some.inj e))).trans (hg6.block x h1 (fun e => h3 (.inr e.symm)))
            · obtain rfl := ob_inj h' (hcur.ext hx5)
              simpa using hob7
          have HX7 : Hid (Ext w w7) := grown_ext (grown_ext_own ((HX.out.trans HX4.out).trans hx5) hg6 (fun x h => by have := (LAcc.lt HBA4.out (.inr h)).1; omega)) hgb7 (by omega)
          have HO7 : Hid (OB w7 w.heap.size 44 #[.string ⟨#[]⟩, .slice none 0 0]) := ((((HO.out.ext HX4.out).ext hx5).grown_own hg6 (fun e => by have := (LAcc.lt HBA4.out (.inr e)).1; omega))).grown hgb7 (by omega)
          have htk' : tokP s p = some ((K ++ [(⟨.slice (some ⟨g2, 0, none⟩) (b.l.length + 1) c2, b.l ++ [.mk s_ a.l], fun x => b.S x ∨ a.S x ∨ x = g2⟩ : Lv)]).map Lv.l, p.at_ + 1) := by rw [htk, List.map_append]; rfl
          have HLN7 : ∀ c ∈ K ++ [(⟨.slice (some ⟨g2, 0, none⟩) (b.l.length + 1) c2, b.l ++ [.mk s_ a.l], fun x => b.S x ∨ a.S x ∨ x = g2⟩ : Lv)], c.l.length ≤ p.cnt + 1 := lens_snoc (fun c hc' => hHLN c (by rw [hK]; simp [hc'])) (by simp; exact hbn)
          generalize hb' : (⟨.slice (some ⟨g2, 0, none⟩) (b.l.length + 1) c2, b.l ++ [.mk s_ a.l], fun x => b.S x ∨ a.S x ∨ x = g2⟩ : Lv) = b' at HST7 htk' HLN7
          clear hacc6 hg6 hgg6 hlt6 hg6g hS6 hob6 hob7 hgb7 hz7 hx5 HST5
          have htn := tokP_next hlt htk'
          go_wp2_with (refine wpList_store_rep rfl 44 (.tmp 2) (.tmp 126) rfl w.heap.size 0 rfl [.string ⟨#[]⟩, .slice none 0 0] rfl 44 _ HO7.out isz44 (by simp) zero_ones ?_; intro w9 hob9 hgb9 hzb9; rw [splice_whole (by rfl)] at hob9; have HOB9 := Lib.hid hob9; have HGB9 := Lib.hid hgb9; clear hob9 hgb9 hzb9)
          all_goals first
            | (refine bodyPost_ret (results_cell_row_tmp Tryz.results21 _ _ w.heap.size 44 ⟨[.string ⟨#[]⟩, .slice none 0 0]⟩ _ _ _ rfl rfl HOB9.out Tryz.underlying44 rfl isz44) rfl ?_
               obtain rfl := fail_r HH.out (by rw [← HR.out]; exact prun_none hlt (pstep_fail hnb htk' (by simp; omega)))
               exact ⟨_, rfl, grown_ext HX7.out HGB9.out (Nat.le_refl _), zeroSx_own _ _⟩)
            | (refine ⟨⟨⟨(K ++ [b']).map Lv.l, p.cnt + 1, p.at_ + 1⟩, g, cap, K ++ [b'], by first | rfl | (simp; done) | (simp; omega), congrArg (Value.int .i64) (by show (_ : Int) = ((p.cnt + 1 : Nat) : Int); omega), congrArg (Value.int .i64) (by show (_ : Int) = ((p.at_ + 1 : Nat) : Int); omega), rfl, by simp, by simp; omega, by show p.cnt + 1 ≤ 1800; omega, htn.2, HST7.out, HX7.out, HO7.out, ?_, ?_⟩, ?_⟩
               · exact HLN7
               · show _ = _
                 rw [← HR.out, prun_next hlt (pstep_tok hnb htk' (by simp; omega))]
               · have := htn.1
                 simp [intOf]
                 omega)
        · refine wpOp_store_cell rfl rfl 4 (.tmp 45) (.const (.bool false)) rfl wr.heap.size 0 rfl (.bool false) rfl rfl 4 _ (OB.new wr.drew _ _) isz4 (by simp) rfl ?_; intro w3 hob3 hgb3 hz3
          refine ⟨trivial, ?_⟩
          simp only [Act.put, List.getElem_toArray, List.getElem_cons_zero, List.getElem_cons_succ, List.setIfInBounds_toArray, List.set_cons_zero, List.set_cons_succ]
          refine wpAnyH_one (i := 1) (by kernel_rfl) ?_; refine wpOp_store_cell rfl rfl 4 (.tmp 45) (.const (.bool true)) rfl wr.heap.size 0 rfl (.bool true) rfl rfl 4 _ hob3 isz4 (by simp [splice]) rfl ?_; intro w4 hob4 hgb4 hz4
          refine ⟨trivial, ?_⟩
          simp only [Act.put, List.getElem_toArray, List.getElem_cons_zero, List.getElem_cons_succ, List.setIfInBounds_toArray, List.set_cons_zero, List.set_cons_succ]
          refine wpAnyH_run (i := 3) (v := .bool true) (w' := w4) (by kernel_rfl) rfl rfl (run_op_load_cell 4 (.tmp 45) rfl wr.heap.size 0 rfl (.bool true) _ Tryz.underlying4 rfl (by rw [hob4.cell]; rfl)) trivial ?_
          simp only [Act.put, List.getElem_toArray, List.getElem_cons_zero, List.getElem_cons_succ, List.setIfInBounds_toArray, List.set_cons_zero, List.set_cons_succ]
          refine wpAnyH_done (by kernel_rfl) ?_ _
          have HX4 : Hid (Ext wr w4) := grown_ext (grown_ext (.alloc (.drew (.refl wr)) _) hgb3 (Nat.le_refl _)) hgb4 (Nat.le_refl _)
          clear hob3 hgb3 hz3 hob4 hgb4 hz4
          go_wp2_with fail
          have hb0 := LAcc.shapeV hbA
          obtain ⟨ba, bc, hbv, hbl, hbm⟩ := hb0
          obtain ⟨aa, ac, hav, hal, ham⟩ := LAcc.shapeV haA
          have HST4 : Hid (Stk (w.heap.size + 1) w4 g cap (K ++ [b])) := hp1.ext HX4.out
          have HAA4 : Hid (LAcc (w.heap.size + 1) w4 a) := Acc.ext haA HX4.out
          have HBA4 : Hid (LAcc (w.heap.size + 1) w4 b) := Acc.ext hbA HX4.out
          have hcb4 : w4.cell? ⟨g, 0 + K.length * 1, none⟩ = some b.v := by have := HST4.out.cell (j := K.length) (by simp); simpa using this
          have hca4 : w4.cell? ⟨g, 0 + (K.length + 1) * 1, none⟩ = some a.v := by rw [show 0 + (K.length + 1) * 1 = K.length + 1 by omega, World.cell?_of_block (w := wr) (HX4.out.block g HST.out.lt)]; exact hca
          have hz4 := HX4.out.size
          have hgl4 : g < w4.heap.size := HST4.out.lt
          refine wp_region_held_drew (S := fun W => W.cell? ⟨g, 0 + (K.length + 1) * 1, none⟩ = some a.v) (by kernel_rfl) ?_ (fun hHeld => ?_)
          · exact hca4
          refine wpAnyH_take (i := 0) rfl (by kernel_rfl) (by kernel_rfl) (by kernel_rfl) (fun _ _ _ h => h) (.inl ⟨rfl, fun _ _ => rfl⟩) (by assumption) ?_
          simp only [Act.put, List.getElem_toArray, List.getElem_cons_zero, List.setIfInBounds_toArray, List.set_cons_zero, List.set_cons_succ]
          refine wpAnyH_take (i := 1) rfl (by kernel_rfl) (by kernel_rfl) (by kernel_rfl) (fun _ _ _ h => h) (.inl ⟨rfl, fun _ _ => rfl⟩) (by assumption) ?_
          simp only [Act.put, List.getElem_toArray, List.getElem_cons_zero, List.getElem_cons_succ, List.setIfInBounds_toArray, List.set_cons_zero, List.set_cons_succ]
          refine wpAnyH_take (i := 2) (v := .int .i64 (K.length : Int)) rfl (by kernel_rfl) (by kernel_rfl) (by kernel_rfl) (fun _ _ _ h => h) (.inl ⟨rfl, fun _ _ => exec_pred (.tmp 48) rfl K.length rfl rfl (by omega)⟩) (by assumption) ?_
          simp only [Act.put, List.getElem_toArray, List.getElem_cons_zero, List.getElem_cons_succ, List.setIfInBounds_toArray, List.set_cons_zero, List.set_cons_succ]
          refine wpAnyH_take (i := 3) rfl (by kernel_rfl) (by kernel_rfl) (by kernel_rfl) (fun _ _ _ h => h) (.inl ⟨rfl, fun _ _ => rfl⟩) (by assumption) ?_
          simp only [Act.put, List.getElem_toArray, List.getElem_cons_zero, List.getElem_cons_succ, List.setIfInBounds_toArray, List.set_cons_zero, List.set_cons_succ]
          refine wpAnyH_take (i := 4) rfl (by kernel_rfl) (by kernel_rfl) (by kernel_rfl) (fun _ _ _ h => h) (.inl ⟨rfl, fun _ _ => rfl⟩) (by assumption) ?_
          simp only [Act.put, List.getElem_toArray, List.getElem_cons_zero, List.getElem_cons_succ, List.setIfInBounds_toArray, List.set_cons_zero, List.set_cons_succ]
          refine wpAnyH_take (i := 5) (v := .int .i64 (K.length : Int)) rfl (by kernel_rfl) (by kernel_rfl) (by kernel_rfl) (fun _ _ _ h => h) (.inl ⟨rfl, fun _ _ => exec_pred (.tmp 51) rfl K.length rfl rfl (by omega)⟩) (by assumption) ?_
          simp only [Act.put, List.getElem_toArray, List.getElem_cons_zero, List.getElem_cons_succ, List.setIfInBounds_toArray, List.set_cons_zero, List.set_cons_succ]
          refine wpAnyH_index (i := 6) rfl (by kernel_rfl) (by kernel_rfl) (by kernel_rfl) rfl 70 (.tmp 50) (.tmp 52) rfl (g) (0) (L.length) (cap) (K.length) (1) rfl rfl ((by omega)) Tryz.underlying70 (by kernel_rfl) (by assumption) (fun _ _ _ _ h => h) ?_
          simp only [Act.put, List.getElem_toArray, List.getElem_cons_zero, List.getElem_cons_succ, List.setIfInBounds_toArray, List.set_cons_zero, List.set_cons_succ]
          refine wpAnyH_take (i := 8) rfl (by kernel_rfl) (by kernel_rfl) (by kernel_rfl) (fun _ _ _ h => h) (.inl ⟨rfl, fun _ _ => rfl⟩) (by assumption) ?_
          simp only [Act.put, List.getElem_toArray, List.getElem_cons_zero, List.getElem_cons_succ, List.setIfInBounds_toArray, List.set_cons_zero, List.set_cons_succ]
          refine wpAnyH_take (i := 9) rfl (by kernel_rfl) (by kernel_rfl) (by kernel_rfl) (fun _ _ _ h => h) (.inl ⟨rfl, fun _ _ => rfl⟩) (by assumption) ?_
          simp only [Act.put, List.getElem_toArray, List.getElem_cons_zero, List.getElem_cons_succ, List.setIfInBounds_toArray, List.set_cons_zero, List.set_cons_succ]
          refine wpAnyH_index (i := 10) rfl (by kernel_rfl) (by kernel_rfl) (by kernel_rfl) rfl 70 (.tmp 55) (.tmp 56) rfl (g) (0) (L.length) (cap) (K.length + 1) (1) rfl rfl ((by omega)) Tryz.underlying70 (by kernel_rfl) (by assumption) (fun _ _ _ _ h => h) ?_
          simp only [Act.put, List.getElem_toArray, List.getElem_cons_zero, List.getElem_cons_succ, List.setIfInBounds_toArray, List.set_cons_zero, List.set_cons_succ]
          refine wpAnyH_cell (i := 11) rfl (by kernel_rfl) (by kernel_rfl) (by kernel_rfl) rfl 42 (.tmp 57) rfl (g) (0 + (K.length + 1) * 1) rfl (a.v) _ Tryz.underlying42 rfl (fun W hW => hW) (by assumption) (fun _ _ _ _ h => h) ?_
          simp only [Act.put, List.getElem_toArray, List.getElem_cons_zero, List.getElem_cons_succ, List.setIfInBounds_toArray, List.set_cons_zero, List.set_cons_succ]
          refine wpAnyH_take (i := 12) (v := .agg ⟨[.string ⟨#[]⟩, a.v]⟩) rfl (by kernel_rfl) (by kernel_rfl) (by kernel_rfl) (fun _ _ _ h => h) (.inl ⟨rfl, fun _ _ => by simp [execOp, go_sem, hav]⟩) (by assumption) ?_
          simp only [Act.put, List.getElem_toArray, List.getElem_cons_zero, List.getElem_cons_succ, List.setIfInBounds_toArray, List.set_cons_zero, List.set_cons_succ]
          have hx5 : Ext w4 (w4.drew.alloc (.cells #[.string ⟨#[]⟩, .slice none 0 0] 44)) := .alloc (.drew (.refl _)) _
          refine wpAnyH_load_len_make (i := 7) (k := 13) (j := 14) (vi := b.v) (vk := .int .i64 (b.l.length : Int)) (vj := .slice (some ⟨w4.heap.size, 0, none⟩) 1 1) (w' := w4.drew.alloc (.cells #[.string ⟨#[]⟩, .slice none 0 0] 44)) (by kernel_rfl) (by kernel_rfl) (by kernel_rfl) (by kernel_rfl) (by kernel_rfl) rfl rfl rfl rfl rfl rfl rfl rfl rfl (by decide) (by decide) (by decide) (by decide)
            (run_op_load_cell 42 (.tmp 53) rfl g (0 + K.length * 1) rfl b.v _ Tryz.underlying42 rfl hcb4)
            (run_op_load_cell 42 (.tmp 53) rfl g (0 + K.length * 1) rfl b.v _ Tryz.underlying42 rfl (by rw [World.cell?_of_block (w := w4) (hx5.block g hgl4)]; exact hcb4))
            (by simp [execOp, go_sem, Act.put, hbv]) (by simp [execOp, go_sem, Act.put, hbv]) (by simp [execOp, go_sem, Act.put]) (by simp [execOp, go_sem, Act.put]) (by simp [execOp, go_sem, Act.put]) hca4 (by rw [World.cell?_of_block (w := w4) (hx5.block g hgl4)]; exact hca4) ?_
          simp only [Act.put, List.getElem_toArray, List.getElem_cons_zero, List.getElem_cons_succ, List.setIfInBounds_toArray, List.set_cons_zero, List.set_cons_succ]
          refine wpAnyH_one (i := 15) (by kernel_rfl) ?_
          have HST5 := HST4.out.ext hx5
          have hbn := hHLN b (by rw [hK]; simp)
          refine wpOp_append_acc rfl rfl (.tmp 54) (.tmp 61) 42 rfl 44 2 40 Tryz.underlying42 iszc44 (by decide) (by decide) (w.heap.size + 1) (GSExpr.trs b.l) b.l.length (GSExpr.trs_len _) b.v b.S rfl (Acc.ext HBA4.out hx5) (GSExpr.mk s_ []).tr [.string ⟨#[]⟩, .slice none 0 0] (fun _ => False) (GSExpr.tr_len _) (own_atom (Nat.zero_le _)) (fun x h1 h2 => h2) (fun x h => h.elim) (fun x h1 h2 => h2) w4.heap.size 1 44 rfl (OB.new w4.drew _ _) (by omega) (by have := hx5.size; have := HX4.out.size; have := HX.out.size; have := stk_ge HST5; have := HST5.lt; omega) ?_; intro g2 c2 w6 hacc6 hg6 hgg6 hlt6
          have hg6g : w6.heap[g]? = w4.heap[g]? := (hg6.block g HST5.lt (fun e => hbg (.inr e.symm))).trans (hx5.block g hgl4)
          have hS6 : w6.cell? ⟨g, 0 + (K.length + 1) * 1, none⟩ = some a.v := by rw [World.cell?_of_block (w := w4) hg6g]; exact hca4
          refine ⟨hS6, ?_⟩
          simp only [Act.put, List.getElem_toArray, List.getElem_cons_zero, List.getElem_cons_succ, List.setIfInBounds_toArray, List.set_cons_zero, List.set_cons_succ]
          refine wpAnyH_index (i := 16) rfl (by kernel_rfl) (by kernel_rfl) (by kernel_rfl) rfl 70 (.tmp 47) (.tmp 49) rfl g 0 L.length cap K.length 1 rfl rfl (by omega) Tryz.underlying70 (by kernel_rfl) hS6 (fun _ _ _ _ h => h) ?_
          simp only [Act.put, List.getElem_toArray, List.getElem_cons_zero, List.getElem_cons_succ, List.setIfInBounds_toArray, List.set_cons_zero, List.set_cons_succ]
          obtain ⟨cur, hcur, hcs, hcl, -, -, -⟩ := HST4.out.ob
          have hcl : K.length + 1 ≤ cap := by simpa using hcl
          have hcl2 : K.length + 2 ≤ cap := by obtain ⟨cur', -, -, h, -⟩ := HST.out.ob; omega
          have hob6 : OB w6 g 42 cur := hg6g.trans hcur
          refine wpAnyH_one (i := 17) (by kernel_rfl) ?_; refine wpOp_store_cell rfl rfl 42 (.tmp 63) (.tmp 62) rfl g (0 + K.length * 1) rfl (.slice (some ⟨g2, 0, none⟩) (b.l.length + 1) c2) rfl rfl 42 cur hob6 isz42 (by omega) rfl ?_; intro w7 hob7 hgb7 hz7
          refine ⟨?_, ?_⟩
          · show w7.cell? _ = _
            rw [hob7.cell, splice_getP (by simp; omega), if_neg (by omega), if_neg (by simp), ← hcur.cell]
            exact hca4
          simp only [Act.put, List.getElem_toArray, List.getElem_cons_zero, List.getElem_cons_succ, List.setIfInBounds_toArray, List.set_cons_zero, List.set_cons_succ]
          refine wpAnyH_done (by kernel_rfl) ?_ _
          have hne2 : g2 ≠ g := by
            rcases hgg6 with e | e
            · exact fun h => hbg (.inr (h ▸ e))
            · have := HST5.lt; omega
          have hacc7 : Acc 44 (w.heap.size + 1) 2 w7 (GSExpr.trs b.l ++ [(GSExpr.mk s_ []).tr]) (.slice (some ⟨g2, 0, none⟩) ((GSExpr.trs b.l).length + 1) c2) (fun x => b.S x ∨ False ∨ x = g2) := by
            rw [GSExpr.trs_len]
            refine Acc.keep hacc6 hgb7.size fun x hx hl => hgb7.block x hl fun e => ?_
            have e : x = g := Option.some.inj e
            subst e
            rcases hx with (h | h | h) | h
            · exact hbg (.inl h)
            · exact h
            · exact hne2 h.symm
            · cases h; exact hne2 rfl
          have hob2 : ∃ arr, OB w7 g2 44 arr ∧ arr.size = c2 * 2 ∧ b.l.length + 1 ≤ c2 := by
            rcases hacc7.whole with ⟨h, -⟩ | ⟨g', c', arr, h, -, h3, h4, -, h6⟩
            · cases h
            · injection h with h1 h2 h3'
              injection h1 with h1
              injection h1 with h1
              subst h1 h3'
              exact ⟨arr, h3, h6, by simpa [GSExpr.trs_len] using h4⟩
          obtain ⟨arr, harr, harrs, harrc⟩ := hob2
          have KEY : ∀ w8, OB w8 g2 44 (splice arr (b.l.length * 2) [.string ⟨#[]⟩, a.v]) → w7.grownBy w8 (some g2) → ∃ b' : Lv, b'.v = .slice (some ⟨g2, 0, none⟩) (b.l.length + 1) c2 ∧ b'.l = b.l ++ [.mk s_ a.l] ∧ Hid (Stk (w.heap.size + 1) w8 g cap (K ++ [b'])) ∧ Hid (Ext w w8) ∧ Hid (OB w8 w.heap.size 44 #[.string ⟨#[]⟩, .slice none 0 0]) := by
            intro w8 hob8 hgb8
            have hA7 : LAcc (w.heap.size + 1) w7 a := Acc.keep (Acc.ext HAA4.out hx5) (Nat.le_trans hg6.size hgb7.size) fun x hx hl => (hgb7.block x (Nat.lt_of_lt_of_le hl hg6.size) (fun e => hag (by have e := Option.some.inj e; subst e; exact hx))).trans (hg6.block x hl (fun e => hda b (by simp) x (.inr e.symm) hx))
            have hg2A : ¬ a.F g2 := fun h => by
              rcases hgg6 with e | e
              · exact hda b (by simp) g2 (.inr e) h
              · have := (LAcc.lt HAA4.out h).2; have := hx5.size; omega
            have h8 := hacc7.setLast (by decide) (GSExpr.tr_len _) (own_mk hA7) (fun x h1 h2 => by
              rcases h1 with h | h | rfl
              · exact hda b (by simp) x (.inl h) (.inl h2)
              · exact h
              · exact hg2A (.inl h2)) (fun x h => LAcc.lt hA7 (.inl h)) (fun h => hg2A (.inl h)) harr (by rw [GSExpr.trs_len]; exact hob8) hgb8 (by have := HST5.lt; have := stk_ge HST5; have := hg6.size; have := hgb7.size; omega)
            rw [GSExpr.trs_len, ← trs_snoc] at h8
            refine ⟨⟨.slice (some ⟨g2, 0, none⟩) (b.l.length + 1) c2, b.l ++ [.mk s_ a.l], _⟩, rfl, rfl, HST5.set2 (T := a.S) (g2 := g2) h8 (fun x h => ?_) rfl hgg6 (fun c hc x h1 h2 => hda c (by simp [hc]) x h1 (.inl h2)) (fun h => hag (.inl h)) (Nat.le_trans hg6.size (Nat.le_trans hgb7.size hgb8.size)) (fun x h1 h2 h3 h4 => ?_) (fun cur' h' => ?_), ?_, ?_⟩
            · rcases h with (h | h | h) | h | h
              · exact .inl h
              · exact h.elim
              · exact .inr (.inr h)
              · exact .inr (.inl h)
              · exact .inr (.inr h)
            · exact (hgb8.block x (Nat.lt_of_lt_of_le h1 (Nat.le_trans hg6.size hgb7.size)) (fun e => h4 (Option.some.inj e))).trans ((hgb7.block x (Nat.lt_of_lt_of_le h1 hg6.size) (fun e => h2 (Option.some.inj e))).trans (hg6.block x h1 (fun e => h3 (.inr e.symm))))
            · obtain rfl := ob_inj h' (hcur.ext hx5)
              have : OB w8 g 42 (splice cur' (0 + K.length * 1) [.slice (some ⟨g2, 0, none⟩) (b.l.length + 1) c2]) := hob7.grown hgb8 hne2.symm
              simpa using this
            · exact grown_ext (grown_ext (grown_ext_own ((HX.out.trans HX4.out).trans hx5) hg6 (fun x h => by have := (LAcc.lt HBA4.out (.inr h)).1; omega)) hgb7 (by omega)) hgb8 (by have := (Acc.blk hacc7 (x := g2) rfl).1; omega)
            · exact (((((HO.out.ext HX4.out).ext hx5).grown_own hg6 (fun e => by have := (LAcc.lt HBA4.out (.inr e)).1; omega))).grown hgb7 (by omega)).grown hgb8 (by have := (Acc.blk hacc7 (x := g2) rfl).1; omega)
          have HKEY := Lib.hid KEY
          have HARR := Lib.hid harr
          have HFIT : Hid (b.l.length * 2 + [Value.string ⟨#[]⟩, a.v].length ≤ arr.size) := by show _ ≤ _; simp; omega
          have HAV := Lib.hid hav
          clear hav
          clear hacc6 hg6 hgg6 hlt6 hg6g hS6 hob6 hob7 hgb7 hz7 hx5 HST5 hacc7 KEY harr
          go_wp2_with (first
            | (refine wpList_store_rep rfl 44 (.tmp 64) (.tmp 59) rfl g2 (b.l.length * 2) rfl [.string ⟨#[]⟩, a.v] rfl 44 arr HARR.out isz44 HFIT.out (two_ones HAV.out) ?_; intro w8 hob8 hgb8 hz8; obtain ⟨b', hb'v, hb'l, HST7, HX7, HO7⟩ := HKEY.out w8 hob8 hgb8; have htk' : tokP s p = some ((K ++ [b']).map Lv.l, p.at_ + 1) := (by rw [htk, List.map_append, ← hb'l]; rfl); have htn := tokP_next hlt htk'; have HLN7 : ∀ c ∈ K ++ [b'], c.l.length ≤ p.cnt + 1 := lens_snoc (fun c hc' => hHLN c (by rw [hK]; simp [hc'])) (by rw [hb'l]; simp; exact hbn); clear hob8 hgb8 hz8)
            | (refine wpList_store_rep rfl 44 (.tmp 64) (.tmp 59) rfl g2 (0 + b.l.length * 2) rfl [.string ⟨#[]⟩, a.v] rfl 44 arr HARR.out isz44 (by rw [Nat.zero_add]; exact HFIT.out) (two_ones HAV.out) ?_; intro w8 hob8 hgb8 hz8; obtain ⟨b', hb'v, hb'l, HST7, HX7, HO7⟩ := HKEY.out w8 (by rw [Nat.zero_add] at hob8; exact hob8) hgb8; have htk' : tokP s p = some ((K ++ [b']).map Lv.l, p.at_ + 1) := (by rw [htk, List.map_append, ← hb'l]; rfl); have htn := tokP_next hlt htk'; have HLN7 : ∀ c ∈ K ++ [b'], c.l.length ≤ p.cnt + 1 := lens_snoc (fun c hc' => hHLN c (by rw [hK]; simp [hc'])) (by rw [hb'l]; simp; exact hbn); clear hob8 hgb8 hz8)
            | (refine wpList_store_rep rfl 44 (.tmp 2) (.tmp 126) rfl w.heap.size 0 rfl [.string ⟨#[]⟩, .slice none 0 0] rfl 44 _ HO7.out isz44 (by simp) zero_ones ?_; intro w9 hob9 hgb9 hzb9; rw [splice_whole (by rfl)] at hob9; have HOB9 := Lib.hid hob9; have HGB9 := Lib.hid hgb9; clear hob9 hgb9 hzb9))
          all_goals first
            | (refine bodyPost_ret (results_cell_row_tmp Tryz.results21 _ _ w.heap.size 44 ⟨[.string ⟨#[]⟩, .slice none 0 0]⟩ _ _ _ rfl rfl HOB9.out Tryz.underlying44 rfl isz44) rfl ?_
               obtain rfl := fail_r HH.out (by rw [← HR.out]; exact prun_none hlt (pstep_fail hnb htk' (by simp; omega)))
               exact ⟨_, rfl, grown_ext HX7.out HGB9.out (Nat.le_refl _), zeroSx_own _ _⟩)
            | (refine ⟨⟨⟨(K ++ [b']).map Lv.l, p.cnt + 1, p.at_ + 1⟩, g, cap, K ++ [b'], by first | rfl | (simp; done) | (simp; omega), congrArg (Value.int .i64) (by show (_ : Int) = ((p.cnt + 1 : Nat) : Int); omega), congrArg (Value.int .i64) (by show (_ : Int) = ((p.at_ + 1 : Nat) : Int); omega), rfl, by simp, by simp; omega, by show p.cnt + 1 ≤ 1800; omega, htn.2, HST7.out, HX7.out, HO7.out, ?_, ?_⟩, ?_⟩
               · exact HLN7
               · show _ = _
                 rw [← HR.out, prun_next hlt (pstep_tok hnb htk' (by simp; omega))]
               · have := htn.1
                 simp [intOf]
                 omega)
      -- an atom
      · have hn3 : ¬ (bAt s p.at_ = 32 ∨ bAt s p.at_ = 10) ∧ ¬ bAt s p.at_ = 40 ∧ ¬ bAt s p.at_ = 41 := by
          have h1 : (((bAt s p.at_).toNat : Int) == 32) = false ∧ (((bAt s p.at_).toNat : Int) == 10) = false := by assumption
          have h2 : (((bAt s p.at_).toNat : Int) == 40) = false := by assumption
          have h3 : (((bAt s p.at_).toNat : Int) == 41) = false := by assumption
          exact byte_not h1.1 h1.2 h2 h3
        obtain ⟨hnb, hn40, hn41⟩ := hn3
        refine ((iisAtomByte_ok fu (bAt s p.at_) _ (atB_i fu _)).plain (w := wr) (vals := [.int .u8 ((bAt s p.at_).toNat : Int)]) ⟨RV0.t (.leaf (wf_u8 _)), trivial⟩).mono ?_; rintro e w1 ⟨rfl, hx1⟩
        have HX1 := Lib.hid hx1
        have HO1 : Hid (OB w1 w.heap.size 44 #[.string ⟨#[]⟩, .slice none 0 0]) := HO.out.ext hx1
        have HST1 := Lib.hid (HST.out.ext hx1)
        have HXX1 := Lib.hid (HX.out.trans hx1)
        clear hx1
        cases hat : atB (bAt s p.at_)
        · have htk : tokP s p = none := tok_no hn40 hn41 hat
          go_wp2_with (refine wpList_store_rep rfl 44 (.tmp 2) (.tmp 21) rfl w.heap.size 0 rfl [.string ⟨#[]⟩, .slice none 0 0] rfl 44 _ HO1.out isz44 (by simp) zero_ones ?_; intro w9 hob9 hgb9 hzb9; rw [splice_whole (by rfl)] at hob9; have HOB9 := Lib.hid hob9; have HGB9 := Lib.hid hgb9; clear hob9 hgb9 hzb9)
          refine bodyPost_ret (results_cell_row_tmp Tryz.results21 _ _ w.heap.size 44 ⟨[.string ⟨#[]⟩, .slice none 0 0]⟩ _ _ _ rfl rfl HOB9.out Tryz.underlying44 rfl isz44) rfl ?_
          obtain rfl := fail_r HH.out (by rw [← HR.out]; exact prun_none hlt (pstep_none hnb htk))
          exact ⟨_, rfl, grown_ext HXX1.out HGB9.out (Nat.le_refl _), zeroSx_own _ _⟩
        · have HAT := Lib.hid hat
          clear hat
          go_wp2_with fail
          go_loopw [9] (fun e wq => ∃ j : Nat, e = .int .i64 j ∧ p.at_ ≤ j ∧ j ≤ s.size ∧ Hid (Ext w1 wq) ∧ Hid (endA s j = endA s p.at_)) (fun e _ => s.size - (intOf e).toNat)
          case atStart => exact ⟨p.at_, rfl, Nat.le_refl _, hp, Ext.refl _, rfl⟩
          case round =>
            obtain ⟨j, rfl, hj1, hj2, HXQ, HEQ⟩ := hrel
            by_cases hjl : j < s.size
            · have hgj : s[j]? = some (bAt s j) := by unfold bAt; rw [getElem?_pos s j hjl]; rfl
              have hbj : s[j] = bAt s j := by unfold bAt; rw [getElem?_pos s j hjl]; rfl
              go_wp2_with fail
              refine ((iisAtomByte_ok fu (bAt s j) _ (atB_i fu _)).plain (w := wr) (vals := [.int .u8 ((bAt s j).toNat : Int)]) ⟨RV0.t (.leaf (wf_u8 _)), trivial⟩).mono ?_; rintro e w2 ⟨rfl, hx2⟩
              have HX2 := Lib.hid (HXQ.out.trans hx2)
              clear hx2
              cases haj : atB (bAt s j)
              · have HJ : Hid (endA s p.at_ = j) := HEQ.out.symm.trans (endA_stop hjl haj)
                go_wp2_with fail
                have HXW : Ext w1 w2 := HX2.out
                obtain ⟨K, b, hK⟩ := snoc1 (L := L) hL1
                have hKl : L.length = K.length + 1 := by rw [hK]; simp
                have HSTW : Hid (Stk (w.heap.size + 1) w2 g cap (K ++ [b])) := (hK ▸ HST1.out : Stk (w.heap.size + 1) w1 g cap (K ++ [b])).ext HXW
                obtain ⟨hbA, hbg⟩ := HSTW.out.acc b (by simp)
                obtain ⟨ba, bc, hbv, hbl, hbm⟩ := LAcc.shapeV hbA
                have hcb : w2.cell? ⟨g, 0 + K.length * 1, none⟩ = some b.v := by have := HSTW.out.cell (j := K.length) (by simp); simpa using this
                have hgl4 := HSTW.out.lt
                have hbn := HLN.out b (by rw [hK]; simp)
                have e7 : ((L.length : Int) - 1) = (K.length : Int) := by omega
                simp only [e7]
                refine wp_region_held_drew (S := fun _ => True) (by kernel_rfl) ?_ (fun hHeld => ?_)
                · exact trivial
                refine wpAnyH_take (i := 0) rfl (by kernel_rfl) (by kernel_rfl) (by kernel_rfl) (fun _ _ _ h => h) (.inl ⟨rfl, fun _ _ => rfl⟩) (by assumption) ?_
                simp only [Act.put, List.getElem_toArray, List.getElem_cons_zero, List.setIfInBounds_toArray, List.set_cons_zero, List.set_cons_succ]
                refine wpAnyH_take (i := 1) rfl (by kernel_rfl) (by kernel_rfl) (by kernel_rfl) (fun _ _ _ h => h) (.inl ⟨rfl, fun _ _ => rfl⟩) (by assumption) ?_
                simp only [Act.put, List.getElem_toArray, List.getElem_cons_zero, List.getElem_cons_succ, List.setIfInBounds_toArray, List.set_cons_zero, List.set_cons_succ]
                refine wpAnyH_index (i := 2) rfl (by kernel_rfl) (by kernel_rfl) (by kernel_rfl) rfl 70 (.tmp 102) (.tmp 103) rfl (g) (0) (L.length) (cap) (K.length) (1) rfl rfl ((by omega)) Tryz.underlying70 (by kernel_rfl) (by assumption) (fun _ _ _ _ h => h) ?_
                simp only [Act.put, List.getElem_toArray, List.getElem_cons_zero, List.getElem_cons_succ, List.setIfInBounds_toArray, List.set_cons_zero, List.set_cons_succ]
                refine wpAnyH_take (i := 4) rfl (by kernel_rfl) (by kernel_rfl) (by kernel_rfl) (fun _ _ _ h => h) (.inl ⟨rfl, fun _ _ => rfl⟩) (by assumption) ?_
                simp only [Act.put, List.getElem_toArray, List.getElem_cons_zero, List.getElem_cons_succ, List.setIfInBounds_toArray, List.set_cons_zero, List.set_cons_succ]
                refine wpAnyH_take (i := 5) rfl (by kernel_rfl) (by kernel_rfl) (by kernel_rfl) (fun _ _ _ h => h) (.inl ⟨rfl, fun _ _ => rfl⟩) (by assumption) ?_
                simp only [Act.put, List.getElem_toArray, List.getElem_cons_zero, List.getElem_cons_succ, List.setIfInBounds_toArray, List.set_cons_zero, List.set_cons_succ]
                refine wpAnyH_take (i := 6) rfl (by kernel_rfl) (by kernel_rfl) (by kernel_rfl) (fun _ _ _ h => h) (.inl ⟨rfl, fun _ _ => rfl⟩) (by assumption) ?_
                simp only [Act.put, List.getElem_toArray, List.getElem_cons_zero, List.getElem_cons_succ, List.setIfInBounds_toArray, List.set_cons_zero, List.set_cons_succ]
                refine wpAnyH_take (i := 7) (v := .string (subB s p.at_ j)) rfl (by kernel_rfl) (by kernel_rfl) (by kernel_rfl) (fun _ _ _ h => h) (.inl ⟨rfl, fun _ _ => exec_sub (.tmp 106) (.tmp 107) (.tmp 108) rfl s p.at_ j rfl rfl rfl hj1 hj2⟩) (by assumption) ?_
                simp only [Act.put, List.getElem_toArray, List.getElem_cons_zero, List.getElem_cons_succ, List.setIfInBounds_toArray, List.set_cons_zero, List.set_cons_succ]
                refine wpAnyH_take (i := 8) (v := .agg ⟨[.string (subB s p.at_ j), .slice none 0 0]⟩) rfl (by kernel_rfl) (by kernel_rfl) (by kernel_rfl) (fun _ _ _ h => h) (.inl ⟨rfl, fun _ _ => by simp [execOp, go_sem]⟩) (by assumption) ?_
                simp only [Act.put, List.getElem_toArray, List.getElem_cons_zero, List.getElem_cons_succ, List.setIfInBounds_toArray, List.set_cons_zero, List.set_cons_succ]
                have hx5 : Ext w2 (w2.drew.alloc (.cells #[.string ⟨#[]⟩, .slice none 0 0] 44)) := .alloc (.drew (.refl _)) _
                refine wpAnyH_load_len_make (i := 3) (k := 9) (j := 10) (vi := b.v) (vk := .int .i64 (b.l.length : Int)) (vj := .slice (some ⟨(w2).heap.size, 0, none⟩) 1 1) (w' := w2.drew.alloc (.cells #[.string ⟨#[]⟩, .slice none 0 0] 44)) (by kernel_rfl) (by kernel_rfl) (by kernel_rfl) (by kernel_rfl) (by kernel_rfl) rfl rfl rfl rfl rfl rfl rfl rfl rfl (by decide) (by decide) (by decide) (by decide)
                  (run_op_load_cell 42 (.tmp 104) rfl g (0 + K.length * 1) rfl b.v _ Tryz.underlying42 rfl hcb)
                  (run_op_load_cell 42 (.tmp 104) rfl g (0 + K.length * 1) rfl b.v _ Tryz.underlying42 rfl (by rw [World.cell?_of_block (w := w2) (hx5.block g hgl4)]; exact hcb))
                  (by simp [execOp, go_sem, Act.put, hbv]) (by simp [execOp, go_sem, Act.put, hbv]) (by simp [execOp, go_sem, Act.put]) (by simp [execOp, go_sem, Act.put]) (by simp [execOp, go_sem, Act.put]) trivial trivial ?_
                simp only [Act.put, List.getElem_toArray, List.getElem_cons_zero, List.getElem_cons_succ, List.setIfInBounds_toArray, List.set_cons_zero, List.set_cons_succ]
                refine wpAnyH_one (i := 11) (by kernel_rfl) ?_
                have HST5 := HSTW.out.ext hx5
                refine wpOp_append_acc rfl rfl (.tmp 105) (.tmp 112) 42 rfl 44 2 40 Tryz.underlying42 iszc44 (by decide) (by decide) (w.heap.size + 1) (GSExpr.trs b.l) b.l.length (GSExpr.trs_len _) b.v b.S rfl (Acc.ext hbA hx5) (GSExpr.mk s_ []).tr [.string ⟨#[]⟩, .slice none 0 0] (fun _ => False) (GSExpr.tr_len _) (own_atom (Nat.zero_le _)) (fun x h1 h2 => h2) (fun x h => h.elim) (fun x h1 h2 => h2) (w2).heap.size 1 44 rfl (OB.new w2.drew _ _) (by omega) (by have := stk_ge HST5; have := HST5.lt; omega) ?_; intro g2 c2 w6 hacc6 hg6 hgg6 hlt6
                refine ⟨trivial, ?_⟩
                simp only [Act.put, List.getElem_toArray, List.getElem_cons_zero, List.getElem_cons_succ, List.setIfInBounds_toArray, List.set_cons_zero, List.set_cons_succ]
                refine wpAnyH_index (i := 12) rfl (by kernel_rfl) (by kernel_rfl) (by kernel_rfl) rfl 42 (.tmp 113) (.tmp 111) rfl g2 0 (b.l.length + 1) c2 b.l.length 2 rfl rfl (by omega) Tryz.underlying42 (by kernel_rfl) trivial (fun _ _ _ _ h => h) ?_
                simp only [Act.put, List.getElem_toArray, List.getElem_cons_zero, List.getElem_cons_succ, List.setIfInBounds_toArray, List.set_cons_zero, List.set_cons_succ]
                refine wpAnyH_index (i := 14) rfl (by kernel_rfl) (by kernel_rfl) (by kernel_rfl) rfl 70 (.tmp 102) (.tmp 103) rfl g 0 L.length cap K.length 1 rfl rfl (by omega) Tryz.underlying70 (by kernel_rfl) trivial (fun _ _ _ _ h => h) ?_
                simp only [Act.put, List.getElem_toArray, List.getElem_cons_zero, List.getElem_cons_succ, List.setIfInBounds_toArray, List.set_cons_zero, List.set_cons_succ]
                have hne2 : g2 ≠ g := by
                  rcases hgg6 with e | e
                  · exact fun h => hbg (.inr (h ▸ e))
                  · have := HST5.lt; omega
                obtain ⟨arr, harr, harrs⟩ : ∃ arr, OB w6 g2 44 arr ∧ b.l.length * 2 + 2 ≤ arr.size := by
                  rcases hacc6.whole with ⟨h, -⟩ | ⟨g', c', arr, h, -, h3, h4, -, h6⟩
                  · cases h
                  · injection h with h1 h2 h3'
                    injection h1 with h1
                    injection h1 with h1
                    subst h1 h3'
                    refine ⟨arr, h3, ?_⟩
                    have : b.l.length + 1 ≤ c2 := by simpa [GSExpr.trs_len] using h4
                    omega
                obtain ⟨cur, hcur5, hcs, hcl, -, -, -⟩ := HST5.ob
                have hcl : K.length + 1 ≤ cap := by simpa using hcl
                have hcur : OB w6 g 42 cur := (hg6.block g HST5.lt (fun e => hbg (.inr e.symm))).trans hcur5
                refine wpAnyH_two (i := 13) (j := 15) (by kernel_rfl) ?_ ?_
                · refine wpOp_store_rep rfl rfl 44 (.tmp 114) (.tmp 110) rfl g2 (0 + b.l.length * 2) rfl [.string (subB s p.at_ j), .slice none 0 0] rfl 44 arr harr isz44 (by simp; omega) (two_ones rfl) ?_; intro w7 hob7 hgb7 hz7
                  refine ⟨trivial, ?_⟩
                  simp only [Act.put, List.getElem_toArray, List.getElem_cons_zero, List.getElem_cons_succ, List.setIfInBounds_toArray, List.set_cons_zero, List.set_cons_succ]
                  refine wpAnyH_one (i := 15) (by kernel_rfl) ?_
                  have hcur7 : OB w7 g 42 cur := (hgb7.block g hcur.lt (fun e => hne2 (Option.some.inj e).symm)).trans hcur
                  refine wpOp_store_cell rfl rfl 42 (.tmp 115) (.tmp 113) rfl g (0 + K.length * 1) rfl (.slice (some ⟨g2, 0, none⟩) (b.l.length + 1) c2) rfl rfl 42 cur hcur7 isz42 (by omega) rfl ?_; intro w8 hob8 hgb8 hz8
                  refine ⟨trivial, ?_⟩
                  simp only [Act.put, List.getElem_toArray, List.getElem_cons_zero, List.getElem_cons_succ, List.setIfInBounds_toArray, List.set_cons_zero, List.set_cons_succ]
                  refine wpAnyH_done (by kernel_rfl) ?_ _
                  obtain ⟨b', hb'v, hb'l, q1, q2, q3⟩ := stk_atom (v := subB s p.at_ j) (by show (s.extract _ _).size ≤ maxLen; rw [ByteArray.size_extract]; unfold maxLen; omega) HST5 hacc6 hg6 hgg6 ((HXX1.out.trans HXW).trans hx5) rfl ((HO1.out.ext HXW).ext hx5) harr hcur (.inl ⟨by simpa using hob7, hgb7, fun c hc => by obtain rfl := ob_inj hc hcur7; simpa using hob8, hgb8⟩)
                  have HST7 := Lib.hid q1
                  have HX7 := Lib.hid q2
                  have HO7 := Lib.hid q3
                  have htk' : tokP s p = some ((K ++ [b']).map Lv.l, j) := by
                    have e : p.st = K.map Lv.l ++ [b.l] := by rw [← hL, hK]; simp
                    rw [tok_atom hn40 hn41 HAT.out, HJ.out, e, addLast_snoc, List.map_append, ← hb'l]
                    rfl
                  have HLN7 : ∀ c ∈ K ++ [b'], c.l.length ≤ p.cnt + 1 := lens_snoc (fun c hc' => HLN.out c (by rw [hK]; simp [hc'])) (by rw [hb'l]; simp; exact hbn)
                  clear q1 q2 q3 hacc6 hg6 hgg6 hlt6 hob7 hgb7 hz7 hob8 hgb8 hz8 hx5 HST5 harr hcur hcur7 hcb hbv
                  have htn := tokP_next hlt htk'
                  go_wp2_with (refine wpList_store_rep rfl 44 (.tmp 2) (.tmp 126) rfl w.heap.size 0 rfl [.string ⟨#[]⟩, .slice none 0 0] rfl 44 _ HO7.out isz44 (by simp) zero_ones ?_; intro w9 hob9 hgb9 hzb9; rw [splice_whole (by rfl)] at hob9; have HOB9 := Lib.hid hob9; have HGB9 := Lib.hid hgb9; clear hob9 hgb9 hzb9)
                  all_goals first
                    | (refine bodyPost_ret (results_cell_row_tmp Tryz.results21 _ _ w.heap.size 44 ⟨[.string ⟨#[]⟩, .slice none 0 0]⟩ _ _ _ rfl rfl HOB9.out Tryz.underlying44 rfl isz44) rfl ?_
                       obtain rfl := fail_r HH.out (by rw [← HR.out]; exact prun_none hlt (pstep_fail hnb htk' (by simp; omega)))
                       exact ⟨_, rfl, grown_ext HX7.out HGB9.out (Nat.le_refl _), zeroSx_own _ _⟩)
                    | (refine ⟨⟨⟨(K ++ [b']).map Lv.l, p.cnt + 1, j⟩, g, cap, K ++ [b'], by first | rfl | (simp; done) | (simp; omega), congrArg (Value.int .i64) (by show (_ : Int) = ((p.cnt + 1 : Nat) : Int); omega), congrArg (Value.int .i64) (by show (_ : Int) = ((j : Nat) : Int); omega), rfl, by simp, by simp; omega, by show p.cnt + 1 ≤ 1800; omega, htn.2, HST7.out, HX7.out, HO7.out, ?_, ?_⟩, ?_⟩
                       · exact HLN7
                       · show _ = _
                         rw [← HR.out, prun_next hlt (pstep_tok hnb htk' (by simp; omega))]
                       · have := htn.1
                         simp [intOf]
                         omega)
                · refine wpOp_store_cell rfl rfl 42 (.tmp 115) (.tmp 113) rfl g (0 + K.length * 1) rfl (.slice (some ⟨g2, 0, none⟩) (b.l.length + 1) c2) rfl rfl 42 cur hcur isz42 (by omega) rfl ?_; intro w7 hob7 hgb7 hz7
                  refine ⟨trivial, ?_⟩
                  simp only [Act.put, List.getElem_toArray, List.getElem_cons_zero, List.getElem_cons_succ, List.setIfInBounds_toArray, List.set_cons_zero, List.set_cons_succ]
                  refine wpAnyH_one (i := 13) (by kernel_rfl) ?_
                  have hcur7 : OB w7 g2 44 arr := (hgb7.block g2 harr.lt (fun e => hne2 (Option.some.inj e))).trans harr
                  refine wpOp_store_rep rfl rfl 44 (.tmp 114) (.tmp 110) rfl g2 (0 + b.l.length * 2) rfl [.string (subB s p.at_ j), .slice none 0 0] rfl 44 arr hcur7 isz44 (by simp; omega) (two_ones rfl) ?_; intro w8 hob8 hgb8 hz8
                  refine ⟨trivial, ?_⟩
                  simp only [Act.put, List.getElem_toArray, List.getElem_cons_zero, List.getElem_cons_succ, List.setIfInBounds_toArray, List.set_cons_zero, List.set_cons_succ]
                  refine wpAnyH_done (by kernel_rfl) ?_ _
                  obtain ⟨b', hb'v, hb'l, q1, q2, q3⟩ := stk_atom (v := subB s p.at_ j) (by show (s.extract _ _).size ≤ maxLen; rw [ByteArray.size_extract]; unfold maxLen; omega) HST5 hacc6 hg6 hgg6 ((HXX1.out.trans HXW).trans hx5) rfl ((HO1.out.ext HXW).ext hx5) harr hcur (.inr ⟨by simpa using hob7, hgb7, fun c hc => by obtain rfl := ob_inj hc hcur7; simpa using hob8, hgb8⟩)
                  have HST7 := Lib.hid q1
                  have HX7 := Lib.hid q2
                  have HO7 := Lib.hid q3
                  have htk' : tokP s p = some ((K ++ [b']).map Lv.l, j) := by
                    have e : p.st = K.map Lv.l ++ [b.l] := by rw [← hL, hK]; simp
                    rw [tok_atom hn40 hn41 HAT.out, HJ.out, e, addLast_snoc, List.map_append, ← hb'l]
                    rfl
                  have HLN7 : ∀ c ∈ K ++ [b'], c.l.length ≤ p.cnt + 1 := lens_snoc (fun c hc' => HLN.out c (by rw [hK]; simp [hc'])) (by rw [hb'l]; simp; exact hbn)
                  clear q1 q2 q3 hacc6 hg6 hgg6 hlt6 hob7 hgb7 hz7 hob8 hgb8 hz8 hx5 HST5 harr hcur hcur7 hcb hbv
                  have htn := tokP_next hlt htk'
                  go_wp2_with (refine wpList_store_rep rfl 44 (.tmp 2) (.tmp 126) rfl w.heap.size 0 rfl [.string ⟨#[]⟩, .slice none 0 0] rfl 44 _ HO7.out isz44 (by simp) zero_ones ?_; intro w9 hob9 hgb9 hzb9; rw [splice_whole (by rfl)] at hob9; have HOB9 := Lib.hid hob9; have HGB9 := Lib.hid hgb9; clear hob9 hgb9 hzb9)
                  all_goals first
                    | (refine bodyPost_ret (results_cell_row_tmp Tryz.results21 _ _ w.heap.size 44 ⟨[.string ⟨#[]⟩, .slice none 0 0]⟩ _ _ _ rfl rfl HOB9.out Tryz.underlying44 rfl isz44) rfl ?_
                       obtain rfl := fail_r HH.out (by rw [← HR.out]; exact prun_none hlt (pstep_fail hnb htk' (by simp; omega)))
                       exact ⟨_, rfl, grown_ext HX7.out HGB9.out (Nat.le_refl _), zeroSx_own _ _⟩)
                    | (refine ⟨⟨⟨(K ++ [b']).map Lv.l, p.cnt + 1, j⟩, g, cap, K ++ [b'], by first | rfl | (simp; done) | (simp; omega), congrArg (Value.int .i64) (by show (_ : Int) = ((p.cnt + 1 : Nat) : Int); omega), congrArg (Value.int .i64) (by show (_ : Int) = ((j : Nat) : Int); omega), rfl, by simp, by simp; omega, by show p.cnt + 1 ≤ 1800; omega, htn.2, HST7.out, HX7.out, HO7.out, ?_, ?_⟩, ?_⟩
                       · exact HLN7
                       · show _ = _
                         rw [← HR.out, prun_next hlt (pstep_tok hnb htk' (by simp; omega))]
                       · have := htn.1
                         simp [intOf]
                         omega)
              · have HJ : Hid (endA s (j + 1) = endA s p.at_) := (endA_next hjl haj).symm.trans HEQ.out
                go_wp2_with fail
                go_roundw
                case rel => exact ⟨j + 1, by go_num, by omega, by omega, HX2.out, HJ.out⟩
                case measure => simp [intOf]; omega
            · have HJ : Hid (endA s p.at_ = j) := HEQ.out.symm.trans (endA_end (by omega))
              go_wp2_with fail
              have HXW : Ext w1 wr := HXQ.out
              obtain ⟨K, b, hK⟩ := snoc1 (L := L) hL1
              have hKl : L.length = K.length + 1 := by rw [hK]; simp
              have HSTW : Hid (Stk (w.heap.size + 1) wr g cap (K ++ [b])) := (hK ▸ HST1.out : Stk (w.heap.size + 1) w1 g cap (K ++ [b])).ext HXW
              obtain ⟨hbA, hbg⟩ := HSTW.out.acc b (by simp)
              obtain ⟨ba, bc, hbv, hbl, hbm⟩ := LAcc.shapeV hbA
              have hcb : wr.cell? ⟨g, 0 + K.length * 1, none⟩ = some b.v := by have := HSTW.out.cell (j := K.length) (by simp); simpa using this
              have hgl4 := HSTW.out.lt
              have hbn := HLN.out b (by rw [hK]; simp)
              have e7 : ((L.length : Int) - 1) = (K.length : Int) := by omega
              simp only [e7]
              refine wp_region_held_drew (S := fun _ => True) (by kernel_rfl) ?_ (fun hHeld => ?_)
              · exact trivial
              refine wpAnyH_take (i := 0) rfl (by kernel_rfl) (by kernel_rfl) (by kernel_rfl) (fun _ _ _ h => h) (.inl ⟨rfl, fun _ _ => rfl⟩) (by assumption) ?_
              simp only [Act.put, List.getElem_toArray, List.getElem_cons_zero, List.setIfInBounds_toArray, List.set_cons_zero, List.set_cons_succ]
              refine wpAnyH_take (i := 1) rfl (by kernel_rfl) (by kernel_rfl) (by kernel_rfl) (fun _ _ _ h => h) (.inl ⟨rfl, fun _ _ => rfl⟩) (by assumption) ?_
              simp only [Act.put, List.getElem_toArray, List.getElem_cons_zero, List.getElem_cons_succ, List.setIfInBounds_toArray, List.set_cons_zero, List.set_cons_succ]
              refine wpAnyH_index (i := 2) rfl (by kernel_rfl) (by kernel_rfl) (by kernel_rfl) rfl 70 (.tmp 102) (.tmp 103) rfl (g) (0) (L.length) (cap) (K.length) (1) rfl rfl ((by omega)) Tryz.underlying70 (by kernel_rfl) (by assumption) (fun _ _ _ _ h => h) ?_
              simp only [Act.put, List.getElem_toArray, List.getElem_cons_zero, List.getElem_cons_succ, List.setIfInBounds_toArray, List.set_cons_zero, List.set_cons_succ]
              refine wpAnyH_take (i := 4) rfl (by kernel_rfl) (by kernel_rfl) (by kernel_rfl) (fun _ _ _ h => h) (.inl ⟨rfl, fun _ _ => rfl⟩) (by assumption) ?_
              simp only [Act.put, List.getElem_toArray, List.getElem_cons_zero, List.getElem_cons_succ, List.setIfInBounds_toArray, List.set_cons_zero, List.set_cons_succ]
              refine wpAnyH_take (i := 5) rfl (by kernel_rfl) (by kernel_rfl) (by kernel_rfl) (fun _ _ _ h => h) (.inl ⟨rfl, fun _ _ => rfl⟩) (by assumption) ?_
              simp only [Act.put, List.getElem_toArray, List.getElem_cons_zero, List.getElem_cons_succ, List.setIfInBounds_toArray, List.set_cons_zero, List.set_cons_succ]
              refine wpAnyH_take (i := 6) rfl (by kernel_rfl) (by kernel_rfl) (by kernel_rfl) (fun _ _ _ h => h) (.inl ⟨rfl, fun _ _ => rfl⟩) (by assumption) ?_
              simp only [Act.put, List.getElem_toArray, List.getElem_cons_zero, List.getElem_cons_succ, List.setIfInBounds_toArray, List.set_cons_zero, List.set_cons_succ]
              refine wpAnyH_take (i := 7) (v := .string (subB s p.at_ j)) rfl (by kernel_rfl) (by kernel_rfl) (by kernel_rfl) (fun _ _ _ h => h) (.inl ⟨rfl, fun _ _ => exec_sub (.tmp 106) (.tmp 107) (.tmp 108) rfl s p.at_ j rfl rfl rfl hj1 hj2⟩) (by assumption) ?_
              simp only [Act.put, List.getElem_toArray, List.getElem_cons_zero, List.getElem_cons_succ, List.setIfInBounds_toArray, List.set_cons_zero, List.set_cons_succ]
              refine wpAnyH_take (i := 8) (v := .agg ⟨[.string (subB s p.at_ j), .slice none 0 0]⟩) rfl (by kernel_rfl) (by kernel_rfl) (by kernel_rfl) (fun _ _ _ h => h) (.inl ⟨rfl, fun _ _ => by simp [execOp, go_sem]⟩) (by assumption) ?_
              simp only [Act.put, List.getElem_toArray, List.getElem_cons_zero, List.getElem_cons_succ, List.setIfInBounds_toArray, List.set_cons_zero, List.set_cons_succ]
              have hx5 : Ext wr (wr.drew.alloc (.cells #[.string ⟨#[]⟩, .slice none 0 0] 44)) := .alloc (.drew (.refl _)) _
              refine wpAnyH_load_len_make (i := 3) (k := 9) (j := 10) (vi := b.v) (vk := .int .i64 (b.l.length : Int)) (vj := .slice (some ⟨(wr).heap.size, 0, none⟩) 1 1) (w' := wr.drew.alloc (.cells #[.string ⟨#[]⟩, .slice none 0 0] 44)) (by kernel_rfl) (by kernel_rfl) (by kernel_rfl) (by kernel_rfl) (by kernel_rfl) rfl rfl rfl rfl rfl rfl rfl rfl rfl (by decide) (by decide) (by decide) (by decide)
                (run_op_load_cell 42 (.tmp 104) rfl g (0 + K.length * 1) rfl b.v _ Tryz.underlying42 rfl hcb)
                (run_op_load_cell 42 (.tmp 104) rfl g (0 + K.length * 1) rfl b.v _ Tryz.underlying42 rfl (by rw [World.cell?_of_block (w := wr) (hx5.block g hgl4)]; exact hcb))
                (by simp [execOp, go_sem, Act.put, hbv]) (by simp [execOp, go_sem, Act.put, hbv]) (by simp [execOp, go_sem, Act.put]) (by simp [execOp, go_sem, Act.put]) (by simp [execOp, go_sem, Act.put]) trivial trivial ?_
              simp only [Act.put, List.getElem_toArray, List.getElem_cons_zero, List.getElem_cons_succ, List.setIfInBounds_toArray, List.set_cons_zero, List.set_cons_succ]
              refine wpAnyH_one (i := 11) (by kernel_rfl) ?_
              have HST5 := HSTW.out.ext hx5
              refine wpOp_append_acc rfl rfl (.tmp 105) (.tmp 112) 42 rfl 44 2 40 Tryz.underlying42 iszc44 (by decide) (by decide) (w.heap.size + 1) (GSExpr.trs b.l) b.l.length (GSExpr.trs_len _) b.v b.S rfl (Acc.ext hbA hx5) (GSExpr.mk s_ []).tr [.string ⟨#[]⟩, .slice none 0 0] (fun _ => False) (GSExpr.tr_len _) (own_atom (Nat.zero_le _)) (fun x h1 h2 => h2) (fun x h => h.elim) (fun x h1 h2 => h2) (wr).heap.size 1 44 rfl (OB.new wr.drew _ _) (by omega) (by have := stk_ge HST5; have := HST5.lt; omega) ?_; intro g2 c2 w6 hacc6 hg6 hgg6 hlt6
              refine ⟨trivial, ?_⟩
              simp only [Act.put, List.getElem_toArray, List.getElem_cons_zero, List.getElem_cons_succ, List.setIfInBounds_toArray, List.set_cons_zero, List.set_cons_succ]
              refine wpAnyH_index (i := 12) rfl (by kernel_rfl) (by kernel_rfl) (by kernel_rfl) rfl 42 (.tmp 113) (.tmp 111) rfl g2 0 (b.l.length + 1) c2 b.l.length 2 rfl rfl (by omega) Tryz.underlying42 (by kernel_rfl) trivial (fun _ _ _ _ h => h) ?_
              simp only [Act.put, List.getElem_toArray, List.getElem_cons_zero, List.getElem_cons_succ, List.setIfInBounds_toArray, List.set_cons_zero, List.set_cons_succ]
              refine wpAnyH_index (i := 14) rfl (by kernel_rfl) (by kernel_rfl) (by kernel_rfl) rfl 70 (.tmp 102) (.tmp 103) rfl g 0 L.length cap K.length 1 rfl rfl (by omega) Tryz.underlying70 (by kernel_rfl) trivial (fun _ _ _ _ h => h) ?_
              simp only [Act.put, List.getElem_toArray, List.getElem_cons_zero, List.getElem_cons_succ, List.setIfInBounds_toArray, List.set_cons_zero, List.set_cons_succ]
              have hne2 : g2 ≠ g := by
                rcases hgg6 with e | e
                · exact fun h => hbg (.inr (h ▸ e))
                · have := HST5.lt; omega
              obtain ⟨arr, harr, harrs⟩ : ∃ arr, OB w6 g2 44 arr ∧ b.l.length * 2 + 2 ≤ arr.size := by
                rcases hacc6.whole with ⟨h, -⟩ | ⟨g', c', arr, h, -, h3, h4, -, h6⟩
                · cases h
                · injection h with h1 h2 h3'
                  injection h1 with h1
                  injection h1 with h1
                  subst h1 h3'
                  refine ⟨arr, h3, ?_⟩
                  have : b.l.length + 1 ≤ c2 := by simpa [GSExpr.trs_len] using h4
                  omega
              obtain ⟨cur, hcur5, hcs, hcl, -, -, -⟩ := HST5.ob
              have hcl : K.length + 1 ≤ cap := by simpa using hcl
              have hcur : OB w6 g 42 cur := (hg6.block g HST5.lt (fun e => hbg (.inr e.symm))).trans hcur5
              refine wpAnyH_two (i := 13) (j := 15) (by kernel_rfl) ?_ ?_
              · refine wpOp_store_rep rfl rfl 44 (.tmp 114) (.tmp 110) rfl g2 (0 + b.l.length * 2) rfl [.string (subB s p.at_ j), .slice none 0 0] rfl 44 arr harr isz44 (by simp; omega) (two_ones rfl) ?_; intro w7 hob7 hgb7 hz7
                refine ⟨trivial, ?_⟩
                simp only [Act.put, List.getElem_toArray, List.getElem_cons_zero, List.getElem_cons_succ, List.setIfInBounds_toArray, List.set_cons_zero, List.set_cons_succ]
                refine wpAnyH_one (i := 15) (by kernel_rfl) ?_
                have hcur7 : OB w7 g 42 cur := (hgb7.block g hcur.lt (fun e => hne2 (Option.some.inj e).symm)).trans hcur
                refine wpOp_store_cell rfl rfl 42 (.tmp 115) (.tmp 113) rfl g (0 + K.length * 1) rfl (.slice (some ⟨g2, 0, none⟩) (b.l.length + 1) c2) rfl rfl 42 cur hcur7 isz42 (by omega) rfl ?_; intro w8 hob8 hgb8 hz8
                refine ⟨trivial, ?_⟩
                simp only [Act.put, List.getElem_toArray, List.getElem_cons_zero, List.getElem_cons_succ, List.setIfInBounds_toArray, List.set_cons_zero, List.set_cons_succ]
                refine wpAnyH_done (by kernel_rfl) ?_ _
                obtain ⟨b', hb'v, hb'l, q1, q2, q3⟩ := stk_atom (v := subB s p.at_ j) (by show (s.extract _ _).size ≤ maxLen; rw [ByteArray.size_extract]; unfold maxLen; omega) HST5 hacc6 hg6 hgg6 ((HXX1.out.trans HXW).trans hx5) rfl ((HO1.out.ext HXW).ext hx5) harr hcur (.inl ⟨by simpa using hob7, hgb7, fun c hc => by obtain rfl := ob_inj hc hcur7; simpa using hob8, hgb8⟩)
                have HST7 := Lib.hid q1
                have HX7 := Lib.hid q2
                have HO7 := Lib.hid q3
                have htk' : tokP s p = some ((K ++ [b']).map Lv.l, j) := by
                  have e : p.st = K.map Lv.l ++ [b.l] := by rw [← hL, hK]; simp
                  rw [tok_atom hn40 hn41 HAT.out, HJ.out, e, addLast_snoc, List.map_append, ← hb'l]
                  rfl
                have HLN7 : ∀ c ∈ K ++ [b'], c.l.length ≤ p.cnt + 1 := lens_snoc (fun c hc' => HLN.out c (by rw [hK]; simp [hc'])) (by rw [hb'l]; simp; exact hbn)
                clear q1 q2 q3 hacc6 hg6 hgg6 hlt6 hob7 hgb7 hz7 hob8 hgb8 hz8 hx5 HST5 harr hcur hcur7 hcb hbv
                have htn := tokP_next hlt htk'
                go_wp2_with (refine wpList_store_rep rfl 44 (.tmp 2) (.tmp 126) rfl w.heap.size 0 rfl [.string ⟨#[]⟩, .slice none 0 0] rfl 44 _ HO7.out isz44 (by simp) zero_ones ?_; intro w9 hob9 hgb9 hzb9; rw [splice_whole (by rfl)] at hob9; have HOB9 := Lib.hid hob9; have HGB9 := Lib.hid hgb9; clear hob9 hgb9 hzb9)
                all_goals first
                  | (refine bodyPost_ret (results_cell_row_tmp Tryz.results21 _ _ w.heap.size 44 ⟨[.string ⟨#[]⟩, .slice none 0 0]⟩ _ _ _ rfl rfl HOB9.out Tryz.underlying44 rfl isz44) rfl ?_
                     obtain rfl := fail_r HH.out (by rw [← HR.out]; exact prun_none hlt (pstep_fail hnb htk' (by simp; omega)))
                     exact ⟨_, rfl, grown_ext HX7.out HGB9.out (Nat.le_refl _), zeroSx_own _ _⟩)
                  | (refine ⟨⟨⟨(K ++ [b']).map Lv.l, p.cnt + 1, j⟩, g, cap, K ++ [b'], by first | rfl | (simp; done) | (simp; omega), congrArg (Value.int .i64) (by show (_ : Int) = ((p.cnt + 1 : Nat) : Int); omega), congrArg (Value.int .i64) (by show (_ : Int) = ((j : Nat) : Int); omega), rfl, by simp, by simp; omega, by show p.cnt + 1 ≤ 1800; omega, htn.2, HST7.out, HX7.out, HO7.out, ?_, ?_⟩, ?_⟩
                     · exact HLN7
                     · show _ = _
                       rw [← HR.out, prun_next hlt (pstep_tok hnb htk' (by simp; omega))]
                     · have := htn.1
                       simp [intOf]
                       omega)
              · refine wpOp_store_cell rfl rfl 42 (.tmp 115) (.tmp 113) rfl g (0 + K.length * 1) rfl (.slice (some ⟨g2, 0, none⟩) (b.l.length + 1) c2) rfl rfl 42 cur hcur isz42 (by omega) rfl ?_; intro w7 hob7 hgb7 hz7
                refine ⟨trivial, ?_⟩
                simp only [Act.put, List.getElem_toArray, List.getElem_cons_zero, List.getElem_cons_succ, List.setIfInBounds_toArray, List.set_cons_zero, List.set_cons_succ]
                refine wpAnyH_one (i := 13) (by kernel_rfl) ?_
                have hcur7 : OB w7 g2 44 arr := (hgb7.block g2 harr.lt (fun e => hne2 (Option.some.inj e))).trans harr
                refine wpOp_store_rep rfl rfl 44 (.tmp 114) (.tmp 110) rfl g2 (0 + b.l.length * 2) rfl [.string (subB s p.at_ j), .slice none 0 0] rfl 44 arr hcur7 isz44 (by simp; omega) (two_ones rfl) ?_; intro w8 hob8 hgb8 hz8
                refine ⟨trivial, ?_⟩
                simp only [Act.put, List.getElem_toArray, List.getElem_cons_zero, List.getElem_cons_succ, List.setIfInBounds_toArray, List.set_cons_zero, List.set_cons_succ]
                refine wpAnyH_done (by kernel_rfl) ?_ _
                obtain ⟨b', hb'v, hb'l, q1, q2, q3⟩ := stk_atom (v := subB s p.at_ j) (by show (s.extract _ _).size ≤ maxLen; rw [ByteArray.size_extract]; unfold maxLen; omega) HST5 hacc6 hg6 hgg6 ((HXX1.out.trans HXW).trans hx5) rfl ((HO1.out.ext HXW).ext hx5) harr hcur (.inr ⟨by simpa using hob7, hgb7, fun c hc => by obtain rfl := ob_inj hc hcur7; simpa using hob8, hgb8⟩)
                have HST7 := Lib.hid q1
                have HX7 := Lib.hid q2
                have HO7 := Lib.hid q3
                have htk' : tokP s p = some ((K ++ [b']).map Lv.l, j) := by
                  have e : p.st = K.map Lv.l ++ [b.l] := by rw [← hL, hK]; simp
                  rw [tok_atom hn40 hn41 HAT.out, HJ.out, e, addLast_snoc, List.map_append, ← hb'l]
                  rfl
                have HLN7 : ∀ c ∈ K ++ [b'], c.l.length ≤ p.cnt + 1 := lens_snoc (fun c hc' => HLN.out c (by rw [hK]; simp [hc'])) (by rw [hb'l]; simp; exact hbn)
                clear q1 q2 q3 hacc6 hg6 hgg6 hlt6 hob7 hgb7 hz7 hob8 hgb8 hz8 hx5 HST5 harr hcur hcur7 hcb hbv
                have htn := tokP_next hlt htk'
                go_wp2_with (refine wpList_store_rep rfl 44 (.tmp 2) (.tmp 126) rfl w.heap.size 0 rfl [.string ⟨#[]⟩, .slice none 0 0] rfl 44 _ HO7.out isz44 (by simp) zero_ones ?_; intro w9 hob9 hgb9 hzb9; rw [splice_whole (by rfl)] at hob9; have HOB9 := Lib.hid hob9; have HGB9 := Lib.hid hgb9; clear hob9 hgb9 hzb9)
                all_goals first
                  | (refine bodyPost_ret (results_cell_row_tmp Tryz.results21 _ _ w.heap.size 44 ⟨[.string ⟨#[]⟩, .slice none 0 0]⟩ _ _ _ rfl rfl HOB9.out Tryz.underlying44 rfl isz44) rfl ?_
                     obtain rfl := fail_r HH.out (by rw [← HR.out]; exact prun_none hlt (pstep_fail hnb htk' (by simp; omega)))
                     exact ⟨_, rfl, grown_ext HX7.out HGB9.out (Nat.le_refl _), zeroSx_own _ _⟩)
                  | (refine ⟨⟨⟨(K ++ [b']).map Lv.l, p.cnt + 1, j⟩, g, cap, K ++ [b'], by first | rfl | (simp; done) | (simp; omega), congrArg (Value.int .i64) (by show (_ : Int) = ((p.cnt + 1 : Nat) : Int); omega), congrArg (Value.int .i64) (by show (_ : Int) = ((j : Nat) : Int); omega), rfl, by simp, by simp; omega, by show p.cnt + 1 ≤ 1800; omega, htn.2, HST7.out, HX7.out, HO7.out, ?_, ?_⟩, ?_⟩
                     · exact HLN7
                     · show _ = _
                       rw [← HR.out, prun_next hlt (pstep_tok hnb htk' (by simp; omega))]
                     · have := htn.1
                       simp [intOf]
                       omega)
    · have hpe : prun s s.size pinit = some p := by rw [← HR.out]; exact prun_end hlt
      by_cases h1 : L.length = 1
      · obtain ⟨a, hLa⟩ : ∃ a, L = [a] := List.length_eq_one_iff.1 h1
        subst hLa
        obtain ⟨haA, -⟩ := HST.out.acc a (by simp)
        obtain ⟨aa, ac, hav, hal, ham⟩ := LAcc.shapeV haA
        have hc0 : wr.cell? ⟨g, 0, none⟩ = some (.slice aa a.l.length ac) := by have := HST.out.cell (j := 0) (by simp); simpa [hav] using this
        have hrep : Rep wr (.row 2 (GSExpr.trs a.l)) (.slice aa a.l.length ac) := hav ▸ Acc.rep haA
        by_cases h2 : a.l.length = 1
        · obtain ⟨x, hx⟩ : ∃ x, a.l = [x] := List.length_eq_one_iff.1 h2
          have hr : bd (iIsValidSExpr_M fu x) (fun v => some (if v = true then (x, true) else (GSExpr.mk s_ [], false))) = some r := by
            have h := HH.out
            unfold parseM at h
            rw [hpe] at h
            dsimp only at h
            have hst : p.st = [[x]] := by rw [← hL, ← hx]; rfl
            rw [hst] at h
            exact h
          obtain ⟨vl, hv, he⟩ := bd_invF hr
          have HV := Lib.hid (iIsValidSExpr_ok fu x vl hv)
          have HE := Lib.hid (Option.some.inj he)
          have htx : (GSExpr.trs a.l)[0]? = some x.tr := by rw [hx]; rfl
          obtain ⟨bb, off, cs, haa, hbb, hcs, hcc⟩ := hrep.at2 (k := 0) htx
          subst haa
          have HCS := Lib.hid hcs
          have HC := Lib.hid hcc
          have HCL : Hid (cs.length = 2) := by rw [← hcs.length, GSExpr.tr_len]; rfl
          have HI : Hid ((Tryz.prog.info? 44).map (·.size) = some cs.length) := by rw [HCL.out]; exact isz44
          have HBB := Lib.hid hbb
          rw [h2] at hc0
          have HC0 := Lib.hid hc0
          clear hrep hr hv he hcs hcc htx
          go_wp2_with (first
            | (refine wpList_load_rep rfl 44 (.tmp 141) rfl bb off rfl cs _ Tryz.underlying44 HI.out (fun j v h => by have := HC.out j v h; simpa using this) ?_)
            | (refine wpList_load_rep_g (by rfl) 44 (.tmp 141) rfl bb off rfl cs _ Tryz.underlying44 HI.out (fun j v h => by have := HC.out j v h; simpa using this) ?_))
          refine (HV.out.plain (w := wr) (vals := [.agg ⟨cs⟩]) ⟨pv_rv HCS.out, trivial⟩).mono ?_; rintro e w1 ⟨rfl, hx1⟩
          have HX1 := Lib.hid hx1
          have HO1 : Hid (OB w1 w.heap.size 44 #[.string ⟨#[]⟩, .slice none 0 0]) := HO.out.ext hx1
          have HXX1 := Lib.hid (HX.out.trans hx1)
          have hc1 : w1.cell? ⟨g, 0, none⟩ = some (.slice (some ⟨bb, off, none⟩) 1 ac) := by rw [World.cell?_of_block (w := wr) (hx1.block g HST.out.lt)]; exact HC0.out
          have HCC1 : Hid (∀ (j : Nat) (v : Value), cs[j]? = some v → w1.cell? ⟨bb, off + j, none⟩ = some v) := fun j v h => by rw [World.cell?_of_block (w := wr) (hx1.block bb HBB.out)]; have := HC.out j v h; simpa using this
          clear hx1
          cases vl
          · have hnr : (GSExpr.mk s_ [], false) = r := HE.out
            go_wp2_with (refine wpList_store_rep rfl 44 (.tmp 2) (.tmp 146) rfl w.heap.size 0 rfl [.string ⟨#[]⟩, .slice none 0 0] rfl 44 _ HO1.out isz44 (by simp) zero_ones ?_; intro w9 hob9 hgb9 hzb9; rw [splice_whole (by rfl)] at hob9; have HOB9 := Lib.hid hob9; have HGB9 := Lib.hid hgb9; clear hob9 hgb9 hzb9)
            refine bodyPost_ret (results_cell_row_tmp Tryz.results21 _ _ w.heap.size 44 ⟨[.string ⟨#[]⟩, .slice none 0 0]⟩ _ _ _ rfl rfl HOB9.out Tryz.underlying44 rfl isz44) rfl ?_
            subst hnr
            exact ⟨_, rfl, grown_ext HXX1.out HGB9.out (Nat.le_refl _), zeroSx_own _ _⟩
          · have hnr : (x, true) = r := HE.out
            go_wp2_with (first
              | (refine wpList_load_rep rfl 44 (.tmp 150) rfl bb off rfl cs _ Tryz.underlying44 HI.out HCC1.out ?_)
              | (refine wpList_store_rep rfl 44 (.tmp 2) (.tmp 151) rfl w.heap.size 0 rfl cs rfl 44 _ HO1.out HI.out (by rw [HCL.out]; exact Nat.le_refl _) HCS.out.one ?_; intro w9 hob9 hgb9 hzb9; rw [splice_whole (by rw [HCL.out]; rfl)] at hob9; have HOB9 := Lib.hid hob9; have HGB9 := Lib.hid hgb9; clear hob9 hgb9 hzb9))
            refine bodyPost_ret (results_cell_row_tmp Tryz.results21 _ _ w.heap.size 44 ⟨cs⟩ _ _ _ rfl rfl HOB9.out Tryz.underlying44 rfl HI.out) rfl ?_
            subst hnr
            refine ⟨cs, rfl, grown_ext HXX1.out HGB9.out (Nat.le_refl _), ?_⟩
            have hA9 : LAcc (w.heap.size + 1) w9 a := Acc.keep (Acc.ext haA HX1.out) HGB9.out.size fun b hb hl => HGB9.out.block b hl fun e => by
              have := (LAcc.lt haA hb).1
              have e := Option.some.inj e
              omega
            have hown9 : Own w9 (.row 2 [x.tr]) (.slice (some ⟨bb, off, none⟩) a.l.length ac) a.S := by
              have h := Acc.own hA9
              rw [hav, hx] at h
              exact hx ▸ h
            obtain ⟨b9, off9, cs9, e9, hSb9, hcs9, hcc9⟩ := Own.at0 hown9
            injection e9 with e9
            injection e9 with e91 e92
            subst e91 e92
            have hbown : w.heap.size + 1 ≤ bb := (LAcc.lt haA (.inl hSb9)).1
            have hcl9 : cs9.length = 2 := by rw [hcs9.1, GSExpr.tr_len]
            have : cs9 = cs := by
              apply List.ext_getElem?
              intro j
              rcases Nat.lt_or_ge j 2 with hj | hj
              · have hj1 : j < cs.length := by rw [HCL.out]; exact hj
                have hj9 : j < cs9.length := by rw [hcl9]; exact hj
                have h1 := HCC1.out j cs[j] (List.getElem?_eq_getElem hj1)
                have h2 := hcc9 j cs9[j] (List.getElem?_eq_getElem hj9)
                rw [World.cell?_of_block (w := w1) (HGB9.out.block bb (Nat.lt_of_lt_of_le HBB.out HX1.out.size) (fun e => by have e := Option.some.inj e; omega))] at h2
                rw [List.getElem?_eq_getElem hj9, List.getElem?_eq_getElem hj1]
                have h2' : w1.cell? ⟨bb, off + j, none⟩ = some cs9[j] := by simpa using h2
                rw [h1] at h2'
                exact h2'.symm
              · rw [List.getElem?_eq_none (by rw [hcl9]; exact hj), List.getElem?_eq_none (by rw [HCL.out]; exact hj)]
            subst this
            exact hcs9.mono fun y hy => ⟨by have := (LAcc.lt hA9 (.inl hy)).1; omega, (LAcc.lt hA9 (.inl hy)).2⟩
        · have hnr : r = (.mk s_ [], false) := by
            have h := HH.out
            unfold parseM at h
            rw [hpe] at h
            have hst : p.st = [a.l] := by rw [← hL]; rfl
            dsimp only at h
            rw [hst] at h
            match hq : a.l with
            | [] => rw [hq] at h; exact (Option.some.inj h).symm
            | [x] => rw [hq] at h2; exact absurd rfl h2
            | x :: y :: t => rw [hq] at h; exact (Option.some.inj h).symm
          clear hrep
          go_wp2_with (refine wpList_store_rep rfl 44 (.tmp 2) (.tmp 146) rfl w.heap.size 0 rfl [.string ⟨#[]⟩, .slice none 0 0] rfl 44 _ HO.out isz44 (by simp) zero_ones ?_; intro w9 hob9 hgb9 hzb9; rw [splice_whole (by rfl)] at hob9; have HOB9 := Lib.hid hob9; have HGB9 := Lib.hid hgb9; clear hob9 hgb9 hzb9)
          refine bodyPost_ret (results_cell_row_tmp Tryz.results21 _ _ w.heap.size 44 ⟨[.string ⟨#[]⟩, .slice none 0 0]⟩ _ _ _ rfl rfl HOB9.out Tryz.underlying44 rfl isz44) rfl ?_
          subst hnr
          exact ⟨_, rfl, grown_ext HX.out HGB9.out (Nat.le_refl _), zeroSx_own _ _⟩
      · have hnr : r = (.mk s_ [], false) := by
          have h := HH.out
          unfold parseM at h
          rw [hpe] at h
          dsimp only at h
          rw [← hL] at h
          match L, h1, h with
          | [], _, h => exact (Option.some.inj h).symm
          | [a], h1, _ => exact absurd rfl h1
          | a :: b :: K, _, h =>
            simp only [List.map_cons] at h
            generalize a.l = q at h
            match q, h with
            | [], h => exact (Option.some.inj h).symm
            | [x], h => exact (Option.some.inj h).symm
            | x :: y :: t, h => exact (Option.some.inj h).symm
        go_wp2_with (refine wpList_store_rep rfl 44 (.tmp 2) (.tmp 146) rfl w.heap.size 0 rfl [.string ⟨#[]⟩, .slice none 0 0] rfl 44 _ HO.out isz44 (by simp) zero_ones ?_; intro w9 hob9 hgb9 hzb9; rw [splice_whole (by rfl)] at hob9; have HOB9 := Lib.hid hob9; have HGB9 := Lib.hid hgb9; clear hob9 hgb9 hzb9)
        refine bodyPost_ret (results_cell_row_tmp Tryz.results21 _ _ w.heap.size 44 ⟨[.string ⟨#[]⟩, .slice none 0 0]⟩ _ _ _ rfl rfl HOB9.out Tryz.underlying44 rfl isz44) rfl ?_
        subst hnr
        exact ⟨_, rfl, grown_ext HX.out HGB9.out (Nat.le_refl _), zeroSx_own _ _⟩
end Go.Proofs.YtmpepccpnnldoaaGreat

namespace Go.Proofs.YtmpepccpnnldoaaGreat
set_option linter.unusedSimpArgs false
set_option linter.unusedVariables false
open Go.RowKit Go.Proofs

/-- A function that is handed data and returns a struct of its own making and a bool computes. -/
theorem AFun.ofFreshLB {P : Program} {f : FuncId} {args : List PV} {ts : List Tr} {b : Bool} (hfr : freeL args = true) (h : ∀ w vals, RVL0 w args vals → Calls P f ⟨vals⟩ w fun e w' => ∃ cs, e = .returned (.tuple #[.agg ⟨cs⟩, .bool b]) ∧ Ext w w' ∧ OwnL w' ts cs (Between w w')) : AFun P f args (.tup [.agg (ts.map PV.t), .t (.leaf (.bool b))]) := fun av m w vals hst hv => by
  refine (h w vals (freeL.rv (fun b o _ _ => ok0 b o) args vals hfr hv)).mono fun e w' => ?_; rintro ⟨cs, rfl, hx, ho⟩
  refine ⟨.tup [.agg (ts.map PV.t), .t (.leaf (.bool b))], ⟨[], []⟩, m, .tuple #[.agg ⟨cs⟩, .bool b], rfl, ⟨rfl, rfl⟩, StoOk.nil fun b o hb => Nat.lt_of_lt_of_le (hst.avlt b o hb) hx.size, ?_, ?_⟩
  · exact ⟨hx.os, hx.tape, hx.output, hx.size, fun b hb _ _ => hx.block b hb, fun b o hb _ => heap_other_cell (hx.block b hb), fun _ _ _ h => h, fun _ _ h => by simp at h, fun _ _ h => by simp at h, fun _ _ h => by simp at h, fun _ _ _ _ h => by simp at h⟩
  · obtain ⟨hl, T, h1, h2, -⟩ := ho
    refine ⟨[.agg ⟨cs⟩, .bool b], rfl, ⟨cs, rfl, RVL.ofGet hl fun j d hd => ?_⟩, .leaf trivial, trivial⟩
    obtain ⟨v, hv, ho⟩ := h1 j d hd
    exact ⟨v, hv, ho.repM fun b o hb _ => ⟨fun ha => by have := hst.avlt b o ha; have := (h2 j d hd b hb).1; omega, fun _ _ h => by simp at h, fun _ _ _ _ h => by simp at h⟩⟩
theorem iParseSExpr_ok (fu : Nat) : iParseSExpr_T (iParseSExpr_M fu) := by
  intro ps r H
  unfold iParseSExpr_M at H
  by_cases hs : ps.size ≤ 1099511627776
  · rw [gdT hs rfl] at H
    rw [GSExpr.pv_eq]
    refine AFun.ofFreshLB rfl fun w vals hv => ?_
    match vals, hv with
    | [v0], hv =>
      obtain rfl := (RepM.rep (show RepM _ _ (.leaf (.string ps)) v0 from hv.1)).leaf_eq.1
      exact parse_walk fu ps hs r H w
  · rw [gdF hs] at H
    cases H
end Go.Proofs.YtmpepccpnnldoaaGreat

namespace Go.Proofs.YtmpepccpnnldoaaGreat
set_option maxRecDepth 100000
set_option maxHeartbeats 40000000
noncomputable section
open Go.RowKit Go.Proofs
set_option linter.unusedSimpArgs false
set_option linter.unusedVariables false

attribute [local irreducible] lt

def HasPrefix_T (m : ByteArray → ByteArray → Option Bool) : Prop := ∀ (ps : ByteArray) (pprefix : ByteArray) (r : Bool), m ps pprefix = some r → AFun Tryz.prog 95 [pS ps, pS pprefix] (pB r : PV)
def HasPrefix_M (fu : Nat) (ps pprefix : ByteArray) : Option Bool :=
 sw (decide ((((ps.size : Nat) : Int) : Int) ≥ ((pprefix.size : Nat) : Int)))
 (gd ((0 : Int) ≤ 0 ∧ (0 : Int) ≤ ((pprefix.size : Nat) : Int) ∧ (((pprefix.size : Nat) : Int) : Int) ≤ ((ps.size : Nat) : Int))
 (some (decide (ps.extract (0 : Int).toNat (((pprefix.size : Nat) : Int) : Int).toNat = pprefix))))
 (some false)
theorem HasPrefix_ok (fu : Nat)   : HasPrefix_T (HasPrefix_M fu) := by
  intro ps pprefix r H
  have H := hd0 H
  refine qI Tryz.func95 (fun C hC => ?_)
  refine qS (qR (q1 rMv (qN (qS (qR (q1 rMv (q1 (AOp.lenS rfl rfl rfl Tryz.underlying9) (q1 rMv (q1 (AOp.lenS rfl rfl rfl Tryz.underlying9) (q1 rGe (q1 rMv ?_)))))))))))
  refine spB 10 H (fun g1 H => ?_) fun g1 H => ?_
  · refine qg g1 rMv (qg g1 rMv (qg g1 (AOp.lenS rfl rfl rfl Tryz.underlying9) (gdE H fun z2 H => (qg g1 (AOp.sliceS (l := 0) (k := ((pprefix.size : Nat) : Int)) rfl rfl rfl rfl rfl z2 Tryz.underlying9) (qg g1 rMv (qg g1 rSe (q1 (rPt g1) (q1 rMv (qN (AWP.ret ?_))))))))))
    obtain rfl : _ = r := (smI H :)
    exact qe1
  iterate 6 refine qk g1 ?_
  refine q1 (rPf g1) (q1 rMv (qN (AWP.ret ?_)))
  obtain rfl : _ = r := (smI H :)
  exact qe1

def CutPrefix_T (m : ByteArray → ByteArray → Option (ByteArray × Bool)) : Prop := ∀ (ps : ByteArray) (pprefix : ByteArray) (r : ByteArray × Bool), m ps pprefix = some r → AFun Tryz.prog 74 [pS ps, pS pprefix] (.tup [pS r.1, pB r.2] : PV)
def CutPrefix_M (fu : Nat) (ps pprefix : ByteArray) : Option (ByteArray × Bool) :=
 bd (HasPrefix_M fu ps pprefix) (fun x2 =>
 sw (!(x2))
 (some (ps, false))
 (gd ((0 : Int) ≤ ((pprefix.size : Nat) : Int) ∧ (((pprefix.size : Nat) : Int) : Int) ≤ ((ps.size : Nat) : Int) ∧ (((ps.size : Nat) : Int) : Int) ≤ ((ps.size : Nat) : Int))
 (some ((ps.extract (((pprefix.size : Nat) : Int) : Int).toNat (((ps.size : Nat) : Int) : Int).toNat), true))))
theorem CutPrefix_ok (fu : Nat)   : CutPrefix_T (CutPrefix_M fu) := by
  intro ps pprefix r H
  have H := hd0 H
  refine qI Tryz.func74 (fun C hC => ?_)
  refine qS (qR ?_)
  iterate 2 refine q1 rMv ?_
  refine qN ?_
  iterate 2 refine qS ?_
  refine qR ?_
  iterate 2 refine q1 rMv ?_
  refine bdE H fun x2 z1 H => (q1 (rCf Tryz.func95 (HasPrefix_ok fu ps pprefix _ z1)) (q1 rNo (qN ?_)))
  refine cndB H (fun h3 H => ?_) (fun h3 H => ?_)
  · refine qS (qR ?_)
    iterate 3 refine q1 rMv ?_
    refine qN (AWP.ret ?_)
    obtain rfl : _ = r := (smI H :)
    exact qe2
  refine AWP.skip (qS (qR ?_))
  iterate 2 refine q1 rMv ?_
  refine q1 (AOp.lenS rfl rfl rfl Tryz.underlying9) (gdE H fun z4 H => (q1 (AOp.sliceS (l := ((pprefix.size : Nat) : Int)) (k := ((ps.size : Nat) : Int)) rfl rfl rfl rfl rfl z4 Tryz.underlying9) ?_))
  iterate 2 refine q1 rMv ?_
  refine qN (AWP.ret ?_)
  obtain rfl : _ = r := (smI H :)
  exact qe2

def stringsCutPrefix_T (m : ByteArray → ByteArray → Option (ByteArray × Bool)) : Prop := ∀ (ps : ByteArray) (pprefix : ByteArray) (r : ByteArray × Bool), m ps pprefix = some r → AFun Tryz.prog 43 [pS ps, pS pprefix] (.tup [pS r.1, pB r.2] : PV)
def stringsCutPrefix_M (fu : Nat) (ps pprefix : ByteArray) : Option (ByteArray × Bool) :=
 bd (CutPrefix_M fu ps pprefix) (fun (x2, x3) =>
 some (x2, x3))
theorem stringsCutPrefix_ok (fu : Nat)   : stringsCutPrefix_T (stringsCutPrefix_M fu) := by
  intro ps pprefix r H
  have H := hd0 H
  refine qI Tryz.func43 (fun C hC => ?_)
  refine qS (qR ?_)
  iterate 2 refine q1 rMv ?_
  refine qN (qS (qR ?_))
  iterate 2 refine q1 rMv ?_
  refine bdE2 H fun x2 x3 z1 H => (q1 (rCf Tryz.func74 (CutPrefix_ok fu ps pprefix _ z1)) ?_)
  iterate 2 refine q1 rEx ?_
  iterate 2 refine q1 rMv ?_
  refine qN (AWP.ret ?_)
  obtain rfl : _ = r := (smI H :)
  exact qe2

def ivarType_T (m : ByteArray → Option GType) : Prop := ∀ (pname : ByteArray) (r : GType), m pname = some r → AFun Tryz.prog 44 [pS pname] ((GType.pv r) : PV)
def ivarType_M (fu : Nat) (pname : ByteArray) : Option GType :=
 some (GType.mk 1 pname [])
theorem ivarType_ok (fu : Nat)   : ivarType_T (ivarType_M fu) := by
  intro pname r H
  have H := hd0 H
  refine qI Tryz.func44 (fun C hC => ?_)
  refine qS (qR (q1 (rAl zr26) (qN (qS (qR (q1 rMv (q1 (rBd zr26 pl26) (q1 (rSu sz26) (qN (AWP.ret ?_))))))))))
  obtain rfl : _ = r := (smI H :)
  exact qe1 (hr := ⟨⟨_, _, _, rfl, rfl, sh26, rfl, rfl⟩, trivial⟩)

def idynType_T (m : ByteArray → Option GType) : Prop := ∀ (ptrait : ByteArray) (r : GType), m ptrait = some r → AFun Tryz.prog 45 [pS ptrait] ((GType.pv r) : PV)
def idynType_M (fu : Nat) (ptrait : ByteArray) : Option GType :=
 some (GType.mk 4 ptrait [])
theorem idynType_ok (fu : Nat)   : idynType_T (idynType_M fu) := by
  intro ptrait r H
  have H := hd0 H
  refine qI Tryz.func45 (fun C hC => ?_)
  refine qS (qR (q1 (rAl zr26) (qN (qS (qR (q1 rMv (q1 (rBd zr26 pl26) (q1 (rSu sz26) (qN (AWP.ret ?_))))))))))
  obtain rfl : _ = r := (smI H :)
  exact qe1 (hr := ⟨⟨_, _, _, rfl, rfl, sh26, rfl, rfl⟩, trivial⟩)

abbrev idecodeType_Y := GSExpr → Option GType
abbrev idecodeTypes_Y := (List GSExpr) → Option ((List GType))
def idecodeType_T (m : idecodeType_Y) : Prop := ∀ (px : GSExpr) (r : GType), m px = some r → AFun Tryz.prog 22 [(GSExpr.pv px)] ((GType.pv r) : PV)
def idecodeTypes_T (m : idecodeTypes_Y) : Prop := ∀ (pl : List GSExpr) (r : (List GType)), m pl = some r → AFun Tryz.prog 46 [rSExpr pl] (rType r : PV)
def idecodeType_G (fu : Nat) (r_idecodeType : idecodeType_Y) (r_idecodeTypes : idecodeTypes_Y) (px : GSExpr) : Option GType :=
 sw (!decide (px.gAtom = s_))
 (bd (stringsCutPrefix_M fu px.gAtom x_27) (fun (x3, x4) =>
 sw (x4)
 (bd (ivarType_M fu x3) (fun x7 =>
 some x7))
 (some (GType.mk 2 px.gAtom []))))
 (sw (decide ((((px.gList.length : Nat) : Int) : Int) < 2))
 (some (GType.mk 0 s_ []))
 (gd (0 < (px.gList).length)
 (sw (decide ((atD px.gList 0).gAtom = s_dyn))
 (gd (1 < (px.gList).length)
 (bd (idynType_M fu ((atD px.gList 1).gAtom)) (fun x13 =>
 some x13)))
 (sw (decide ((atD px.gList 0).gAtom = s_assoc))
 (gd (1 < (px.gList).length)
 (gd ((0 : Int) ≤ 2 ∧ (2 : Int) ≤ ((px.gList.length : Nat) : Int) ∧ (((px.gList.length : Nat) : Int) : Int) ≤ ((px.gList.length : Nat) : Int))
 (bd (r_idecodeTypes (List.drop (2 : Int).toNat (List.take (((px.gList.length : Nat) : Int) : Int).toNat px.gList))) (fun x18 =>
 some (GType.mk 3 ((atD px.gList 1).gAtom) x18)))))
 (gd ((0 : Int) ≤ 1 ∧ (1 : Int) ≤ ((px.gList.length : Nat) : Int) ∧ (((px.gList.length : Nat) : Int) : Int) ≤ ((px.gList.length : Nat) : Int))
 (bd (r_idecodeTypes (List.drop (1 : Int).toNat (List.take (((px.gList.length : Nat) : Int) : Int).toNat px.gList))) (fun x21 =>
 some (GType.mk 2 ((atD px.gList 0).gAtom) x21))))))))
theorem idecodeType_step (fu : Nat) (r_idecodeType : idecodeType_Y) (r_idecodeTypes : idecodeTypes_Y) (h_idecodeType : idecodeType_T r_idecodeType) (h_idecodeTypes : idecodeTypes_T r_idecodeTypes) : idecodeType_T (idecodeType_G fu r_idecodeType r_idecodeTypes) := by
  intro px r H
  have H := hd0 H
  refine qI Tryz.func22 (fun C hC => ?_)
  refine qS (qR (q1 (rBx ([pS px.gAtom, rSExpr px.gList])) (q1 (rAl zr26) (qN ?_))))
  iterate 2 refine qS ?_
  refine qR (q1 (rFp fo44_0) (q1 (rL1 sh9) (q1 rSn (qN ?_))))
  refine cndB H (fun h1 H => ?_) (fun h1 H => ?_)
  · refine qS (qS (qR (q1 (rFp fo44_0) (q1 (rL1 sh9) (bdE2 H fun x3 x4 z2 H => (q1 (rCf Tryz.func43 (stringsCutPrefix_ok fu px.gAtom x_27 _ z2)) (q1 rMv ?_)))))))
    iterate 2 refine q1 rEx ?_
    iterate 2 refine q1 rMv ?_
    refine qN (qS (qR (q1 rMv (qN ?_))))
    refine cndB H (fun h5 H => ?_) (fun h5 H => ?_)
    · refine qS (qR (q1 rMv (bdE H fun x7 z6 H => (q1 (rCf Tryz.func44 (ivarType_ok fu x3 _ z6)) (q1 (rSu sz26) (qN (AWP.ret ?_)))))))
      obtain rfl : _ = r := (smI H :)
      exact qe1 (hr := ⟨⟨_, _, _, rfl, rfl, sh26, rfl, rfl⟩, trivial⟩)
    refine AWP.skip (qS (qR (q1 (rFp fo44_0) (q1 (rL1 sh9) (q1 (rBd zr26 pl26) (q1 (rSu sz26) (qN (AWP.ret ?_))))))))
    obtain rfl : _ = r := (smI H :)
    exact qe1 (hr := ⟨⟨_, _, _, rfl, rfl, sh26, rfl, rfl⟩, trivial⟩)
  refine AWP.skip ?_
  iterate 2 refine qS ?_
  refine qR (q1 (rFp fo44_1) (q1 (rL1 sh42) (q1 (rLn el42 (GSExpr.trs_len _)) (q1 rLt (qN ?_)))))
  refine cndB H (fun h8 H => ?_) (fun h8 H => ?_)
  · have h8n : px.gList.length < 2 := by have := of_decide_eq_true h8; omega
    refine qS (qR (q1 (rBd zr26 pl26) (q1 (rSu sz26) (qN (AWP.ret ?_)))))
    obtain rfl : _ = r := (smI H :)
    exact qe1 (hr := ⟨⟨_, _, _, rfl, rfl, sh26, rfl, rfl⟩, trivial⟩)
  refine AWP.skip (qS (qR (q1 (rFp fo44_1) (q1 (rL1 sh42) (gdE H fun z9 H => (q1 (rIx z9 el42) (q1 (rFe fo44_0) (q1 (rK1 sh9) (q1 rMv (qN ?_))))))))))
  iterate 2 refine qS ?_
  refine qR (q1 rMv (q1 rSe (qN ?_)))
  refine cndB H (fun h10 H => ?_) (fun h10 H => ?_)
  · refine qS (qR (q1 (rFp fo44_1) (q1 (rL1 sh42) (gdE H fun z11 H => (q1 (rIx z11 el42) (q1 (rFe fo44_0) (q1 (rK1 sh9) (bdE H fun x13 z12 H => (q1 (rCf Tryz.func45 (idynType_ok fu ((atD px.gList 1).gAtom) _ z12)) (q1 (rSu sz26) (qN (AWP.ret ?_))))))))))))
    obtain rfl : _ = r := (smI H :)
    exact qe1 (hr := ⟨⟨_, _, _, rfl, rfl, sh26, rfl, rfl⟩, trivial⟩)
  refine AWP.skip ?_
  iterate 2 refine qS ?_
  refine qR (q1 rMv (q1 rSe (qN ?_)))
  refine cndB H (fun h14 H => ?_) (fun h14 H => ?_)
  · refine qS (gdE H fun z15 H => (gdE H fun z16 H => (bdE H fun x18 z17 H => (dW (dI [1] (rFp fo44_1) (dD [41] (rL1 sh42) (dI [42] (rIx z15 el42) (dI [43] (rFe fo44_0) (dI [44] (rK1 sh9) (dI [1] (rFp fo44_1) (dD [46] (rL1 sh42) ?_)))))))))))
    refine dI [47] (AOp.congrP (AOp.sliceR (es := GSExpr.trs (px.gList)) (l := 2) (k := ((px.gList.length : Nat) : Int)) rfl rfl rfl rfl rfl (by rw [GSExpr.trs_len]; exact rfl) (by rw [GSExpr.trs_len]; exact z16) el42) (GSExpr.trs_part _ _ _)) ?_; refine dI [48] (rCf Tryz.func46 (h_idecodeTypes (List.drop (2 : Int).toNat (List.take (((px.gList.length : Nat) : Int) : Int).toNat px.gList)) _ z17)) (dI [45, 49] (rBd zr26 pl26) (dE0 [2, 50] (rSu sz26) (dN (AWP.ret ?_))))
    obtain rfl : _ = r := (smI H :)
    exact qe1 (hr := ⟨⟨_, _, _, rfl, rfl, sh26, rfl, rfl⟩, trivial⟩)
  refine AWP.skip (qS (qR (q1 rMv (q1 (rFp fo44_1) (q1 (rL1 sh42) (gdE H fun z19 H => ?_))))))
  refine q1 (AOp.congrP (AOp.sliceR (es := GSExpr.trs (px.gList)) (l := 1) (k := ((px.gList.length : Nat) : Int)) rfl rfl rfl rfl rfl (by rw [GSExpr.trs_len]; exact rfl) (by rw [GSExpr.trs_len]; exact z19) el42) (GSExpr.trs_part _ _ _)) ?_; refine bdE H fun x21 z20 H => (q1 (rCf Tryz.func46 (h_idecodeTypes (List.drop (1 : Int).toNat (List.take (((px.gList.length : Nat) : Int) : Int).toNat px.gList)) _ z20)) (q1 (rBd zr26 pl26) (q1 (rSu sz26) (qN (AWP.ret ?_)))))
  obtain rfl : _ = r := (smI H :)
  exact qe1 (hr := ⟨⟨_, _, _, rfl, rfl, sh26, rfl, rfl⟩, trivial⟩)
def idecodeTypes_F1 (fu : Nat) (r_idecodeType : idecodeType_Y) (r_idecodeTypes : idecodeTypes_Y) (pl : List GSExpr) : Nat → ((List GType)) → Option (LR ((List GType)) ((List GType))) :=
 fun i1 v3 => bd (r_idecodeType (atD pl i1)) (fun x7 =>
 gd ((v3).length + (([x7] : List GType)).length ≤ 68719476736)
 (some (.next (v3 ++ ([x7] : List GType)))))
def idecodeTypes_R1 (fu : Nat) (r_idecodeType : idecodeType_Y) (r_idecodeTypes : idecodeTypes_Y) (pl : List GSExpr) : Option (((List GType)) ⊕ ((List GType))) :=
 loopN (idecodeTypes_F1 fu r_idecodeType r_idecodeTypes pl) (pl.length - 0) 0 ([])
def idecodeTypes_G (fu : Nat) (r_idecodeType : idecodeType_Y) (r_idecodeTypes : idecodeTypes_Y) (pl : List GSExpr) : Option ((List GType)) :=
 so (idecodeTypes_R1 fu r_idecodeType r_idecodeTypes pl) (fun v3 =>
 some v3)
theorem idecodeTypes_step (fu : Nat) (r_idecodeType : idecodeType_Y) (r_idecodeTypes : idecodeTypes_Y) (h_idecodeType : idecodeType_T r_idecodeType) (h_idecodeTypes : idecodeTypes_T r_idecodeTypes) : idecodeTypes_T (idecodeTypes_G fu r_idecodeType r_idecodeTypes) := by
  intro pl r H
  have H := hd0 H
  refine qI Tryz.func46 (fun C hC => ?_)
  refine qS (qR (q1 rMv (qN (qS (qR (q1 (rBa ([] : List GType) el24 zr26) (q1 rMv (qN ?_))))))))
  iterate 2 refine qS ?_
  refine qR (q1 rMv (q1 (rLn el42 (GSExpr.trs_len _)) (q1 rMv (qN ?_))))
  refine lenF 0 (GSExpr.trs_len _) (fun hl4 => ?_)
  refine loopB (σ := (List GType)) (fun i1 v3 => ⟨[(2, .nil), (3, aType v3 0), (7, rSExpr pl), (8, pN pl.length), (9, pN i1)], ⟨[], [⟨26, 3, GType.trs (v3), false⟩]⟩⟩) (fun v3 => ⟨[(2, .nil), (3, aType v3 0)], ⟨[], [⟨26, 3, GType.trs (v3), false⟩]⟩⟩) (soI H) ?_ ?_
  · rintro i1 v3 H
    refine qS (qR (q1 rLt (qN (qS ?_))))
    refine cndL H (fun h5 h5l H => ?_) (fun h5 H => ?_)
    · have h5n := nat_lt_of h5
      refine AWP.skip (qS (AWP.block (qS (qR (q1 (rIx h5n el42) (q1 (rKe (GSExpr.cs (atD pl i1)) sh44) (q1 (rAl zr44) (q1 (rSu sz44) (qN (qR (q1 rMv (q1 (rLp [pS ((atD pl i1).gAtom), rSExpr ((atD pl i1).gList)] sh44) (bdE H fun x7 z6 H => ?_)))))))))))))
      refine q1 (rCf Tryz.func22 (h_idecodeType (atD pl i1) _ z6)) (q1 (rBs ([x7] : List GType) el24 zr26) (gdE H fun z8 H => (q1 (rAp z8 el24 ze24) (q1 rMv (qN (qR (q1 (AOp.addI rfl rfl rfl rfl (c := ((i1 + 1 : Nat) : Int)) (by omega) (by omega)) (q1 rMv (qN ?_)))))))))
      exact lpN h5l ⟨_, (smI H :), wkA⟩
    refine AWP.exit ?_; exact lpX ⟨_, H, wkA⟩
  rintro v3 H
  refine qS (qR ?_)
  iterate 2 refine q1 rMv ?_
  refine qN (AWP.ret ?_)
  obtain rfl : _ = r := (smI H :)
  exact qe1
mutual
def idecodeType_M : Nat → GSExpr → Option GType
  | 0, _ => none
  | fu + 1, px => idecodeType_G fu (idecodeType_M fu) (idecodeTypes_M fu) px
def idecodeTypes_M : Nat → (List GSExpr) → Option ((List GType))
  | 0, _ => none
  | fu + 1, pl => idecodeTypes_G fu (idecodeType_M fu) (idecodeTypes_M fu) pl
end
theorem idecodeType_all (fu : Nat) : idecodeType_T (idecodeType_M fu) ∧ idecodeTypes_T (idecodeTypes_M fu) := by
  induction fu with
  | zero => exact ⟨(fun px r H => by simp only [idecodeType_M] at H; cases H), (fun pl r H => by simp only [idecodeTypes_M] at H; cases H)⟩
  | succ fu ih => exact ⟨(fun px r H => by simp only [idecodeType_M] at H; exact idecodeType_step fu (idecodeType_M fu) (idecodeTypes_M fu) ih.1 ih.2 px r H), (fun pl r H => by simp only [idecodeTypes_M] at H; exact idecodeTypes_step fu (idecodeType_M fu) (idecodeTypes_M fu) ih.1 ih.2 pl r H)⟩
theorem idecodeType_ok (fu : Nat) : idecodeType_T (idecodeType_M fu) := (idecodeType_all fu).1
def iParseGoal_T (m : ByteArray → Option (GBound × Bool)) : Prop := ∀ (ps : ByteArray) (r : GBound × Bool), m ps = some r → AFun Tryz.prog 7 [pS ps] (.tup [(GBound.pv r.1), pB r.2] : PV)
def iParseGoal_M (fu : Nat) (ps : ByteArray) : Option (GBound × Bool) :=
 bd (iParseSExpr_M fu ps) (fun (x2, x3) =>
 sw (!(x3))
 (some ((GBound.mk s_ (GType.mk 0 s_ [])), false))
 (sw (!decide ((((x2.gList.length : Nat) : Int) : Int) = 2))
 (some ((GBound.mk s_ (GType.mk 0 s_ [])), false))
 (gd (0 < (x2.gList).length)
 (gd (1 < (x2.gList).length)
 (bd (idecodeType_M fu (atD x2.gList 1)) (fun x9 =>
 bd (iIsValidBound_M fu (GBound.mk ((atD x2.gList 0).gAtom) x9)) (fun x11 =>
 sw (!(x11))
 (some ((GBound.mk s_ (GType.mk 0 s_ [])), false))
 (bd (iFormatGoal_M fu (GBound.mk ((atD x2.gList 0).gAtom) x9)) (fun x14 =>
 sw (!decide (x14 = ps))
 (some ((GBound.mk s_ (GType.mk 0 s_ [])), false))
 (some ((GBound.mk ((atD x2.gList 0).gAtom) x9), true)))))))))))
theorem iParseGoal_ok (fu : Nat)   : iParseGoal_T (iParseGoal_M fu) := by
  intro ps r H
  have H := hd0 H
  refine qI Tryz.func7 (fun C hC => ?_)
  refine qS (qR (q1 (rAl zr28) (q1 rMv (qN (qS (qR (q1 rMv (bdE2 H fun x2 x3 z1 H => (q1 (rCf Tryz.func21 (iParseSExpr_ok fu ps _ z1)) (q1 rMv ?_))))))))))
  iterate 2 refine q1 rEx ?_
  refine q1 (rAl zr44) (q1 (rSu sz44) (q1 rMv (qN ?_)))
  iterate 2 refine qS ?_
  refine qR (q1 rMv (q1 rNo (q1 rMv ?_)))
  refine spB 14 H (fun g4 H => ?_) fun g4 H => ?_
  · refine qk g4 ?_
    iterate 3 refine qk g4 ?_
    refine q1 (rPt g4) (qN (cndT rfl (qS (qR (q1 (rBd zr28 pl28) (q1 (rSu sz28) (q1 rMv (qN (AWP.ret ?_)))))))))
    obtain rfl : _ = r := (smI H :)
    exact qe2 (hr := ⟨⟨_, _, _, rfl, rfl, sh28, rfl, rfl⟩, rfl, trivial⟩)
  refine qg g4 (rFp fo44_1) (qg g4 (rL1 sh42) (qg g4 (rLn el42 (GSExpr.trs_len _)) (qg g4 rNe (q1 (rPf g4) (qN ?_)))))
  refine cndB H (fun h5 H => ?_) (fun h5 H => ?_)
  · refine qS (qR (q1 (rBd zr28 pl28) (q1 (rSu sz28) (q1 rMv (qN (AWP.ret ?_))))))
    obtain rfl : _ = r := (smI H :)
    exact qe2 (hr := ⟨⟨_, _, _, rfl, rfl, sh28, rfl, rfl⟩, rfl, trivial⟩)
  refine AWP.skip (qS (gdE H fun z6 H => (gdE H fun z7 H => (bdE H fun x9 z8 H => (dW (dI [4] (rFp fo44_1) (dB [21] 0 1 (vL1 sh42) (dI [22] (rIx z6 el42) (dI [23] (rFe fo44_0) (dI [24] (rK1 sh9) (dI [4] (rFp fo44_1) (dB [26] 0 1 (vL1 sh42) (dI [27] (rIx z7 el42) ?_)))))))))))))
  refine dI [28] (rKe (GSExpr.cs (atD x2.gList 1)) sh44) (dI [29] (rCf Tryz.func22 (idecodeType_ok fu (atD x2.gList 1) _ z8)) (dI [25, 30] (rBd zr28 pl28) (dE [] (rAl zr28) (dE0 [6, 31] (rSu sz28) (dN ?_)))))
  iterate 2 refine qS ?_
  refine qR (q1 (rLp [pS ((atD x2.gList 0).gAtom), pI x9.gKind, pS x9.gName, rType x9.gArgs] sh28) (bdE H fun x11 z10 H => (q1 (rCf Tryz.func12 (iIsValidBound_ok fu (GBound.mk ((atD x2.gList 0).gAtom) x9) _ z10)) (q1 rNo (q1 rMv ?_)))))
  refine spB 35 H (fun g12 H => ?_) fun g12 H => ?_
  · refine qk g12 ?_
    iterate 3 refine qk g12 ?_
    refine q1 (rPt g12) (qN (cndT rfl (qS (qR (q1 (rBd zr28 pl28) (q1 (rSu sz28) (q1 rMv (qN (AWP.ret ?_)))))))))
    obtain rfl : _ = r := (smI H :)
    exact qe2 (hr := ⟨⟨_, _, _, rfl, rfl, sh28, rfl, rfl⟩, rfl, trivial⟩)
  refine qg g12 (rLp [pS ((atD x2.gList 0).gAtom), pI x9.gKind, pS x9.gName, rType x9.gArgs] sh28) (bdE H fun x14 z13 H => (qg g12 (rCf Tryz.func6 (iFormatGoal_ok fu (GBound.mk ((atD x2.gList 0).gAtom) x9) _ z13)) (qg g12 rMv (qg g12 rSn (q1 (rPf g12) (qN ?_))))))
  refine cndB H (fun h15 H => ?_) (fun h15 H => ?_)
  · refine qS (qR (q1 (rBd zr28 pl28) (q1 (rSu sz28) (q1 rMv (qN (AWP.ret ?_))))))
    obtain rfl : _ = r := (smI H :)
    exact qe2 (hr := ⟨⟨_, _, _, rfl, rfl, sh28, rfl, rfl⟩, rfl, trivial⟩)
  refine AWP.skip (qS (qR (q1 (rLp [pS ((atD x2.gList 0).gAtom), pI x9.gKind, pS x9.gName, rType x9.gArgs] sh28) (q1 (rSu sz28) (q1 rMv (qN (AWP.ret ?_)))))))
  obtain rfl : _ = r := (smI H :)
  exact qe2 (hr := ⟨⟨_, _, _, rfl, rfl, sh28, rfl, rfl⟩, rfl, trivial⟩)

end
end Go.Proofs.YtmpepccpnnldoaaGreat

namespace Go.Proofs.YtmpepccpnnldoaaGreat
set_option linter.unusedSimpArgs false
set_option linter.unusedVariables false
open Go.RowKit Go.Proofs

def pre39 (a : ByteArray) : Bool := decide ((a.size : Int) ≥ 1) && decide (a.extract 0 1 = x_27)
mutual
def decI : GSExpr → GType
  | .mk a l => if a = s_ then (if l.length < 2 then .mk 0 s_ [] else if (atD l 0).gAtom = s_dyn then .mk 4 (atD l 1).gAtom [] else if (atD l 0).gAtom = s_assoc then .mk 3 (atD l 1).gAtom ((decIs l).drop 2) else .mk 2 (atD l 0).gAtom ((decIs l).drop 1))
    else if pre39 a = true then .mk 1 (a.extract 1 a.size) [] else .mk 2 a []
def decIs : List GSExpr → List GType
  | [] => []
  | x :: r => decI x :: decIs r
end
theorem decIs_map : ∀ l : List GSExpr, decIs l = l.map decI
  | [] => rfl
  | x :: r => by rw [decIs, List.map_cons, decIs_map r]
theorem cut_i (fu : Nat) (a : ByteArray) : stringsCutPrefix_M fu a x_27 = some (if pre39 a = true then (a.extract 1 a.size, true) else (a, false)) := by
  have h1 : (x_27 : ByteArray).size = 1 := rfl
  unfold stringsCutPrefix_M CutPrefix_M HasPrefix_M pre39
  rw [h1]
  by_cases hz : (a.size : Int) ≥ 1
  · have e1 : decide ((a.size : Int) ≥ ((1 : Nat) : Int)) = true := by simpa using hz
    rw [e1, decide_eq_true hz]
    show bd (bd (gd _ _) _) _ = _
    rw [gdT (by omega) rfl]
    cases he : decide (a.extract 0 1 = x_27)
    · have he' : decide (a.extract (Int.toNat 0) (Int.toNat ((1 : Nat) : Int)) = x_27) = false := he
      rw [he']
      rfl
    · have he' : decide (a.extract (Int.toNat 0) (Int.toNat ((1 : Nat) : Int)) = x_27) = true := he
      rw [he']
      show bd (gd _ _) _ = _
      rw [gdT (by omega) rfl]
      rfl
  · have e1 : decide ((a.size : Int) ≥ ((1 : Nat) : Int)) = false := by simpa using hz
    rw [e1, decide_eq_false hz]
    rfl
theorem dec_i : ∀ x : GSExpr, GSExpr.cnt x ≤ 1073741824 → Evt fun fu => idecodeType_M fu x = some (decI x) := by
  refine GSExpr.ind fun a l ih hz => ?_
  rw [GSExpr.cnt] at hz
  have hll := GSExpr.cnts_len l
  have hh : Evt fun fu => ∀ x ∈ l, idecodeType_M fu x = some (decI x) := Evt.list (l := l) fun x hm => ih x hm (by have := GSExpr.cnts_le hm; omega)
  have hes : ∀ k, Evt fun fu => idecodeTypes_M fu (l.drop k) = some ((decIs l).drop k) := fun k => by
    refine Evt.succ (hh.imp fun fu h => ?_)
    show idecodeTypes_G fu _ _ _ = _
    unfold idecodeTypes_G idecodeTypes_R1
    refine soR (loopN_inv (fun i => ((l.drop k).take i).map decI) (n := (l.drop k).length) fun i hi => ?_) ?_
    · unfold idecodeTypes_F1
      have hm : atD (l.drop k) i ∈ l := List.mem_of_mem_drop (atD_mem hi)
      have hlen : (l.drop k).length ≤ l.length := by simp
      rw [h _ hm, bd_some, gdT (by simp; omega) rfl, take_atD hi, List.map_append]
      rfl
    · rw [List.take_length, decIs_map, List.map_drop]
  refine Evt.succ ((hh.and ((hes 1).and (hes 2))).imp fun fu ⟨h, e1, e2⟩ => ?_)
  show idecodeType_G fu _ _ _ = _
  unfold idecodeType_G
  rw [GSExpr.gAtom_mk, GSExpr.gList_mk, decI, cut_i]
  have htk : List.take (((l.length : Nat) : Int)).toNat l = l := by rw [Int.toNat_natCast, List.take_length]
  by_cases ha : a = s_
  · rw [if_pos ha, decide_eq_true ha]
    by_cases hl : l.length < 2
    · rw [if_pos hl, decide_eq_true (by omega)]
      rfl
    · rw [if_neg hl, decide_eq_false (by omega)]
      show gd _ _ = _
      rw [gdT (by omega) rfl]
      by_cases hd : (atD l 0).gAtom = s_dyn
      · rw [if_pos hd, decide_eq_true hd]
        show gd _ _ = _
        rw [gdT (by omega) rfl]
        rfl
      · rw [if_neg hd, decide_eq_false hd]
        by_cases hs : (atD l 0).gAtom = s_assoc
        · rw [if_pos hs, decide_eq_true hs]
          show gd _ (gd _ _) = _
          rw [gdT (by omega) rfl, gdT (by omega) rfl, htk]
          show bd (idecodeTypes_M fu (l.drop 2)) _ = _
          rw [e2]
          rfl
        · rw [if_neg hs, decide_eq_false hs]
          show gd _ _ = _
          rw [gdT (by omega) rfl, htk]
          show bd (idecodeTypes_M fu (l.drop 1)) _ = _
          rw [e1]
          rfl
  · rw [if_neg ha, decide_eq_false ha]
    cases pre39 a <;> rfl
theorem pre_var (n : ByteArray) : pre39 (x_27 ++ n) = true ∧ (x_27 ++ n).extract 1 (x_27 ++ n).size = n := by
  have hz : (x_27 ++ n).size = 1 + n.size := by rw [sizeApp]; rfl
  have hd : (x_27 ++ n).data.toList = 39 :: n.data.toList := by rw [dataApp]; rfl
  refine ⟨?_, ?_⟩
  · unfold pre39
    rw [hz, decide_eq_true (by omega)]
    refine decide_eq_true (dataInj ?_)
    rw [ByteArray.data_extract, Array.toList_extract, hd]
    rfl
  · refine dataInj ?_
    rw [ByteArray.data_extract, Array.toList_extract, hd, hz]
    show List.take (1 + n.size - 1) (List.drop 1 (39 :: n.data.toList)) = _
    rw [Nat.add_sub_cancel_left, ← dataLen n]
    exact List.take_length
theorem pre_nm {n : ByteArray} (h : ∀ c ∈ n.data.toList, ¬ c = 39) : pre39 n = false := by
  unfold pre39
  by_cases hz : (n.size : Int) ≥ 1
  · rw [decide_eq_true hz]
    refine decide_eq_false fun e => ?_
    have := congrArg (fun b => b.data.toList) e
    dsimp only at this
    rw [ByteArray.data_extract, Array.toList_extract] at this
    match hq : n.data.toList with
    | [] => have := dataLen n; rw [hq] at this; simp at this; omega
    | c :: r =>
      rw [hq] at this
      have hc : c = 39 := by simpa [List.extract] using this
      exact h c (by rw [hq]; simp) hc
  · rw [decide_eq_false hz]
    rfl
theorem nm_chars {n : ByteArray} (h : nmB n = true) : ∀ c ∈ n.data.toList, ¬ c = 39 := by
  intro c hc
  obtain ⟨i, hi, rfl⟩ := List.getElem_of_mem hc
  have hi2 : i < n.size := by rwa [dataLen] at hi
  rw [← bAt_data hi2]
  unfold nmB at h
  rw [Bool.and_eq_true, List.all_eq_true] at h
  have h1 := h.1 i (by simpa using hi2)
  intro e
  unfold nmAt at h1
  rw [e] at h1
  have : lowC 39 = false := by decide
  have h2 : digC 39 = false := by decide
  rw [this, h2] at h1
  simp at h1
theorem nm_res {n : ByteArray} (h : nmB n = true) : ¬ n = s_dyn ∧ ¬ n = s_assoc := by
  unfold nmB at h
  simp only [Bool.and_eq_true, Bool.not_eq_true'] at h
  have h4 := h.2.2.2
  rw [List.any_eq_false] at h4
  refine ⟨fun e => ?_, fun e => ?_⟩
  · exact h4 s_dyn (by simp [resW]) (by simpa using e.symm)
  · exact h4 s_assoc (by simp [resW]) (by simpa using e.symm)
theorem form_name {k : Int} {n : ByteArray} {xs : List GType} (h : GType.formB (.mk k n xs) = true) : (∀ c ∈ n.data.toList, ¬ c = 39) ∧ ¬ n = s_dyn ∧ ¬ n = s_assoc := by
  rcases (form_inv h).2.1 with h | ⟨-, rfl | rfl⟩
  · exact ⟨nm_chars h, nm_res h⟩
  · exact ⟨by decide, by decide, by decide⟩
  · exact ⟨by decide, by decide, by decide⟩
/-- A type that is formed is read back. -/
theorem dec_enc : ∀ t : GType, GType.formB t = true → decI (GType.enc t) = t := by
  refine GType.ind fun k n xs ih hf => ?_
  have ha := atom_form hf
  obtain ⟨hn39, hnd, hna⟩ := form_name hf
  obtain ⟨hk, hn, h14, h3, hl, hx⟩ := form_inv hf
  have hxs : decIs (GType.encs xs) = xs := by
    rw [decIs_map, GType.encs_map, List.map_map]
    conv => rhs; rw [← List.map_id xs]
    exact List.map_congr_left fun x hm => ih x hm (hx x hm)
  have hlen : (GType.encs xs).length = xs.length := by rw [GType.encs_map, List.length_map]
  rw [GType.enc]
  by_cases h1 : k = 1
  · have hv : nmB n = true := hn.resolve_right fun h => by omega
    obtain ⟨p1, p2⟩ := pre_var n
    rw [if_pos h1, decI, if_neg (atom_var hv).ne, if_pos p1, p2, h14 (.inl h1), h1]
  · rw [if_neg h1]
    by_cases h4 : k = 4
    · rw [if_pos h4, decI, if_pos rfl, if_neg (by simp)]
      show (if s_dyn = s_dyn then _ else _) = _
      rw [if_pos rfl, h14 (.inr h4), h4]
      rfl
    · rw [if_neg h4]
      by_cases h3' : k = 3
      · rw [if_pos h3', decI, if_pos rfl, if_neg (by simp)]
        show (if s_assoc = s_dyn then _ else if s_assoc = s_assoc then _ else _) = _
        rw [if_neg (by decide), if_pos rfl, decIs, decIs, hxs, h3']
        rfl
      · rw [if_neg h3']
        have h2 : k = 2 := by omega
        by_cases h0 : xs.length = 0
        · rw [if_pos h0, decI, if_neg ha.ne, if_neg (by rw [pre_nm hn39]; decide), h2, List.eq_nil_of_length_eq_zero h0]
        · rw [if_neg h0, decI, if_pos rfl, if_neg (by simp [hlen]; omega)]
          show (if n = s_dyn then _ else if n = s_assoc then _ else _) = _
          rw [if_neg hnd, if_neg hna, decIs, hxs, h2]
          rfl
end Go.Proofs.YtmpepccpnnldoaaGreat

namespace Go.Proofs.YtmpepccpnnldoaaGreat
set_option linter.unusedSimpArgs false
set_option linter.unusedVariables false
open Go.RowKit Go.Proofs

theorem loopN_invF {σ β : Type} {f : Nat → σ → Option (LR σ β)} {n i : Nat} (g : Nat → σ) (hi : i ≤ n) (hs : ∀ j, i ≤ j → j < n → f j (g j) = some (.next (g (j + 1)))) : loopN f (n - i) i (g i) = some (.inr (g n)) := by
  have key : ∀ (k j : Nat), n - j = k → i ≤ j → j ≤ n → loopN f (n - j) j (g j) = some (.inr (g n)) := by
    intro k
    induction k with
    | zero =>
      intro j hk h1 h2
      obtain rfl : j = n := by omega
      rw [loopN_all (Nat.le_refl _)]
    | succ k ih =>
      intro j hk h1 h2
      rw [loopN_step (by omega) (hs j h1 (by omega))]
      exact ih (j + 1) (by omega) (by omega) (by omega)
  exact key _ i rfl (Nat.le_refl _) hi
mutual
def decS : GSExpr → GType
  | .mk a l => if a = s_ then (if l.length < 2 then .mk 0 s_ [] else if (atD l 0).gAtom = s_assoc ∧ l.length = 3 ∧ ¬ (atD l 1).gAtom = s_ then .mk 3 (atD l 1).gAtom ((decSs l).drop 2) else if (atD l 0).gAtom = s_dyn ∧ l.length = 2 ∧ ¬ (atD l 1).gAtom = s_ then .mk 4 (atD l 1).gAtom [] else .mk 2 (atD l 0).gAtom ((decSs l).drop 1))
    else if ((bAt a 0).toNat : Int) = 39 then .mk 1 (a.extract 1 a.size) [] else .mk 2 a []
def decSs : List GSExpr → List GType
  | [] => []
  | x :: r => decS x :: decSs r
end
theorem decSs_map : ∀ l : List GSExpr, decSs l = l.map decS
  | [] => rfl
  | x :: r => by rw [decSs, List.map_cons, decSs_map r]
theorem size_ne {a : ByteArray} (h : ¬ a = s_) : 0 < a.size := by
  rcases Nat.eq_zero_or_pos a.size with h0 | h0
  · have e : a.data.toList = [] := List.eq_nil_of_length_eq_zero (by rw [dataLen]; exact h0)
    exact absurd (dataInj (by rw [e])) h
  · exact h0
theorem dec_s : ∀ x : GSExpr, GSExpr.cnt x ≤ 1073741824 → Evt fun fu => sl5Ty_M fu x = some (decS x) := by
  refine GSExpr.ind fun a l ih hz => ?_
  rw [GSExpr.cnt] at hz
  have hll := GSExpr.cnts_len l
  have hh : Evt fun fu => ∀ x ∈ l, sl5Ty_M fu x = some (decS x) := Evt.list (l := l) fun x hm => ih x hm (by have := GSExpr.cnts_le hm; omega)
  refine Evt.succ (hh.imp fun fu h => ?_)
  show sl5Ty_G fu _ _ = _
  unfold sl5Ty_G
  rw [GSExpr.gAtom_mk, GSExpr.gList_mk, decS]
  by_cases ha : a = s_
  · rw [if_pos ha, decide_eq_true ha]
    by_cases hl : l.length < 2
    · rw [if_pos hl, decide_eq_true (by omega : ((l.length : Nat) : Int) < 2)]
      rfl
    · rw [if_neg hl, decide_eq_false (by omega : ¬ ((l.length : Nat) : Int) < 2)]
      have hr : sl5Ty_R1 fu (sl5Ty_M fu) (.mk a l) = some (.inr ((decSs l).drop 1)) := by
        unfold sl5Ty_R1
        rw [GSExpr.gList_mk]
        have : loopN (sl5Ty_F1 fu (sl5Ty_M fu) (.mk a l)) (l.length - 1) 1 (((l.take 1).drop 1).map decS) = some (.inr (((l.take l.length).drop 1).map decS)) := loopN_invF (f := sl5Ty_F1 fu (sl5Ty_M fu) (.mk a l)) (fun i => ((l.take i).drop 1).map decS) (n := l.length) (i := 1) (by omega) fun i h1 hi => by
          unfold sl5Ty_F1
          rw [GSExpr.gList_mk, h _ (atD_mem hi), bd_some, gdT (by simp; omega) rfl, take_atD hi, List.drop_append_of_le_length (by simp; omega), List.map_append]
          rfl
        have e : ((l.take 1).drop 1).map decS = [] := by rw [List.drop_of_length_le (by simp; omega)]; rfl
        rw [e, List.take_length, List.map_drop, ← decSs_map] at this
        exact this
      show gd _ _ = _
      rw [gdT (by omega) rfl]
      show so (sl5Ty_R1 fu (sl5Ty_M fu) (.mk a l)) _ = _
      rw [hr]
      have hlen : (List.drop 1 (decSs l)).length = l.length - 1 := by rw [decSs_map]; simp
      show sw _ _ _ = _
      rw [hlen]
      have htk : List.take (((l.length - 1 : Nat) : Int)).toNat (List.drop 1 (decSs l)) = List.drop 1 (decSs l) := by rw [Int.toNat_natCast, ← hlen, List.take_length]
      by_cases hs : (atD l 0).gAtom = s_assoc
      · rw [decide_eq_true hs]
        have hnd : ¬ (atD l 0).gAtom = s_dyn := by rw [hs]; decide
        rw [decide_eq_false hnd]
        by_cases h3 : l.length = 3
        · rw [decide_eq_true (by omega : ((l.length - 1 : Nat) : Int) = 2)]
          show gd _ _ = _
          rw [gdT (by omega) rfl]
          by_cases hn : (atD l 1).gAtom = s_
          · rw [decide_eq_true hn, if_neg (fun h => h.2.2 hn), if_neg (fun h => hnd h.1)]
            rfl
          · rw [decide_eq_false hn, if_pos ⟨hs, h3, hn⟩]
            show gd _ _ = _
            rw [gdT (by omega) rfl, htk]
            show some (GType.mk 3 _ (List.drop 1 (List.drop 1 (decSs l)))) = _
            rw [List.drop_drop]
        · rw [decide_eq_false (by omega : ¬ ((l.length - 1 : Nat) : Int) = 2), if_neg (fun h => h3 h.2.1), if_neg (fun h => hnd h.1)]
          rfl
      · rw [decide_eq_false hs, if_neg (fun h => hs h.1)]
        by_cases hd : (atD l 0).gAtom = s_dyn
        · rw [decide_eq_true hd]
          by_cases h2 : l.length = 2
          · rw [decide_eq_true (by omega : ((l.length - 1 : Nat) : Int) = 1)]
            show gd _ _ = _
            rw [gdT (by omega) rfl]
            by_cases hn : (atD l 1).gAtom = s_
            · rw [decide_eq_true hn, if_neg (fun h => h.2.2 hn)]
              rfl
            · rw [decide_eq_false hn, if_pos ⟨hd, h2, hn⟩]
              rfl
          · rw [decide_eq_false (by omega : ¬ ((l.length - 1 : Nat) : Int) = 1), if_neg (fun h => h2 h.2.1)]
            rfl
        · rw [decide_eq_false hd, if_neg (fun h => hd h.1)]
          rfl
  · rw [if_neg ha, decide_eq_false ha]
    show gd _ _ = _
    have hz := size_ne ha
    rw [gdT hz rfl]
    by_cases h39 : ((bAt a 0).toNat : Int) = 39
    · rw [if_pos h39, decide_eq_true h39]
      show gd _ _ = _
      rw [gdT (by omega) rfl]
      rfl
    · rw [if_neg h39, decide_eq_false h39]
      show bd (gd _ _) _ = _
      rw [gdT (by simp) rfl]
      rfl
/-- A type that is formed is read back. -/
theorem dec_enc_s : ∀ t : GType, GType.formB t = true → decS (GType.enc t) = t := by
  refine GType.ind fun k n xs ih hf => ?_
  have ha := atom_form hf
  obtain ⟨hn39, hnd, hna⟩ := form_name hf
  obtain ⟨hk, hn, h14, h3, hl, hx⟩ := form_inv hf
  have hxs : decSs (GType.encs xs) = xs := by
    rw [decSs_map, GType.encs_map, List.map_map]
    conv => rhs; rw [← List.map_id xs]
    exact List.map_congr_left fun x hm => ih x hm (hx x hm)
  have hlen : (GType.encs xs).length = xs.length := by rw [GType.encs_map, List.length_map]
  rw [GType.enc]
  by_cases h1 : k = 1
  · have hv : nmB n = true := hn.resolve_right fun h => by omega
    obtain ⟨p1, p2⟩ := pre_var n
    have hb : ((bAt (x_27 ++ n) 0).toNat : Int) = 39 := by
      have hz : 0 < (x_27 ++ n).size := by rw [sizeApp]; show 0 < 1 + n.size; omega
      have hd : (x_27 ++ n).data.toList = 39 :: n.data.toList := by rw [dataApp]; rfl
      have : bAt (x_27 ++ n) 0 = 39 := by rw [bAt_data hz]; simp [hd]
      rw [this]
      rfl
    rw [if_pos h1, decS, if_neg (atom_var hv).ne, if_pos hb, p2, h14 (.inl h1), h1]
  · rw [if_neg h1]
    by_cases h4 : k = 4
    · rw [if_pos h4, decS, if_pos rfl, if_neg (by simp)]
      rw [if_neg (fun h => absurd (show s_dyn = s_assoc from h.1) (by decide)), if_pos ⟨rfl, rfl, ha.ne⟩, h14 (.inr h4), h4]
      rfl
    · rw [if_neg h4]
      by_cases h3' : k = 3
      · have h31 := h3 h3'
        rw [if_pos h3', decS, if_pos rfl, if_neg (by simp), if_pos ⟨rfl, by simp [hlen, h31], ha.ne⟩, decSs, decSs, hxs, h3']
        rfl
      · rw [if_neg h3']
        have h2 : k = 2 := by omega
        by_cases h0 : xs.length = 0
        · have hb : ¬ ((bAt n 0).toNat : Int) = 39 := fun e => hn39 _ (bAt_mem (size_ne ha.ne)) (byte_of (k := 39) e)
          rw [if_pos h0, decS, if_neg ha.ne, if_neg hb, h2, List.eq_nil_of_length_eq_zero h0]
        · rw [if_neg h0, decS, if_pos rfl, if_neg (by simp [hlen]; omega), if_neg (fun h => hna h.1), if_neg (fun h => hnd h.1), decSs, hxs, h2]
          rfl
end Go.Proofs.YtmpepccpnnldoaaGreat

namespace Go.Proofs.YtmpepccpnnldoaaGreat
set_option linter.unusedSimpArgs false
set_option linter.unusedVariables false
open Go.RowKit Go.Proofs

mutual
/-- What an expression's text counts. -/
def GSExpr.tok : GSExpr → Nat
  | .mk a l => if a = s_ then 2 + GSExpr.toks l else 1
def GSExpr.toks : List GSExpr → Nat
  | [] => 0
  | x :: r => GSExpr.tok x + GSExpr.toks r
end
/-- From place i on, the string's bytes begin with these. -/
def Here (s : ByteArray) (i : Nat) (l : List UInt8) : Prop := ∃ rest, s.data.toList.drop i = l ++ rest
theorem Here.size {s : ByteArray} {i : Nat} {l : List UInt8} (h : Here s i l) (hl : l ≠ []) : i + l.length ≤ s.size := by
  obtain ⟨r, h⟩ := h
  have := congrArg List.length h
  rw [List.length_drop, List.length_append, dataLen] at this
  have h0 : 0 < l.length := by cases l with | nil => exact absurd rfl hl | cons => simp
  omega
theorem Here.byte {s : ByteArray} {i : Nat} {c : UInt8} {l : List UInt8} (h : Here s i (c :: l)) : i < s.size ∧ bAt s i = c := by
  have h0 := h.size (by simp)
  obtain ⟨r, h⟩ := h
  have hi : i < s.size := by simp at h0; omega
  refine ⟨hi, ?_⟩
  have h1 : s.data.toList[i]? = some c := by
    have := congrArg (fun l => l[0]?) h
    simpa using this
  rw [bAt_data hi]
  rw [List.getElem?_eq_getElem (by rw [dataLen]; exact hi)] at h1
  exact Option.some.inj h1
theorem Here.tail {s : ByteArray} {i : Nat} {l k : List UInt8} (h : Here s i (l ++ k)) : Here s (i + l.length) k := by
  obtain ⟨r, h⟩ := h
  refine ⟨r, ?_⟩
  rw [← List.drop_drop, h, List.append_assoc, List.drop_left]
theorem Here.head {s : ByteArray} {i : Nat} {l k : List UInt8} (h : Here s i (l ++ k)) : Here s i l := by
  obtain ⟨r, h⟩ := h
  exact ⟨k ++ r, by rw [h, List.append_assoc]⟩
/-- An atom's bytes are read to their end, where a blank or a closing follows, or nothing. -/
theorem endA_here {s : ByteArray} : ∀ (l : List UInt8) (i : Nat), Here s i l → (∀ c ∈ l, atB c = true) → i + l.length ≤ s.size → (i + l.length < s.size → atB (bAt s (i + l.length)) = false) → endA s i = i + l.length
  | [], i, _, _, hz, hn => by
    rcases Nat.lt_or_ge i s.size with h | h
    · exact endA_stop h (hn (by simpa using h))
    · exact endA_end h
  | c :: l, i, h, hc, hz, hn => by
    obtain ⟨h1, h2⟩ := h.byte
    have ht : Here s (i + 1) l := Here.tail (l := [c]) h
    rw [endA_next h1 (by rw [h2]; exact hc c (by simp)), endA_here l (i + 1) ht (fun c hc' => hc c (by simp [hc'])) (by simp at hz; omega) (fun h => by
      have e : i + 1 + l.length = i + (c :: l).length := by simp; omega
      rw [e] at h ⊢
      exact hn h)]
    simp
    omega
theorem okC_facts {c : UInt8} (h : okC39 c = true) : atB c = true ∧ ¬ (c = 32 ∨ c = 10) ∧ ¬ c = 40 ∧ ¬ c = 41 := by
  have hat : atB c = true := by
    unfold okC39 at h
    unfold atB
    cases hl : lowC c
    · cases hd : digC c
      · rw [hl, hd] at h
        have h : (c.toNat : Int) = 39 := by simpa using h
        have hc : c = 39 := byte_of (k := 39) h
        subst hc
        decide
      · rfl
    · rfl
  refine ⟨hat, ?_, ?_, ?_⟩
  · rintro (rfl | rfl) <;> exact absurd h (by decide)
  · rintro rfl; exact absurd h (by decide)
  · rintro rfl; exact absurd h (by decide)
theorem atB_delim {c : UInt8} (h : c = 32 ∨ c = 41) : atB c = false := by rcases h with rfl | rfl <;> decide
theorem sub_here {s a : ByteArray} {i : Nat} (h : Here s i a.data.toList) : subB s i (i + a.size) = a := by
  obtain ⟨r, h⟩ := h
  refine dataInj ?_
  unfold subB
  have : (s.extract i (i + a.size)).data.toList = (s.data.toList.drop i).take a.size := by
    rw [ByteArray.data_extract, Array.toList_extract]
    simp [List.extract]
  rw [this, h, ← dataLen, List.take_left]
/-- What is behind an expression's text. -/
def Delim (s : ByteArray) (i : Nat) : Prop := i < s.size → bAt s i = 32 ∨ bAt s i = 41
theorem run_txt (s : ByteArray) : ∀ x : GSExpr, GSExpr.okF x → ∀ (p : PState) (K : List (List GSExpr)) (l : List GSExpr), p.st = K ++ [l] → Here s p.at_ (GSExpr.txt x) → Delim s (p.at_ + (GSExpr.txt x).length) → K.length + 1 + GSExpr.dp x ≤ 15 → p.cnt + GSExpr.tok x ≤ 1800 →
    prun s (s.size - p.at_) p = prun s (s.size - (p.at_ + (GSExpr.txt x).length)) ⟨K ++ [l ++ [x]], p.cnt + GSExpr.tok x, p.at_ + (GSExpr.txt x).length⟩ := by
  refine GSExpr.ind fun a xs ih hf p K l hst hh hd hdep hcnt => ?_
  rw [GSExpr.okF] at hf
  rcases hf with ⟨ha, rfl⟩ | ⟨rfl, hl⟩
  · have htx : GSExpr.txt (.mk a []) = a.data.toList := by rw [GSExpr.txt, if_neg ha.ne]
    have htk : GSExpr.tok (.mk a []) = 1 := by rw [GSExpr.tok, if_neg ha.ne]
    rw [htx] at hh hd ⊢
    rw [htk] at hcnt ⊢
    rw [dataLen] at hd ⊢
    have hlow := ha.low
    have hz : p.at_ + a.size ≤ s.size := by have := hh.size (fun e => by have h9 : a.data.toList.length = 0 := (by rw [e]; rfl); rw [dataLen] at h9; omega); rwa [dataLen] at this
    have hb : okC39 (bAt s p.at_) = true := by
      match hq : a.data.toList with
      | [] => have h9 : a.data.toList.length = 0 := (by rw [hq]; rfl); rw [dataLen] at h9; omega
      | c :: r =>
        rw [hq] at hh
        rw [(Here.byte hh).2]
        exact ha.all c (by rw [hq]; simp)
    obtain ⟨h1, h2, h3, h4⟩ := okC_facts hb
    have he : endA s p.at_ = p.at_ + a.size := by
      have := endA_here a.data.toList p.at_ hh (fun c hc => (okC_facts (ha.all c hc)).1) (by rw [dataLen]; exact hz) (fun h => atB_delim (by rw [dataLen] at h ⊢; exact hd h))
      rwa [dataLen] at this
    have ht := tok_atom (p := p) h3 h4 h1
    rw [he, sub_here hh, hst, addLast_snoc] at ht
    rw [prun_next (by omega) (pstep_tok h2 ht (by simp; omega))]
  · have htx : GSExpr.txt (.mk s_ xs) = 40 :: (GSExpr.txts true xs ++ [41]) := by rw [GSExpr.txt, if_pos rfl]
    have htk : GSExpr.tok (.mk s_ xs) = 2 + GSExpr.toks xs := by rw [GSExpr.tok, if_pos rfl]
    have hdp : GSExpr.dp (.mk s_ xs) = GSExpr.dps xs + 1 := by rw [GSExpr.dp, if_pos rfl]
    rw [hdp] at hdep
    rw [htk] at hcnt ⊢
    rw [htx] at hh ⊢
    obtain ⟨hb1, hb2⟩ := hh.byte
    have ho := tok_open (p := p) hb2
    rw [hst] at ho
    rw [prun_next hb1 (pstep_tok (by rw [hb2]; decide) ho (by simp; omega))]
    have inner : ∀ (ys : List GSExpr), (∀ y ∈ ys, y ∈ xs) → ∀ (z : Bool) (d : List GSExpr) (c i : Nat), Here s i (GSExpr.txts z ys ++ [41]) → c + GSExpr.toks ys + 1 ≤ 1800 → GSExpr.dps ys ≤ GSExpr.dps xs →
        prun s (s.size - i) ⟨K ++ [l] ++ [d], c, i⟩ = prun s (s.size - (i + (GSExpr.txts z ys).length + 1)) ⟨K ++ [l ++ [.mk s_ (d ++ ys)]], c + GSExpr.toks ys + 1, i + (GSExpr.txts z ys).length + 1⟩ := by
      intro ys
      induction ys with
      | nil =>
        intro _ z d c i hi hc _
        rw [GSExpr.txts, List.nil_append] at hi
        rw [GSExpr.txts, GSExpr.toks] at *
        obtain ⟨g1, g2⟩ := hi.byte
        have ht := tok_close (s := s) (p := ⟨K ++ [l] ++ [d], c, i⟩) g2 (by simp)
        rw [show (K ++ [l] ++ [d] : List (List GSExpr)) = K ++ [l, d] by simp, closeL_snoc] at ht
        rw [prun_next (p := ⟨K ++ [l] ++ [d], c, i⟩) g1 (pstep_tok (by show ¬ (bAt s i = 32 ∨ bAt s i = 10); rw [g2]; decide) (by rw [show (K ++ [l] ++ [d] : List (List GSExpr)) = K ++ [l, d] by simp]; exact ht) (by simp at hc ⊢; omega))]
        simp
      | cons y r ihr =>
        intro hm z d c i hi hc hdy
        rw [GSExpr.toks] at hc
        rw [GSExpr.dps] at hdy
        have htxs : GSExpr.txts z (y :: r) = (if z then [] else [32]) ++ (GSExpr.txt y ++ GSExpr.txts false r) := by rw [GSExpr.txts]
        -- behind a blank
        have go : ∀ i, Here s i (GSExpr.txt y ++ (GSExpr.txts false r ++ [41])) → prun s (s.size - i) ⟨K ++ [l] ++ [d], c, i⟩ = prun s (s.size - (i + (GSExpr.txt y).length + (GSExpr.txts false r).length + 1)) ⟨K ++ [l ++ [.mk s_ (d ++ (y :: r))]], c + (GSExpr.tok y + GSExpr.toks r) + 1, i + (GSExpr.txt y).length + (GSExpr.txts false r).length + 1⟩ := by
          intro i hi
          have hdl : Delim s (i + (GSExpr.txt y).length) := fun _ => by
            have ht := hi.tail
            cases r with
            | nil => rw [GSExpr.txts, List.nil_append] at ht; exact .inr ht.byte.2
            | cons y' r' =>
              rw [GSExpr.txts] at ht
              exact .inl (Here.byte (l := GSExpr.txt y' ++ GSExpr.txts false r' ++ [41]) (by simpa using ht)).2
          have h1 := ih y (hm y (by simp)) (GSExpr.okFs_all hl y (hm y (by simp))) ⟨K ++ [l] ++ [d], c, i⟩ (K ++ [l]) d rfl hi.head hdl (by simp; omega) (by show c + _ ≤ 1800; omega)
          rw [h1]
          have h2 := ihr (fun y' hy' => hm y' (by simp [hy'])) false (d ++ [y]) (c + GSExpr.tok y) (i + (GSExpr.txt y).length) hi.tail (by omega) (by omega)
          rw [h2]
          simp [Nat.add_assoc]
        rw [htxs] at hi ⊢
        rw [GSExpr.toks]
        cases z with
        | true =>
          simp only [if_true, List.nil_append] at hi ⊢
          rw [go i (by simpa using hi)]
          simp [Nat.add_assoc]
        | false =>
          simp only [Bool.false_eq_true, if_false] at hi ⊢
          obtain ⟨g1, g2⟩ := Here.byte (c := 32) (l := GSExpr.txt y ++ (GSExpr.txts false r ++ [41])) (by simpa using hi)
          rw [prun_next (p := ⟨K ++ [l] ++ [d], c, i⟩) g1 (pstep_blank (.inl g2))]
          have ht : Here s (i + 1) (GSExpr.txt y ++ (GSExpr.txts false r ++ [41])) := Here.tail (l := [32]) (by simpa using hi)
          rw [go (i + 1) ht]
          simp [Nat.add_assoc, Nat.add_comm, Nat.add_left_comm]
    have hin := inner xs (fun y hy => hy) true [] (p.cnt + 1) (p.at_ + 1) (Here.tail (l := [40]) hh) (by omega) (Nat.le_refl _)
    rw [hin, show p.cnt + 1 + GSExpr.toks xs + 1 = p.cnt + (2 + GSExpr.toks xs) by omega]
    simp [Nat.add_assoc, Nat.add_comm, Nat.add_left_comm]
theorem tok_cnt : ∀ x : GSExpr, GSExpr.tok x ≤ 2 * GSExpr.cnt x := by
  refine GSExpr.ind fun a xs ih => ?_
  have : ∀ l : List GSExpr, (∀ x ∈ l, GSExpr.tok x ≤ 2 * GSExpr.cnt x) → GSExpr.toks l ≤ 2 * GSExpr.cnts l := by
    intro l
    induction l with
    | nil => intro _; simp [GSExpr.toks]
    | cons a l ihl =>
      intro h
      have h1 := h a (by simp)
      have h2 := ihl fun x hx => h x (by simp [hx])
      rw [GSExpr.toks, GSExpr.cnts]
      omega
  have := this xs ih
  rw [GSExpr.tok, GSExpr.cnt]
  split <;> omega
/-- A valid expression's text is read back. -/
theorem parse_txt {fu : Nat} {x : GSExpr} (h1 : GSExpr.okF x) (h2 : GSExpr.cnt x ≤ 900) (h3 : GSExpr.dp x ≤ 14) (hv : iIsValidSExpr_M fu x = some true) : parseM fu (bytesStr (GSExpr.txt x)) = some (x, true) := by
  have hz : (bytesStr (GSExpr.txt x)).size = (GSExpr.txt x).length := bytesStr_size _
  have ht := tok_cnt x
  have hr := run_txt (bytesStr (GSExpr.txt x)) x h1 pinit [] [] rfl ⟨[], by rw [bytesStr_data]; simp [pinit]⟩ (fun h => by rw [hz] at h; simp [pinit] at h) (by simp; omega) (by simp [pinit]; omega)
  have he : prun (bytesStr (GSExpr.txt x)) (bytesStr (GSExpr.txt x)).size pinit = some ⟨[[x]], GSExpr.tok x, (GSExpr.txt x).length⟩ := by
    have e0 : (bytesStr (GSExpr.txt x)).size - pinit.at_ = (bytesStr (GSExpr.txt x)).size := rfl
    rw [e0] at hr
    rw [hr, hz]
    have := prun_end (s := bytesStr (GSExpr.txt x)) (p := ⟨[[x]], GSExpr.tok x, (GSExpr.txt x).length⟩) (by show ¬ (GSExpr.txt x).length < _; rw [hz]; omega)
    rw [hz] at this
    simpa [pinit] using this
  unfold parseM
  rw [he]
  dsimp only
  rw [hv]
  rfl
end Go.Proofs.YtmpepccpnnldoaaGreat

namespace Go.Proofs.YtmpepccpnnldoaaGreat
set_option linter.unusedSimpArgs false
set_option linter.unusedVariables false
open Go.RowKit Go.Proofs

def atomI (a : ByteArray) : Bool := (List.range a.size).all (fun i => atB (bAt a i)) && (decide ((a.size : Int) ≥ 1) && decide ((a.size : Int) ≤ 12))
mutual
def okI : GSExpr → Bool
  | .mk a l => if a = s_ then okIs l else atomI a && decide (((l.length : Nat) : Int) = 0)
def okIs : List GSExpr → Bool
  | [] => true
  | x :: r => okI x && okIs r
end
theorem okIs_all : ∀ l : List GSExpr, okIs l = l.all okI
  | [] => rfl
  | x :: r => by rw [okIs, List.all_cons, okIs_all r]
theorem atomI_i (fu : Nat) (a : ByteArray) : iIsValidAtom_M fu a = some (atomI a) := by
  unfold iIsValidAtom_M iIsValidAtom_R1 atomI
  rw [loopN_rng (p := fun i => atB (bAt a i)) (r := false) (fun i hi => by
    unfold iIsValidAtom_F1
    rw [gdT hi rfl, atB_i]
    cases atB (bAt a i) <;> rfl)]
  cases (List.range a.size).all (fun i => atB (bAt a i))
  · rfl
  · cases h1 : decide ((a.size : Int) ≥ 1) <;> rfl
theorem okI_i : ∀ x : GSExpr, Evt fun fu => iareAtoms_M fu x = some (okI x) := by
  refine GSExpr.ind fun a xs ih => ?_
  have hh : Evt fun fu => ∀ x ∈ xs, iareAtoms_M fu x = some (okI x) := Evt.list (l := xs) fun x hm => ih x hm
  refine Evt.succ (Evt.succ (Evt.succ (Evt.succ (hh.imp fun fu h => ?_))))
  have hc : gContainsFunc_SExpr__iareAtoms_1_M (fu + 3) xs = some (!(okIs xs)) := by
    show bd (so (loopN _ _ _ _) _) _ = _
    rw [loopN_index (p := fun x => !(okI x)) (fun i hi => by
      unfold gIndexFunc_SExpr__iareAtoms_1_F1
      show bd (bd (iareAtoms_M fu _) _) _ = _
      rw [h _ (atD_mem hi)]
      cases okI (atD xs i) <;> rfl)]
    have h2 := index_any (l := xs) (p := fun x => !(okI x))
    have h3 : (!(okIs xs)) = xs.any fun x => !(okI x) := by rw [okIs_all, List.any_eq_not_all_not]; simp
    rw [h3, ← h2]
    cases List.findIdx? (fun x => !(okI x)) xs <;> rfl
  show iareAtoms_G (fu + 3) _ _ _ _ _ = _
  unfold iareAtoms_G
  rw [GSExpr.gAtom_mk, GSExpr.gList_mk, hc, okI, atomI_i]
  by_cases ha : a = s_
  · rw [if_pos ha, decide_eq_true ha]
    show bd (some _) _ = _
    cases okIs xs <;> rfl
  · rw [if_neg ha, decide_eq_false ha]
    cases atomI a <;> rfl
theorem vldI (x : GSExpr) (h : GSExpr.cnt x ≤ 1073741824) : ∃ v, Evt fun fu => iIsValidSExpr_M fu x = some v := by
  refine ⟨okI x && (decide ((GSExpr.dp x : Int) ≤ 14) && decide ((GSExpr.cnt x : Int) ≤ 900)), ((okI_i x).and ((dp_i x (by omega)).and (sz_i x (by omega)))).imp fun fu ⟨e1, e2, e3⟩ => ?_⟩
  unfold iIsValidSExpr_M
  rw [e1, e2, e3]
  simp only [bd_some]
  cases okI x <;> cases decide ((GSExpr.dp x : Int) ≤ 14) <;> rfl
theorem sw_some {α : Type} {c : Bool} {x y : Option α} (hx : ∃ b, x = some b) (hy : ∃ b, y = some b) : ∃ b, sw c x y = some b := by
  cases c
  · exact hy
  · exact hx
theorem byS_ex (fu : Nat) (c : UInt8) : ∃ b, sl2Byte_M fu c = some b := by
  unfold sl2Byte_M
  repeat' first | exact ⟨_, rfl⟩ | refine sw_some ?_ ?_
def byS (c : UInt8) : Bool := (sl2Byte_M 0 c).getD false
theorem byS_s (fu : Nat) (c : UInt8) : sl2Byte_M fu c = some (byS c) := by
  have e : sl2Byte_M fu c = sl2Byte_M 0 c := rfl
  obtain ⟨b, h⟩ := byS_ex 0 c
  unfold byS
  rw [e, h]
  rfl
def atomS (a : ByteArray) : Bool := (List.range a.size).all (fun i => byS (bAt a i)) && (decide ((a.size : Int) ≥ 1) && decide ((a.size : Int) ≤ 12))
mutual
def okS : GSExpr → Bool
  | .mk a l => if a = s_ then okSs l else atomS a && decide (((l.length : Nat) : Int) = 0)
def okSs : List GSExpr → Bool
  | [] => true
  | x :: r => okS x && okSs r
end
theorem okSs_all : ∀ l : List GSExpr, okSs l = l.all okS
  | [] => rfl
  | x :: r => by rw [okSs, List.all_cons, okSs_all r]
theorem atomS_s (fu : Nat) (a : ByteArray) : sIsValidAtom_M fu a = some (atomS a) := by
  unfold sIsValidAtom_M sIsValidAtom_R1 atomS
  rw [loopN_rng (p := fun i => byS (bAt a i)) (r := false) (fun i hi => by
    unfold sIsValidAtom_F1
    rw [gdT hi rfl, byS_s]
    cases byS (bAt a i) <;> rfl), in_s]
  cases (List.range a.size).all (fun i => byS (bAt a i)) <;> rfl
theorem okS_s : ∀ x : GSExpr, Evt fun fu => sl2Form_M fu x = some (okS x) := by
  refine GSExpr.ind fun a xs ih => ?_
  have hh : Evt fun fu => ∀ x ∈ xs, sl2Form_M fu x = some (okS x) := Evt.list (l := xs) fun x hm => ih x hm
  refine Evt.succ (hh.imp fun fu h => ?_)
  show sl2Form_G fu _ _ = _
  unfold sl2Form_G sl2Form_R1
  rw [GSExpr.gAtom_mk, GSExpr.gList_mk, okS, atomS_s]
  by_cases ha : a = s_
  · rw [if_pos ha, decide_eq_true ha]
    show so (loopN _ _ _ _) _ = _
    rw [loopN_every (p := okS) (r := false) (fun i hi => by
      unfold sl2Form_F1
      rw [GSExpr.gList_mk, h _ (atD_mem hi)]
      cases okS (atD xs i) <;> rfl), okSs_all]
    cases xs.all okS <;> rfl
  · rw [if_neg ha, decide_eq_false ha]
    cases atomS a <;> rfl
theorem vldS (x : GSExpr) (h : GSExpr.cnt x ≤ 1073741824) : ∃ v, Evt fun fu => sIsValidSExpr_M fu x = some v := by
  refine ⟨decide ((GSExpr.cnt x : Int) ≤ 900) && (okS x && decide ((GSExpr.dp x : Int) ≤ 14)), ((okS_s x).and ((dp_s x (by omega)).and (left2_s x))).imp fun fu ⟨e1, e2, e3⟩ => ?_⟩
  obtain ⟨r, hr, hp⟩ := e3 900 (by decide) (by decide)
  unfold sIsValidSExpr_M
  rw [hr, e1, e2]
  simp only [bd_some]
  have : decide (r ≥ 0) = decide ((GSExpr.cnt x : Int) ≤ 900) := by
    by_cases hs : (GSExpr.cnt x : Int) ≤ 900
    · rw [decide_eq_true hs]; exact decide_eq_true (by omega)
    · rw [decide_eq_false hs]; exact decide_eq_false (by omega)
  rw [this]
  cases decide ((GSExpr.cnt x : Int) ≤ 900) <;> cases okS x <;> rfl
end Go.Proofs.YtmpepccpnnldoaaGreat

namespace Go.Proofs.YtmpepccpnnldoaaGreat
set_option linter.unusedSimpArgs false
set_option linter.unusedVariables false
open Go.RowKit Go.Proofs

def zeroB : GBound := GBound.mk s_ (GType.mk 0 s_ [])
/-- The goal with a text, if there is one. -/
noncomputable def goalOf (s : ByteArray) : GBound × Bool := open Classical in if h : ∃ b, vldBd b = true ∧ goalTxt b = s then (Classical.choose h, true) else (zeroB, false)
theorem goalOf_some {s : ByteArray} (h : ∃ b, vldBd b = true ∧ goalTxt b = s) : ∃ b, vldBd b = true ∧ goalTxt b = s ∧ goalOf s = (b, true) := ⟨Classical.choose h, (Classical.choose_spec h).1, (Classical.choose_spec h).2, by unfold goalOf; rw [dif_pos h]⟩
theorem goalOf_none {s : ByteArray} (h : ¬ ∃ b, vldBd b = true ∧ goalTxt b = s) : goalOf s = (zeroB, false) := by unfold goalOf; rw [dif_neg h]

def tot (st : List (List GSExpr)) : Nat := (st.map GSExpr.cnts).sum
theorem tot_cons (l : List GSExpr) (st : List (List GSExpr)) : tot (l :: st) = GSExpr.cnts l + tot st := by simp [tot]
theorem tot_app (a b : List (List GSExpr)) : tot (a ++ b) = tot a + tot b := by simp [tot]
theorem tot_addLast (x : GSExpr) : ∀ st, tot (addLast st x) ≤ tot st + GSExpr.cnt x
  | [] => by simp [addLast]
  | [l] => by rw [addLast, tot_cons, tot_cons, GSExpr.cnts_app, GSExpr.cnts, GSExpr.cnts]; omega
  | l :: m :: r => by
    have := tot_addLast x (m :: r)
    show tot (l :: addLast (m :: r) x) ≤ _
    rw [tot_cons, tot_cons]
    omega
theorem tot_closeL : ∀ st, tot (closeL st) ≤ tot st + 1
  | [] => by simp [closeL]
  | [l] => by simp [closeL]
  | [k, l] => by
    rw [closeL, tot_cons, tot_cons, tot_cons, GSExpr.cnts_app, GSExpr.cnts, GSExpr.cnts, GSExpr.cnt]
    omega
  | k :: l :: m :: r => by
    have := tot_closeL (l :: m :: r)
    show tot (k :: closeL (l :: m :: r)) ≤ _
    rw [tot_cons, tot_cons]
    omega
theorem pstep_tot {s : ByteArray} {p q : PState} (h : pstep s p = some q) (ht : tot p.st ≤ p.cnt) (hc : p.cnt ≤ 1800) : tot q.st ≤ q.cnt ∧ q.cnt ≤ 1800 := by
  unfold pstep at h
  split at h
  · cases h; exact ⟨ht, hc⟩
  · split at h
    · cases h
    · rename_i r hr
      split at h
      · cases h
      · rename_i hk
        cases h
        refine ⟨?_, by show p.cnt + 1 ≤ 1800; omega⟩
        show tot r.1 ≤ p.cnt + 1
        unfold tokP at hr
        dsimp only at hr
        split at hr
        · cases hr
          rw [tot_app, tot_cons]
          simp [tot, GSExpr.cnts] at ht ⊢
          omega
        · split at hr
          · split at hr
            · cases hr
            · cases hr
              have := tot_closeL p.st
              show tot (closeL p.st) ≤ _
              omega
          · split at hr
            · cases hr
              have := tot_addLast (.mk (subB s p.at_ (endA s p.at_)) []) p.st
              rw [cnt_atom] at this
              show tot (addLast p.st _) ≤ _
              omega
            · cases hr
theorem prun_tot {s : ByteArray} : ∀ (k : Nat) (p q : PState), prun s k p = some q → tot p.st ≤ p.cnt → p.cnt ≤ 1800 → tot q.st ≤ 1800
  | 0, p, q, h, ht, hc => by cases h; omega
  | k + 1, p, q, h, ht, hc => by
    rw [prun] at h
    split at h
    · split at h
      · cases h
      · rename_i r hr
        have := pstep_tot hr ht hc
        exact prun_tot k r q h this.1 this.2
    · cases h; omega
theorem dec_size : ∀ x : GSExpr, GType.size (decI x) ≤ GSExpr.cnt x := by
  refine GSExpr.ind fun a l ih => ?_
  have hs : ∀ l : List GSExpr, (∀ x ∈ l, GType.size (decI x) ≤ GSExpr.cnt x) → ∀ k, GType.sizes ((decIs l).drop k) ≤ GSExpr.cnts l := by
    intro l
    induction l with
    | nil => intro _ k; simp [decIs, GType.sizes]
    | cons a l ihl =>
      intro h k
      have h1 := h a (by simp)
      have h2 := ihl fun x hx => h x (by simp [hx])
      cases k with
      | zero =>
        have := h2 0
        rw [List.drop_zero] at this ⊢
        rw [decIs, GType.sizes, GSExpr.cnts]
        omega
      | succ k =>
        have := h2 k
        rw [decIs, List.drop_succ_cons, GSExpr.cnts]
        omega
  have h1 := hs l ih 1
  have h2 := hs l ih 2
  rw [decI, GSExpr.cnt]
  repeat' split
  all_goals first | (rw [GType.size]; omega) | (rw [GType.size, GType.sizes]; omega)
theorem goalTxt_ne {b : GBound} (h : vldBd b = true) : goalTxt b = bytesStr (GSExpr.txt (goalX b)) := by unfold goalTxt; rw [if_pos h]
theorem parse_i (s : ByteArray) (hs : s.size ≤ 1099511627776) : Evt fun fu => iParseGoal_M fu s = some (goalOf s) := by
  by_cases hex : ∃ b, vldBd b = true ∧ goalTxt b = s
  · obtain ⟨b, hv, ht, hg⟩ := goalOf_some hex
    rw [hg]
    obtain ⟨h1, h2, h3, h4, h5⟩ := goal_ok hv
    obtain ⟨g1, g2, g3⟩ := goalX_ok hv
    have hsz : GType.size b.gType ≤ 4294967296 := by unfold vldBd vldT at hv; simp only [Bool.and_eq_true, decide_eq_true_eq] at hv; omega
    refine ((vldX_i g1 (by omega) (by omega)).and ((dec_i (GType.enc b.gType) (by omega)).and ((vldBd_i b hsz).and (fmt_i b hsz)))).imp fun fu ⟨e1, e2, e3, e4⟩ => ?_
    have hp : iParseSExpr_M fu s = some (goalX b, true) := by
      unfold iParseSExpr_M
      rw [gdT hs rfl, ← ht, goalTxt_ne hv]
      exact parse_txt g1 (by omega) (by omega) e1
    have hb : GBound.mk ((atD (goalX b).gList 0).gAtom) b.gType = b := by cases b; rfl
    have e2' : idecodeType_M fu (atD (goalX b).gList 1) = some b.gType := e2.trans (by rw [dec_enc _ h2])
    have e3' : iIsValidBound_M fu (GBound.mk ((atD (goalX b).gList 0).gAtom) b.gType) = some true := by rw [hb, e3, hv]
    have e4' : iFormatGoal_M fu (GBound.mk ((atD (goalX b).gList 0).gAtom) b.gType) = some s := by rw [hb, e4, ht]
    unfold iParseGoal_M
    refine bdS hp ?_; refine swF rfl ?_; refine swF rfl ?_; refine gdT (by simp [goalX]) (gdT (by simp [goalX]) ?_)
    refine bdS e2' ?_; refine bdS e3' ?_; refine swF rfl ?_; refine bdS e4' ?_; refine swF (by simp) ?_
    rw [hb]
  · rw [goalOf_none hex]
    have hbad : (∀ fu, parseM fu s = some (.mk s_ [], false)) → Evt fun fu => iParseGoal_M fu s = some (zeroB, false) := fun h => .all fun fu => by
      unfold iParseGoal_M iParseSExpr_M
      rw [gdT hs rfl, h fu]
      rfl
    cases hr : prun s s.size pinit with
    | none => exact hbad fun fu => by unfold parseM; rw [hr]
    | some p =>
      have htot := prun_tot _ _ _ hr (by simp [pinit, tot, GSExpr.cnts]) (by simp [pinit])
      by_cases hx : ∃ x, p.st = [[x]]
      · obtain ⟨x, hq⟩ := hx
        rw [hq] at htot
        have hcx : GSExpr.cnt x ≤ 1800 := by simpa [tot, GSExpr.cnts] using htot
        obtain ⟨v, hv⟩ := vldI x (by omega)
        have hpm : ∀ fu, iIsValidSExpr_M fu x = some v → iParseSExpr_M fu s = some (if v = true then (x, true) else (.mk s_ [], false)) := fun fu h => by
          unfold iParseSExpr_M parseM
          rw [gdT hs rfl, hr]
          dsimp only
          rw [hq]
          dsimp only
          rw [h]
          rfl
        cases v with
        | false =>
          refine hv.imp fun fu h => ?_
          unfold iParseGoal_M
          rw [hpm fu h]
          rfl
        | true =>
          by_cases hl : x.gList.length = 2
          · have hm : atD x.gList 1 ∈ x.gList := atD_mem (by omega)
            have hc1 := GSExpr.cnts_le hm
            have hcl : GSExpr.cnts x.gList ≤ GSExpr.cnt x := by cases x; rw [GSExpr.gList_mk, GSExpr.cnt]; omega
            have hds := dec_size (atD x.gList 1)
            refine (hv.and ((dec_i (atD x.gList 1) (by omega)).and ((vldBd_i (GBound.mk ((atD x.gList 0).gAtom) (decI (atD x.gList 1))) (by rw [GBound.gType_mk]; omega)).and (fmt_i (GBound.mk ((atD x.gList 0).gAtom) (decI (atD x.gList 1))) (by rw [GBound.gType_mk]; omega))))).imp fun fu ⟨e0, e1, e2, e3⟩ => ?_
            unfold iParseGoal_M
            refine bdS (hpm fu e0) ?_; refine swF rfl ?_; refine swF (by show (!decide (((x.gList.length : Nat) : Int) = 2)) = false; rw [decide_eq_true (by omega)]; rfl) ?_; refine gdT (by show 0 < x.gList.length; omega) (gdT (by show 1 < x.gList.length; omega) ?_)
            refine bdS e1 ?_; refine bdS e2 ?_
            cases hvb : vldBd (GBound.mk ((atD x.gList 0).gAtom) (decI (atD x.gList 1)))
            · exact swT rfl rfl
            · refine swF rfl ?_; refine bdS e3 ?_; refine swT (by rw [decide_eq_false (fun h => hex ⟨_, hvb, h⟩)]; rfl) rfl
          · refine hv.imp fun fu h => ?_
            unfold iParseGoal_M
            refine bdS (hpm fu h) ?_; refine swF rfl ?_; exact swT (by show (!decide (((x.gList.length : Nat) : Int) = 2)) = true; rw [decide_eq_false (by omega)]; rfl) rfl
      · exact hbad fun fu => by
          unfold parseM
          rw [hr]
          dsimp only
          split
          · rename_i x hx'
            exact absurd ⟨x, hx'⟩ hx
          · rfl
end Go.Proofs.YtmpepccpnnldoaaGreat
