/- SelectInstance on both sides, in plain contracts. Conditions: the program and the goal are not too great. -/
import Derived.Test.YtnakkelglbcecaaGreatQh7e8064a0
import Derived.Test.YtnakkelglbcecaaGreatQhf8b74715
import Derived.Test.YtnakkelglbcecaaGreatQh3520efe5
import Derived.Test.YtnakkelglbcecaaGreatQhdb41f3a6
import Derived.Test.YtnakkelglbcecaaGreatQha75bd9d9
import Derived.Test.YtnakkelglbcecaaGreatQh6fafd6f3
set_option linter.unusedSimpArgs false
set_option linter.unusedVariables false
namespace Go.Proofs.YtnakkelglbcecaaGreat
set_option linter.unusedSimpArgs false
set_option linter.unusedVariables false
attribute [local irreducible] lt
open Go.RowKit Go.WalkArith

def GProgram.cands (w : GProgram) (g : GBound) : List GInstanceRef := List.filter (GProgram.cand w g) (GProgram.allRefs w)
def GProgram.inst (w : GProgram) (o : GInstanceRef) : GInstance := oInst (GProgram.instAt w o)
/-- Is a candidate beaten by another? -/
def GProgram.beaten (w : GProgram) (l : List GInstanceRef) (o : GInstanceRef) : Bool := l.any fun p => moreB (w.inst p).gHead (w.inst o).gHead
def GProgram.picked (w : GProgram) (g : GBound) (o : GInstanceRef) : GInstanceRef × Int := bif ((w.inst o).gDefault && !g.gType.ground) then (.mk 0 0, 2) else (o, 0)
def GProgram.sel (w : GProgram) (g : GBound) : GInstanceRef × Int := match (w.cands g).find? (fun o => !w.beaten (w.cands g) o) with
  | some o => w.picked g o
  | none => (.mk 0 0, 1)
theorem cands_at {w : GProgram} {g : GBound} {i : Nat} (hi : i < (w.cands g).length) : ∃ p k : Nat, atD (w.cands g) i = .mk (p : Int) (k : Int) ∧ p < w.gPackages.length ∧ k < (atD w.gPackages p).gInstances.length :=
  mem_allRefs (List.mem_filter.1 (atD_mem hi)).1
/-- A search, and what it hands back. -/
theorem so_search {α β : Type} {p : α → Bool} {r : α → β} {l : List α} {m : Option (β ⊕ Unit)} {f : Unit → Option β} (hm : m = some (match l.find? p with | some x => .inl (r x) | none => .inr ())) {b : β} (hf : f () = some b) : so m f = some (match l.find? p with | some x => r x | none => b) := by
  cases hq : l.find? p with
  | none =>
    rw [hq] at hm
    exact soR hm hf
  | some x =>
    rw [hq] at hm
    exact soL hm
theorem andfold {α : Type} (q : α → Bool) : ∀ (l : List α) (b : Bool), l.foldl (fun v x => v && !q x) b = (b && !l.any q)
  | [], b => by simp
  | a :: l, b => by
    rw [List.foldl_cons, andfold q l, List.any_cons]
    cases b <;> cases q a <;> simp
theorem sSel_inner (fu : Nat) (w : GProgram) (g : GBound) (i : Nat) (y7 : GInstanceRef) (y10 : GPackage) (y13 : GInstance) (o : GInstanceRef) (ho : y13 = w.inst o) (hw : Tr.bulkL (GProgram.tr w) ≤ 68719476735) :
    sSelectInstance_R2 fu w g i y7 y10 y13 = some (.inr (!w.beaten (w.cands g) o)) := by
  unfold sSelectInstance_R2
  rw [show List.filter (GProgram.cand w g) (GProgram.allRefs w) = w.cands g from rfl]
  rw [loopN_fold0 (l := w.cands g) (g := fun v p => v && !moreB (w.inst p).gHead (w.inst o).gHead) (fun _ _ => True) (fun j v hj _ => ⟨?_, trivial⟩) trivial, andfold, Bool.true_and]
  · rfl
  · obtain ⟨p, k, hpk, hp, hk⟩ := cands_at hj
    have h1 := w.cand_head hw (atD (w.cands g) j)
    have h2 := w.cand_head hw o
    have hi2 : w.inst (atD (w.cands g) j) = atD (atD w.gPackages p).gInstances k := by rw [hpk]; exact instAt_ref hp hk
    have h1 : Tr.bulkL (w.inst (atD (w.cands g) j)).gHead.tr ≤ 68719476735 := h1
    have h2 : Tr.bulkL (w.inst o).gHead.tr ≤ 68719476735 := h2
    rw [hi2] at h1 ⊢
    subst ho
    unfold sSelectInstance_F2
    rw [show List.filter (GProgram.cand w g) (GProgram.allRefs w) = w.cands g from rfl, hpk]
    refine ltE rfl ?_
    simp only [GInstanceRef.gPackage_mk, GInstanceRef.gAt_mk, Int.toNat_natCast]
    refine gdT ⟨by omega, hp⟩ (ltE rfl (gdT ⟨by omega, hk⟩ (ltE rfl ?_)))
    cases v with
    | true => exact swT rfl (gdT h1 (gdT h2 rfl))
    | false => exact swF rfl rfl
theorem sSel_fn (fu : Nat) (w : GProgram) (g : GBound) (hw : Tr.bulkL (GProgram.tr w) ≤ 68719476735) (hg : Tr.bulkL (GBound.tr g) ≤ 68719476735) : sSelectInstance_M fu w g = some (w.sel g) := by
  unfold sSelectInstance_M
  refine gdT hw (gdT hg ?_)
  unfold GProgram.sel
  refine (so_search (l := w.cands g) (p := fun o => !w.beaten (w.cands g) o) (r := w.picked g) (b := (GInstanceRef.mk 0 0, 1)) ?_ rfl).trans (by cases (w.cands g).find? (fun o => !w.beaten (w.cands g) o) <;> rfl)
  unfold sSelectInstance_R1
  refine loopN_find0 (l := w.cands g) (p := fun o => !w.beaten (w.cands g) o) (r := w.picked g) (fun i hi => ?_)
  obtain ⟨p, k, hpk, hp, hk⟩ := cands_at hi
  have hi2 : w.inst (atD (w.cands g) i) = atD (atD w.gPackages p).gInstances k := by rw [hpk]; exact instAt_ref hp hk
  have hB := g.cand_ty hg
  unfold sSelectInstance_F1 GProgram.picked
  rw [show List.filter (GProgram.cand w g) (GProgram.allRefs w) = w.cands g from rfl, hi2]
  generalize ho : atD (w.cands g) i = o at *
  subst hpk
  refine ltE rfl ?_
  simp only [GInstanceRef.gPackage_mk, GInstanceRef.gAt_mk, Int.toNat_natCast]
  refine gdT ⟨by omega, hp⟩ (ltE rfl (gdT ⟨by omega, hk⟩ (ltE rfl ?_)))
  refine soR (sSel_inner fu w g i _ _ _ _ hi2.symm hw) ?_
  unfold sSelectInstance_C3
  cases w.beaten (w.cands g) (.mk (p : Int) (k : Int)) with
  | true => exact soR (s := (false, false, false)) (swF rfl rfl) (swF rfl rfl)
  | false =>
    cases hd : (atD (atD w.gPackages p).gInstances k).gDefault with
    | false => exact soR (s := (false, false, false)) (swT rfl (swF rfl rfl)) (swT rfl rfl)
    | true =>
      cases hgr : g.gType.ground with
      | true => exact soR (s := (true, true, false)) (swT rfl (swT rfl (gdT hB (swF rfl rfl)))) (swT rfl rfl)
      | false => exact soL (swT rfl (swT rfl (gdT hB (swT rfl rfl))))
theorem iSel_beaten (fu : Nat) (w : GProgram) (l : List GInstanceRef) (o : GInstanceRef) (hw : Tr.bulkL (GProgram.tr w) ≤ 68719476735) : gContainsFunc_InstanceRef__iSelectInstance_1_M fu l w (oInst (GProgram.instAt w o)) = some (w.beaten l o) := by
  have h1 : gIndexFunc_InstanceRef__iSelectInstance_1_M fu l w (oInst (GProgram.instAt w o)) = some (match l.findIdx? (fun p => moreB (w.inst p).gHead (w.inst o).gHead) with | some i => ((i : Nat) : Int) | none => -1) := by
    unfold gIndexFunc_InstanceRef__iSelectInstance_1_M gIndexFunc_InstanceRef__iSelectInstance_1_R1
    rw [loopN_index (l := l) (p := fun p => moreB (w.inst p).gHead (w.inst o).gHead) fun i hi => by
      unfold gIndexFunc_InstanceRef__iSelectInstance_1_F1
      refine bdS (gdT (w.cand_head hw _) (gdT (w.cand_head hw o) rfl)) ?_
      show sw (moreB (w.inst (atD l i)).gHead (w.inst o).gHead) _ _ = _
      cases moreB (w.inst (atD l i)).gHead (w.inst o).gHead <;> rfl]
    cases l.findIdx? fun p => moreB (w.inst p).gHead (w.inst o).gHead <;> rfl
  unfold gContainsFunc_InstanceRef__iSelectInstance_1_M
  exact bdS h1 (congrArg some index_any)
theorem iSel_fn (fu : Nat) (w : GProgram) (g : GBound) (hw : Tr.bulkL (GProgram.tr w) ≤ 68719476735) (hg : Tr.bulkL (GBound.tr g) ≤ 68719476735) : iSelectInstance_M fu w g = some (w.sel g) := by
  unfold iSelectInstance_M
  refine gdT hw (gdT hg ?_)
  unfold GProgram.sel
  refine (so_search (l := w.cands g) (p := fun o => !w.beaten (w.cands g) o) (r := w.picked g) (b := (GInstanceRef.mk 0 0, 1)) ?_ rfl).trans (by cases (w.cands g).find? (fun o => !w.beaten (w.cands g) o) <;> rfl)
  unfold iSelectInstance_R1
  refine loopN_find0 (l := w.cands g) (p := fun o => !w.beaten (w.cands g) o) (r := w.picked g) (fun i hi => ?_)
  have hB := g.cand_ty hg
  unfold iSelectInstance_F1 GProgram.picked
  rw [show List.filter (GProgram.cand w g) (GProgram.allRefs w) = w.cands g from rfl]
  generalize atD (w.cands g) i = o at *
  refine ltE rfl (bdS (iSel_beaten fu w _ o hw) ?_)
  show sw _ _ (sw (w.inst o).gDefault _ _) = _
  cases w.beaten (w.cands g) o with
  | true => exact swT rfl rfl
  | false =>
    refine swF rfl ?_
    cases hd : (w.inst o).gDefault with
    | false => exact swF rfl rfl
    | true =>
      refine swT rfl (gdT hB ?_)
      cases hgr : g.gType.ground with
      | true => exact swF rfl rfl
      | false => exact swT rfl rfl
theorem selP_spec (x0 : GProgram) (g : GBound) (w : World) (c0 cg : List Value) (h0 : RepL w x0.tr c0) (hg : RepL w g.tr cg) (hb : Tr.bulkL x0.tr ≤ 68719476735) (hb1 : Tr.bulkL g.tr ≤ 68719476735) :
    Calls Tryz.prog 22 #[.agg ⟨c0⟩, .agg ⟨cg⟩] w fun e w' => ∃ cs, e = .returned (.tuple #[.agg ⟨cs⟩, .int .i64 (x0.sel g).2]) ∧ Ext w w' ∧ OwnL w' (x0.sel g).1.tr cs (Between w w') := by
  rw [GProgram.tr_cs] at h0
  rw [GBound.tr_cs] at hg
  have h := sSelectInstance_ok 0 x0 g _ (sSel_fn 0 x0 g hb hb1)
  rw [show GInstanceRef.pv (x0.sel g).1 = .agg ((x0.sel g).1.tr.map PV.t) from by rw [GInstanceRef.tr_cs]; rfl] at h
  refine (h.plainAB (RVL0.cons (RV0.agg h0) (RVL0.cons (RV0.agg hg) RVL0.nil))).mono fun e w' => ?_
  rintro ⟨cs, rfl, hx, hr⟩
  exact ⟨cs, rfl, hx, OwnL.flat hr fun d hd => by
    obtain ⟨p, k⟩ := (x0.sel g).1
    simp only [GInstanceRef.tr, List.cons_append, List.nil_append, List.mem_cons, List.not_mem_nil, or_false] at hd
    rcases hd with rfl | rfl <;> exact ⟨_, rfl⟩⟩
theorem selP_impl (x0 : GProgram) (g : GBound) (w : World) (c0 cg : List Value) (h0 : RepL w x0.tr c0) (hg : RepL w g.tr cg) (hb : Tr.bulkL x0.tr ≤ 68719476735) (hb1 : Tr.bulkL g.tr ≤ 68719476735) :
    Calls Tryz.prog 24 #[.agg ⟨c0⟩, .agg ⟨cg⟩] w fun e w' => ∃ cs, e = .returned (.tuple #[.agg ⟨cs⟩, .int .i64 (x0.sel g).2]) ∧ Ext w w' ∧ OwnL w' (x0.sel g).1.tr cs (Between w w') := by
  rw [GProgram.tr_cs] at h0
  rw [GBound.tr_cs] at hg
  have h := iSelectInstance_ok 0 x0 g _ (iSel_fn 0 x0 g hb hb1)
  rw [show GInstanceRef.pv (x0.sel g).1 = .agg ((x0.sel g).1.tr.map PV.t) from by rw [GInstanceRef.tr_cs]; rfl] at h
  refine (h.plainAB (RVL0.cons (RV0.agg h0) (RVL0.cons (RV0.agg hg) RVL0.nil))).mono fun e w' => ?_
  rintro ⟨cs, rfl, hx, hr⟩
  exact ⟨cs, rfl, hx, OwnL.flat hr fun d hd => by
    obtain ⟨p, k⟩ := (x0.sel g).1
    simp only [GInstanceRef.tr, List.cons_append, List.nil_append, List.mem_cons, List.not_mem_nil, or_false] at hd
    rcases hd with rfl | rfl <;> exact ⟨_, rfl⟩⟩
end Go.Proofs.YtnakkelglbcecaaGreat
