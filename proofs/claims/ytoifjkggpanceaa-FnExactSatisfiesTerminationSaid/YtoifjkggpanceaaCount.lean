/- impl.CountTypeVariable: how often a variable occurs. Condition: sizes below 2^40. -/
import Derived.Test.YtoifjkggpanceaaEach
namespace Go.Proofs.Ytoifjkggpanceaa
open Go.RowKit Go.Proofs

def InvC (w0 : World) (Bv Bn : Nat) (v : ByteArray) (s : Nat) (S : Nat → Prop) (w : World) : Prop :=
  OB w Bn 3 #[.int .i64 (s : Int)] ∧ OB w Bv 9 #[.string v] ∧ (S = fun b => b = Bn ∨ b = Bv) ∧ w0.heap.size ≤ Bn ∧ w0.heap.size ≤ Bv ∧ Bn ≠ Bv
theorem InvC.ok (w0 : World) (Bv Bn : Nat) (v : ByteArray) : InvOk w0 (InvC w0 Bv Bn v) where
  ext := fun _ _ _ _ h hx => ⟨h.1.ext hx, h.2.1.ext hx, h.2.2⟩
  lt := fun _ _ _ b h hb => by
    obtain ⟨h1, h2, rfl, -⟩ := h
    rcases hb with rfl | rfl
    · exact h1.lt
    · exact h2.lt
  ge := fun _ _ _ b h hb => by
    obtain ⟨-, -, rfl, h3, h4, -⟩ := h
    rcases hb with rfl | rfl <;> assumption
def OkC (n : Nat) (l : List GType) : Prop := n + l.length ≤ 1099511627777

set_option maxRecDepth 100000 in
set_option maxHeartbeats 1000000 in
theorem count_step (w0 : World) (Bv Bn : Nat) (v : ByteArray) : StepC 162 #[.pointer (some ⟨Bv, 0, none⟩), .pointer (some ⟨Bn, 0, none⟩)] w0 (InvC w0 Bv Bn v) (countStep v) OkC := by
  intro x s S l cs w hr hw hi ho
  obtain ⟨k, n, xs⟩ := x
  obtain ⟨a, c, rfl, -, -, -⟩ := GType.opened hr
  obtain ⟨h1, h2, rfl, h3, h4, h5⟩ := hi
  have hs : s ≤ 1099511627777 := by unfold OkC at ho; omega
  have H1 := Lib.hid h1
  have H2 := Lib.hid h2
  simp only [List.cons_append, List.nil_append] at *
  have c1 := h1.cell 0
  have c2 := h2.cell 0
  have l1 := h1.lt
  have l2 := h2.lt
  clear hr hw ho h1 h2
  go_enter Try.func162, Try.ntmps162
  go_wp2_with (refine wpList_store_cell rfl 3 (.tmp 2) (.tmp 14) rfl Bn 0 rfl (.int .i64 ((s : Int) + 1)) rfl rfl 3 _ (H1.out.ext (.alloc (.refl w) _)) isz3 (by simp) rfl ?_; intro wb hob hgb hzb; have HOB := Lib.hid hob; have HGB := Lib.hid hgb; clear hob hgb hzb)
  · rename_i hk hh
    have hz : n = v := bytes_inj (by simpa using hh)
    go_end0
    have hob := HOB.out
    rw [splice_whole (by rfl)] at hob
    have hc : countStep v s (GType.mk 1 n xs) = s + 1 := by simp [countStep, hz]
    refine ⟨⟨_, rfl⟩, (fun b => b = Bn ∨ b = Bv), ⟨?_, (H2.out.ext (.alloc (.refl w) _)).grown HGB.out (Ne.symm h5), rfl, h3, h4, h5⟩, (Chg.of_ext (.alloc (.refl w) _)).trans (Chg.of_grown HGB.out (.inl rfl)), fun b h => .inl h⟩
    rw [hc]
    simpa using hob
  · rename_i hk hh
    have hz : ¬ n = v := fun h => by simp [h] at hh
    go_end0
    have hc : countStep v s (GType.mk k n xs) = s := by simp [countStep, hz]
    refine ⟨⟨_, rfl⟩, (fun b => b = Bn ∨ b = Bv), ⟨?_, H2.out.ext (.alloc (.refl w) _), rfl, h3, h4, h5⟩, Chg.of_ext (.alloc (.refl w) _), fun b h => .inl h⟩
    rw [hc]
    exact H1.out.ext (.alloc (.refl w) _)
  · rename_i hk
    go_end0
    have hc : countStep v s (GType.mk k n xs) = s := by simp [countStep, hk]
    refine ⟨⟨_, rfl⟩, (fun b => b = Bn ∨ b = Bv), ⟨?_, H2.out.ext (.alloc (.refl w) _), rfl, h3, h4, h5⟩, Chg.of_ext (.alloc (.refl w) _), fun b h => .inl h⟩
    rw [hc]
    exact H1.out.ext (.alloc (.refl w) _)

set_option maxRecDepth 100000 in
set_option maxHeartbeats 1000000 in
theorem typeCount_impl (v : ByteArray) (x : GType) (cs : List Value) (w : World) (hr : RepL w x.tr cs) (hsz : GType.size x ≤ 1099511627776) :
    Calls Try.prog 87 #[.agg ⟨cs⟩, .string v] w fun e w' => e = .returned (.int .i64 (GType.count v x)) ∧ Ext w w' := by
  have HR := Lib.hid hr
  have HL : Hid (cs.length = 3) := by rw [← hr.length, GType.tr_len]; rfl
  have HI : Hid ((Try.prog.info? 32).map (·.size) = some cs.length) := by rw [HL.out]; exact isz32
  clear hr
  go_enter Try.func87, Try.ntmps87
  go_wp2_with (refine wpList_load_rep rfl 32 (.tmp 2) rfl w.heap.size 0 rfl cs _ Try.underlying32 HI.out (OB.cells0 (((OB.new w _ _).ext (.alloc (.refl _) _)).ext (.alloc (.refl _) _))) ?_)
  have hx : Ext w (((w.alloc (Obj.cells ⟨cs⟩ 32)).alloc (Obj.cells #[.string v] 9)).alloc (Obj.cells #[.int .i64 0] 3)) := .alloc (.alloc (.alloc (.refl _) _) _) _
  have h3 := Three.new w 32 9 3 ⟨cs⟩ #[.string v] #[.int .i64 0]
  have hok : ∀ s (y : GType) l, OkC s (y :: l) → OkC (countStep v s y) l := by
    intro s y l h
    unfold OkC countStep at *
    rw [List.length_cons] at h
    split <;> omega
  have hok0 : OkC 0 (x.pre ++ []) := by
    unfold OkC
    rw [List.append_nil, GType.pre_length]
    omega
  refine (eachType_of 162 _ (run_callFunc_body Try.func162 (by kernel_rfl) (by kernel_rfl)) w (InvC w (w.heap.size + 1) (w.heap.size + 1 + 1) v) (countStep v) OkC (InvC.ok _ _ _ _) hok (count_step _ _ _ _) x 0 _ [] cs _ HR.out hx ⟨h3.o2, h3.o1, rfl, by omega, by omega, by omega⟩ hok0).mono ?_
  rintro e w1 ⟨⟨r, rfl⟩, ⟨S', hi, hc, -⟩, -⟩
  have hce := hi.1.cell 0
  have HX := Lib.hid (hx.chg hc (by rintro b (rfl | rfl) <;> omega))
  have hcnt : (x.pre).foldl (countStep v) 0 = GType.count v x := rfl
  rw [hcnt] at hce
  clear hi hc h3 hx hok hok0 hcnt
  go_wp2_with fail
  go_ret
  exact ⟨rfl, HX.out⟩
end Go.Proofs.Ytoifjkggpanceaa
