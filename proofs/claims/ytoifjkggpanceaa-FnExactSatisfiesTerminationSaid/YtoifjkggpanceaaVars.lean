/- The variables in a type, on both sides. Conditions: sizes below 2^40. -/
import Derived.Test.YtoifjkggpanceaaEach
import Derived.Test.YtoifjkggpanceaaAccT
import Derived.Deep.DeepCutAuto
namespace Go.Proofs.Ytoifjkggpanceaa
open Go.RowKit Go.Proofs

set_option maxRecDepth 100000 in
set_option maxHeartbeats 1000000 in
theorem strIndex_impl (l : List ByteArray) (s : ByteArray) (v : Value) (w : World) (h : Rep w (.row 1 (strTrs l)) v) :
    Calls Try.prog 167 #[v, .string s] w fun e w' => e = .returned (.int .i64 (idxL (fun x => decide (x = s)) l 0)) ∧ w' = w := by
  obtain ⟨a, c, rfl, hl, hm⟩ := h.shape
  rw [strTrs_len] at *
  unfold maxLen at hm
  have HS := Lib.hid h
  clear h
  go_enter Try.func167, Try.ntmps167
  go_wp2_with fail
  go_loopw [5, 8] (fun _ i wr => ∃ k : Nat, k ≤ l.length ∧ i = .int .i64 k ∧ wr = w ∧ Hid (idxL (fun x => decide (x = s)) l 0 = idxL (fun x => decide (x = s)) (l.drop k) k)) (fun _ i _ => l.length - (intOf i).toNat)
  case atStart => exact ⟨0, Nat.zero_le _, rfl, rfl, rfl⟩
  case round =>
    obtain ⟨k, hk, rfl, rfl, HE⟩ := hrel
    by_cases hlt : k < l.length
    · obtain ⟨b, off, rfl, hb, -, hcell⟩ := HS.out.str hlt
      have HST := Lib.hid (idxL_step (p := fun x => decide (x = s)) hlt)
      generalize l[k] = z at *
      go_wp2_with fail
      · rename_i hh
        have hz : s = z := bytes_inj (by simpa using hh)
        go_ret
        exact ⟨ret_int (by rw [HE.out, HST.out]; simp [hz]), rfl⟩
      · rename_i hh
        have hz : ¬ z = s := fun h => by simp [h] at hh
        go_roundw
        case rel => exact ⟨k + 1, by omega, by go_num, by first | trivial | rfl, by show _ = _; rw [HE.out, HST.out]; simp [hz]⟩
        case measure => simp [intOf]; omega
    · have hkl : k = l.length := by omega
      go_wp2_with fail
      go_ret
      exact ⟨ret_int (by rw [HE.out, hkl, List.drop_length]; rfl), rfl⟩

set_option maxRecDepth 100000 in
theorem strContains_impl (l : List ByteArray) (s : ByteArray) (v : Value) (w : World) (h : Rep w (.row 1 (strTrs l)) v) :
    Calls Try.prog 103 #[v, .string s] w fun e w' => e = .returned (.bool (hasS l s)) ∧ w' = w := by
  have hb := Lib.hid (idxL_any (p := fun x => decide (x = s)) l 0)
  have HS := Lib.hid h
  clear h
  go_enter Try.func103, Try.ntmps103
  go_wp2_with fail
  refine (strIndex_impl l s v _ HS.out).mono ?_
  rintro e w1 ⟨rfl, rfl⟩
  generalize idxL (fun x => decide (x = s)) l 0 = q at *
  go_wp2_with fail
  go_ret
  exact ⟨ret_bool hb.out, rfl⟩

/-- The variables met so far: a slice in a box of the closure's. -/
def InvV (base Bo : Nat) (s : List ByteArray) (S : Nat → Prop) (w : World) : Prop :=
  ∃ v U, OB w Bo 66 #[v] ∧ Acc 9 base 1 w (strTrs s) v U ∧ (S = fun b => b = Bo ∨ v.ownBlock = some b) ∧ base ≤ Bo ∧ v.ownBlock ≠ some Bo ∧ ¬ U Bo
theorem InvV.ok (w0 : World) (base Bo : Nat) (h0 : w0.heap.size ≤ base) : InvOk w0 (InvV base Bo) where
  ext := fun _ _ _ _ ⟨v, U, h1, h2, h3⟩ hx => ⟨v, U, h1.ext hx, h2.ext hx, h3⟩
  lt := fun _ _ _ b ⟨v, U, h1, h2, h3, h4, h5, h6⟩ hb => by
    subst h3
    rcases hb with rfl | hb
    · exact h1.lt
    · exact (h2.blk hb).2
  ge := fun _ _ _ b ⟨v, U, h1, h2, h3, h4, h5, h6⟩ hb => by
    subst h3
    rcases hb with rfl | hb
    · omega
    · have := (h2.blk hb).1; omega
def OkV (s : List ByteArray) (l : List GType) : Prop := s.length + l.length ≤ 1099511627776
theorem OkV.step (s : List ByteArray) (y : GType) (l : List GType) (h : OkV s (y :: l)) : OkV (varStep s y) l := by
  unfold OkV at *
  rw [List.length_cons] at h
  have : (varStep s y).length ≤ s.length + 1 := by unfold varStep; split <;> simp
  omega
theorem strTrs_snoc (s : List ByteArray) (n : ByteArray) : strTrs s ++ [[.leaf (.string n)]] = strTrs (s ++ [n]) := by simp [strTrs]
theorem varStep_yes {s : List ByteArray} {n : ByteArray} {xs : List GType} (h : hasS s n = false) : varStep s (.mk 1 n xs) = s ++ [n] := by simp [varStep, h]
theorem varStep_no {s : List ByteArray} {n : ByteArray} {xs : List GType} (h : hasS s n = true) : varStep s (.mk 1 n xs) = s := by simp [varStep, h]
theorem varStep_kind {s : List ByteArray} {k : Int} {n : ByteArray} {xs : List GType} (h : ¬ k = 1) : varStep s (.mk k n xs) = s := by simp [varStep, h]

set_option maxRecDepth 100000 in
set_option maxHeartbeats 1000000 in
theorem vars_step (w0 : World) (base Bo : Nat) (h0 : w0.heap.size ≤ base) : StepC 202 #[.pointer (some ⟨Bo, 0, none⟩)] w0 (InvV base Bo) varStep OkV := by
  intro x s S l cs w hr hw hi ho
  obtain ⟨k, n, xs⟩ := x
  obtain ⟨a, c, rfl, -, hn, -⟩ := GType.opened hr
  obtain ⟨v, U, h1, h2, rfl, h4, h5, h6⟩ := hi
  have hs : s.length ≤ 1099511627776 := by unfold OkV at ho; omega
  obtain ⟨va, vc, rfl, -, -⟩ := h2.shape
  rw [strTrs_len] at *
  have H1 := Lib.hid h1
  have H2 := Lib.hid h2
  have H5 := Lib.hid h5
  have H6 := Lib.hid h6
  have HN := Lib.hid hn
  simp only [List.cons_append, List.nil_append] at *
  have c1 := h1.cell 0
  have l1 := h1.lt
  have hbw : base ≤ w.heap.size := by omega
  clear hr hw ho h1 h2 h5 h6 hn
  go_enter Try.func202, Try.ntmps202
  go_wp2_with (first
    | (go_at_call 103; refine (strContains_impl s n _ _ (H2.out.ext (.alloc (.refl w) _)).rep).mono ?_; rintro e w' ⟨rfl, rfl⟩)
    | (refine wpList_append_acc rfl (.tmp 13) (.tmp 16) 66 rfl 9 1 16 Try.underlying66 iszc9 (by omega) (by omega) base (strTrs s) s.length (strTrs_len s) (.slice va s.length vc) U rfl ((H2.out.ext (.alloc (.refl w) _)).ext (.alloc (.refl _) _)) [.leaf (.string n)] [.string n] (fun _ => False) rfl (OwnL.cons_leaf HN.out (OwnL.nil _ _)) (fun _ _ h => h) (fun _ h => h.elim) (fun _ _ h => h) (w.heap.size + 1) 1 _ rfl (Two.new w _ _ _ _).o1 hs (by simp only [World.size_alloc]; omega) ?_; intro g gc wb hacc hgb hgg hgl; rw [strTrs_snoc] at hacc; have HACC := Lib.hid hacc; have HGB := Lib.hid hgb; have HGG := Lib.hid hgg; clear hacc hgb hgg)
    | (refine wpList_store_cell rfl 66 (.tmp 1) (.tmp 17) rfl Bo 0 rfl (.slice (some ⟨g, 0, none⟩) (s.length + 1) gc) rfl rfl 66 _ ((H1.out.ext (.alloc (.alloc (.refl w) _) _)).grown_own HGB.out H5.out) isz66 (by simp) rfl ?_; intro wc hoc hgc hzc; have HOC := Lib.hid hoc; have HGC := Lib.hid hgc; clear hoc hgc hzc))
  · rename_i hk hh
    have hz : hasS s n = false := by simpa using hh
    go_end0
    have hob := HOC.out
    rw [splice_whole (by rfl)] at hob
    have hgg := HGG.out
    have hx : Chg (fun b => b = Bo ∨ (Value.slice va s.length vc).ownBlock = some b) w wb := (Chg.of_ext (.alloc (.alloc (.refl w) _) _)).trans ((Chg.of_grown_own HGB.out).mono fun x h => .inr h)
    simp only [World.size_alloc] at hgg
    have hgo : ∀ b, g = b → (b = Bo ∨ (Value.slice va s.length vc).ownBlock = some b) ∨ w.heap.size ≤ b := by
      rintro b rfl
      rcases hgg with h | h
      · exact .inl (.inr h)
      · exact .inr (by omega)
    have hgB : g ≠ Bo := by
      rintro rfl
      rcases hgg with h | h
      · exact H5.out h
      · omega
    refine ⟨⟨_, rfl⟩, (fun b => b = Bo ∨ (Value.slice (some ⟨g, 0, none⟩) (s.length + 1) gc).ownBlock = some b), ⟨_, (fun x => U x ∨ False ∨ x = g), hob, ?_, rfl, h4, ?_, ?_⟩, hx.trans ((Chg.of_grown HGC.out rfl).mono fun x h => .inl h.symm), ?_⟩
    · first | rw [varStep_yes hz] | rw [hk, varStep_yes hz]
      refine HACC.out.keep HGC.out.size fun b hb hbl => HGC.out.block b hbl ?_
      intro h
      injection h with h
      subst h
      rcases hb with (hb | hb | hb) | hb
      · exact H6.out hb
      · exact hb
      · exact hgB hb.symm
      · simp [Value.ownBlock] at hb; exact hgB hb
    · simp [Value.ownBlock]; exact hgB
    · rintro (hb | hb | hb)
      · exact H6.out hb
      · exact hb
      · exact hgB hb.symm
    · rintro b (rfl | h)
      · exact .inl (.inl rfl)
      · simp [Value.ownBlock] at h; exact hgo b h
  · rename_i hk hh
    have hz : hasS s n = true := by simpa using hh
    go_end0
    first | rw [varStep_no hz] | rw [hk, varStep_no hz]
    exact ⟨⟨_, rfl⟩, _, ⟨_, U, H1.out.ext (.alloc (.refl w) _), H2.out.ext (.alloc (.refl w) _), rfl, h4, H5.out, H6.out⟩, Chg.of_ext (.alloc (.refl w) _), fun b h => .inl h⟩
  · rename_i hk
    go_end0
    rw [varStep_kind hk]
    exact ⟨⟨_, rfl⟩, _, ⟨_, U, H1.out.ext (.alloc (.refl w) _), H2.out.ext (.alloc (.refl w) _), rfl, h4, H5.out, H6.out⟩, Chg.of_ext (.alloc (.refl w) _), fun b h => .inl h⟩

set_option maxRecDepth 100000 in
set_option maxHeartbeats 1000000 in
theorem variablesOf_impl (xs : List GType) (v : Value) (w : World) (h : Rep w (.row 3 (GType.trs xs)) v) (hsz : GType.sizes xs ≤ 1099511627776) :
    Calls Try.prog 161 #[v] w fun e w' => ∃ u, e = .returned u ∧ Ext w w' ∧ Own w' (.row 1 (strTrs ((GType.pres xs).foldl varStep []))) u (Between w w') := by
  obtain ⟨a, c, rfl, hl, hm⟩ := h.shape
  rw [GType.trs_len] at *
  unfold maxLen at hm
  have HS := Lib.hid h
  have HZ : Hid (OkV [] (GType.pres xs)) := by show OkV _ _; unfold OkV; rw [GType.pres_length]; simpa using hsz
  clear h hsz
  go_enter Try.func161, Try.ntmps161
  go_wp2_with fail
  have h2 := Two.new w 9 66 #[] #[.slice (some ⟨w.heap.size, 0, none⟩) 0 0]
  have hi0 : InvV w.heap.size (w.heap.size + 1) [] (fun b => b = w.heap.size + 1 ∨ b = w.heap.size) ((w.alloc (.cells #[] 9)).alloc (.cells #[.slice (some ⟨w.heap.size, 0, none⟩) 0 0] 66)) := by
    refine ⟨_, fun _ => False, h2.o1, Acc.empty (Nat.le_refl _) h2.o0 (by unfold maxLen; omega) rfl, ?_, by omega, by simp [Value.ownBlock], fun h => h⟩
    funext b
    simp only [Value.ownBlock, Option.some.injEq, eq_iff_iff]
    exact ⟨fun h => h.imp id Eq.symm, fun h => h.imp id Eq.symm⟩
  have HI0 := Lib.hid hi0
  clear h2 hi0
  go_loopw [9] (fun i wr => ∃ (k : Nat) (s : List ByteArray) (S : Nat → Prop), k ≤ xs.length ∧ i = .int .i64 k ∧ Hid (InvV w.heap.size (w.heap.size + 1) s S wr) ∧ Hid (Ext w wr) ∧ Hid (OkV s (GType.pres (xs.drop k))) ∧ Hid ((GType.pres (xs.drop k)).foldl varStep s = (GType.pres xs).foldl varStep [])) (fun i _ => xs.length - (intOf i).toNat)
  case atStart => exact ⟨0, [], _, Nat.zero_le _, rfl, HI0.out, .alloc (.alloc (.refl _) _) _, HZ.out, by rfl⟩
  case round =>
    obtain ⟨k, s, S, hk, rfl, HV, HW, HOk, HEk⟩ := hrel
    by_cases hlt : k < xs.length
    · obtain ⟨b, off, cs, rfl, hb, hcs, hc⟩ := HS.out.at2 (k := k) (GType.trs_get hlt)
      have HM := Lib.hid (List.getElem_mem hlt)
      have HCS := Lib.hid hcs
      have HC := Lib.hid (cells_ext HW.out hb hc)
      have HI : Hid ((Try.prog.info? 32).map (·.size) = some cs.length) := by rw [← hcs.length, GType.tr_len]; exact isz32
      have HCL : Hid (cs.length = 3) := by rw [← hcs.length, GType.tr_len]; rfl
      clear hcs hc
      have HPS := Lib.hid (GType.pres_step hlt)
      go_wp2_with (first
        | (refine wpList_load_rep rfl 32 (.tmp 11) rfl b (off + k * 3) rfl cs _ Try.underlying32 HI.out HC.out ?_)
        | (refine wpList_store_rep rfl 32 (.tmp 5) (.tmp 12) rfl wr.heap.size 0 rfl cs rfl 32 _ (OB.new wr _ _) HI.out (by rw [HCL.out]; exact Nat.le_refl _) HCS.out.one ?_; intro wb hob hgb hzb; rw [splice_whole (by rw [HCL.out]; rfl)] at hob; have HOB := Lib.hid hob; have HXB := Lib.hid (grown_ext (.alloc (.refl wr) _) hgb (Nat.le_refl _)); clear hob hgb hzb)
        | (refine wpList_load_rep rfl 32 (.tmp 5) rfl wr.heap.size 0 rfl cs _ Try.underlying32 HI.out HOB.out.cells0 ?_))
      have hok : OkV s (xs[k].pre ++ GType.pres (xs.drop (k + 1))) := by rw [← HPS.out]; exact HOk.out
      refine (eachType_of 202 _ (run_callFunc_body Try.func202 (by kernel_rfl) (by kernel_rfl)) w (InvV w.heap.size (w.heap.size + 1)) varStep OkV (InvV.ok w _ _ (Nat.le_refl _)) OkV.step (vars_step w _ _ (Nat.le_refl _)) xs[k] s S (GType.pres (xs.drop (k + 1))) cs _ HCS.out (HW.out.trans HXB.out) ((InvV.ok w _ _ (Nat.le_refl _)).ext _ _ _ _ HV.out HXB.out) hok).mono ?_
      rintro e w1 ⟨⟨r, rfl⟩, ⟨S', hi, hc, -⟩, hok'⟩
      have HV1 := Lib.hid hi
      have HW1 := Lib.hid ((HW.out.trans HXB.out).chg hc (fun b hb => (InvV.ok w _ _ (Nat.le_refl _)).ge _ _ _ b HV.out hb))
      have HOk1 := Lib.hid hok'
      clear hi hc hok' hok
      go_wp2_with fail
      go_roundw
      case rel => exact ⟨k + 1, _, S', by omega, by go_num, HV1.out, HW1.out, HOk1.out, by have := HEk.out; rw [HPS.out, List.foldl_append] at this; exact this⟩
      case measure => simp [intOf]; omega
    · have hkl : k = xs.length := by omega
      obtain ⟨v, U, h1, h2, -, -, -⟩ := HV.out
      have hce := h1.cell 0
      have HA := Lib.hid h2
      obtain ⟨va, vc, rfl, -, -⟩ := h2.shape
      clear h1 h2
      go_wp2_with fail
      go_ret
      have h5 := HEk.out
      rw [hkl, List.drop_length] at h5
      simp only [GType.pres, List.foldl_nil] at h5
      rw [← h5]
      exact ⟨_, rfl, HW.out, HA.out.wide.own⟩

end Go.Proofs.Ytoifjkggpanceaa
