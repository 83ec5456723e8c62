/- Words, rules and walks of several kinds, laid together: FgT, FgE, FgV, FgX, PlZ, FgZ. No conditions but those that each theorem states. -/
import Derived.Test.YtmpepccpnnldoaaQhcd17919c
import Derived.Test.YtmpepccpnnldoaaQh35dfa868
import Derived.Test.YtmpepccpnnldoaaQh63914b0f
set_option linter.unusedSimpArgs false
set_option linter.unusedVariables false
namespace Go.Proofs.Ytmpepccpnnldoaa
set_option linter.unusedSimpArgs false
set_option linter.unusedVariables false
open Go.RowKit Go.Proofs

def baseB (n : ByteArray) : Bool := decide (n = s_int) || decide (n = s_bool)
def fineB (k : Int) (n : ByteArray) (len : Nat) : Bool :=
  if k = 1 ∨ k = 4 then nmB n && decide ((len : Int) = 0) else if k = 3 then nmB n && decide ((len : Int) = 1) else if k = 2 then (nmB n && decide ((len : Int) ≤ 3)) || (baseB n && decide ((len : Int) = 0)) else false
mutual
def GType.formB : GType → Bool
  | .mk k n xs => fineB k n xs.length && GType.formBs xs
def GType.formBs : List GType → Bool
  | [] => true
  | x :: r => GType.formB x && GType.formBs r
end
mutual
def GType.dep : GType → Nat
  | .mk _ _ xs => GType.deps xs
def GType.deps : List GType → Nat
  | [] => 0
  | x :: r => max (GType.dep x + 1) (GType.deps r)
end
theorem GType.formBs_all : ∀ xs : List GType, GType.formBs xs = xs.all GType.formB
  | [] => rfl
  | x :: r => by rw [GType.formBs, List.all_cons, GType.formBs_all r]
theorem GType.sizes_app : ∀ a b : List GType, GType.sizes (a ++ b) = GType.sizes a + GType.sizes b
  | [], b => by simp [GType.sizes]
  | x :: r, b => by rw [List.cons_append, GType.sizes, GType.sizes, GType.sizes_app r b]; omega
theorem GType.deps_app : ∀ a b : List GType, GType.deps (a ++ b) = max (GType.deps a) (GType.deps b)
  | [], b => by simp [GType.deps]
  | x :: r, b => by rw [List.cons_append, GType.deps, GType.deps, GType.deps_app r b]; omega
theorem GType.sizes_le {xs : List GType} {x : GType} (h : x ∈ xs) : GType.size x ≤ GType.sizes xs := by
  induction xs with
  | nil => simp at h
  | cons a r ih =>
    rw [GType.sizes]
    rcases List.mem_cons.1 h with rfl | h
    · omega
    · have := ih h; omega
theorem GType.dep_size : ∀ t : GType, GType.dep t + 1 ≤ GType.size t := by
  refine GType.ind fun k n xs ih => ?_
  rw [GType.dep, GType.size]
  have : ∀ l : List GType, (∀ x ∈ l, GType.dep x + 1 ≤ GType.size x) → GType.deps l ≤ GType.sizes l := by
    intro l
    induction l with
    | nil => intro _; simp [GType.deps]
    | cons a l ihl =>
      intro h
      have h1 := h a (by simp)
      have h2 := ihl fun x hx => h x (by simp [hx])
      rw [GType.deps, GType.sizes]
      omega
  have := this xs ih
  omega
theorem wrap_in {x : Int} (h0 : -1000 ≤ x) (h1 : x ≤ 1099511627776) : wrap64 x = x := by
  unfold wrap64 IntKind.wrap
  simp [IntKind.bits, IntKind.signed]
  omega

/-! ### depth and size -/
theorem dep_i : ∀ t : GType, GType.size t ≤ 4294967296 → Evt fun fu => iTypeDepth_M fu t = some (GType.dep t : Int) := by
  refine GType.ind fun k n xs ih hz => ?_
  rw [GType.size] at hz
  refine Evt.succ ((Evt.list (l := xs) fun x hx => ih x hx (by have := GType.sizes_le hx; omega)).imp fun fu h => ?_)
  show iTypeDepth_G fu (iTypeDepth_M fu) _ = _
  unfold iTypeDepth_G iTypeDepth_R1
  refine soR (loopN_inv (fun i => ((GType.deps (xs.take i) : Nat) : Int)) (n := xs.length) fun i hi => ?_) ?_
  · unfold iTypeDepth_F1
    have hm := atD_mem hi
    rw [GType.gArgs_mk, h _ hm]
    have h1 := GType.dep_size (atD xs i)
    have h2 := GType.sizes_le hm
    show some (LR.next (max _ (wrap64 _))) = _
    rw [wrap_in (by omega) (by omega), take_atD hi, GType.deps_app]
    simp only [GType.deps]
    congr 2
    omega
  · rw [List.take_length, GType.dep]
theorem size_i : ∀ t : GType, GType.size t ≤ 4294967296 → Evt fun fu => iTypeSize_M fu t = some (GType.size t : Int) := by
  refine GType.ind fun k n xs ih hz => ?_
  rw [GType.size] at hz
  refine Evt.succ ((Evt.list (l := xs) fun x hx => ih x hx (by have := GType.sizes_le hx; omega)).imp fun fu h => ?_)
  show iTypeSize_G fu (iTypeSize_M fu) _ = _
  unfold iTypeSize_G iTypeSize_R1
  refine soR (loopN_inv (fun i => ((1 + GType.sizes (xs.take i) : Nat) : Int)) (n := xs.length) fun i hi => ?_) ?_
  · unfold iTypeSize_F1
    have hm := atD_mem hi
    rw [GType.gArgs_mk, h _ hm]
    have h3 := congrArg GType.sizes (List.take_append_drop (i + 1) xs)
    rw [GType.sizes_app, take_atD hi, GType.sizes_app] at h3
    simp only [GType.sizes] at h3
    show some (LR.next (wrap64 _)) = _
    rw [wrap_in (by omega) (by omega), take_atD hi, GType.sizes_app]
    simp only [GType.sizes]
    congr 2
    omega
  · rw [List.take_length, GType.size]
theorem max_s (fu : Nat) (a b : Int) : sl1Max_M fu a b = some (max a b) := by
  unfold sl1Max_M
  rw [sw_if]
  by_cases h : a > b
  · rw [if_pos (by simpa using h)]; congr 1; omega
  · rw [if_neg (by simpa using h)]; congr 1; omega
theorem dep_s : ∀ t : GType, GType.size t ≤ 4294967296 → Evt fun fu => sTypeDepth_M fu t = some (GType.dep t : Int) := by
  refine GType.ind fun k n xs ih hz => ?_
  rw [GType.size] at hz
  refine Evt.succ ((Evt.list (l := xs) fun x hx => ih x hx (by have := GType.sizes_le hx; omega)).imp fun fu h => ?_)
  show sTypeDepth_G fu (sTypeDepth_M fu) _ = _
  unfold sTypeDepth_G sTypeDepth_R1
  refine soR (loopN_inv (fun i => ((GType.deps (xs.take i) : Nat) : Int)) (n := xs.length) fun i hi => ?_) ?_
  · unfold sTypeDepth_F1
    have hm := atD_mem hi
    rw [GType.gArgs_mk, h _ hm]
    have h1 := GType.dep_size (atD xs i)
    have h2 := GType.sizes_le hm
    show bd (sl1Max_M _ _ (wrap64 _)) _ = _
    rw [wrap_in (by omega) (by omega), max_s, take_atD hi, GType.deps_app]
    simp only [GType.deps]
    show some (LR.next _) = _
    congr 2
    omega
  · rw [List.take_length, GType.dep]
theorem left_s : ∀ t : GType, Evt fun fu => ∀ L : Int, 0 ≤ L → L ≤ 1000 → Ok (sl4Left_M fu t L) (fun r => ((GType.size t : Int) ≤ L ∧ r = L - GType.size t) ∨ (L < GType.size t ∧ r < 0)) := by
  refine GType.ind fun k n xs ih => ?_; refine Evt.succ ((Evt.list (l := xs) fun x hx => ih x hx).imp fun fu h L h0 h1 => ?_)
  show Ok (sl4Left_G fu (sl4Left_M fu) _ L) _
  unfold sl4Left_G sl4Left_R1
  rw [wrap_in (by omega) (by omega), GType.size]
  refine Ok.so (Q := PS (fun _ => False) fun v => ((1 + GType.sizes xs : Nat) : Int) ≤ L ∧ v = L - (1 + GType.sizes xs : Nat) ∨ L < ((1 + GType.sizes xs : Nat) : Int) ∧ v < 0) ?_ (fun x hx => by cases hx) (fun v hv => Ok.some hv)
  refine Ok.loopN0 (fun i v => i ≤ xs.length ∧ (((1 + GType.sizes (xs.take i) : Nat) : Int) ≤ L ∧ v = L - (1 + GType.sizes (xs.take i) : Nat) ∨ L < ((1 + GType.sizes (xs.take i) : Nat) : Int) ∧ v < 0)) ⟨Nat.zero_le _, ?_⟩ ?_ ?_
  · simp only [List.take_zero, GType.sizes]
    omega
  · rintro i v hi ⟨hi2, hv⟩
    obtain rfl : i = xs.length := by rw [GType.gArgs_mk] at hi; omega
    rwa [List.take_length] at hv
  · rintro i v hi ⟨hi2, hv⟩
    rw [GType.gArgs_mk] at hi
    have h3 := congrArg GType.sizes (List.take_append_drop i xs)
    rw [GType.sizes_app] at h3
    unfold sl4Left_F1
    refine Ok.sw (fun hc => ?_) (fun hc => ?_)
    · have hc : v ≥ 0 := by simpa using hc
      rw [GType.gArgs_mk]
      refine Ok.bd (h _ (atD_mem hi) v hc (by omega)) fun r hr => Ok.some ⟨hi, ?_⟩
      rw [take_atD hi, GType.sizes_app]
      simp only [GType.sizes]
      omega
    · have hc : ¬ v ≥ 0 := by simpa using hc
      refine Ok.some ?_
      show _ ∨ _
      omega

/-! ### the form -/
theorem base_i (fu : Nat) (n : ByteArray) : iisBuiltIn_M fu n = some (baseB n) := by
  unfold iisBuiltIn_M baseB
  cases h : decide (n = s_int) <;> rfl
theorem base_s (fu : Nat) (n : ByteArray) : sl4Base_M fu n = some (baseB n) := by
  unfold sl4Base_M baseB
  cases h : decide (n = s_int) <;> rfl
theorem cont_i {fu : Nat} {xs : List GType} (h : ∀ x ∈ xs, iisFormed_M fu x = some (GType.formB x)) : gContainsFunc_Type__iisFormed_1_M (fu + 3) xs = some (!(GType.formBs xs)) := by
  show bd (so (loopN _ _ _ _) _) _ = _
  rw [loopN_index (p := fun x => !(GType.formB x)) (fun i hi => by
    unfold gIndexFunc_Type__iisFormed_1_F1
    show bd (bd (iisFormed_M fu _) _) _ = _
    rw [h _ (atD_mem hi)]
    cases GType.formB (atD xs i) <;> rfl)]
  have h2 := index_any (l := xs) (p := fun x => !(GType.formB x))
  have h3 : (!(GType.formBs xs)) = xs.any fun x => !(GType.formB x) := by rw [GType.formBs_all, List.any_eq_not_all_not]; simp
  rw [h3, ← h2]
  cases List.findIdx? (fun x => !(GType.formB x)) xs <;> rfl
theorem form_i : ∀ t : GType, Evt fun fu => iisFormed_M fu t = some (GType.formB t) := by
  refine GType.ind fun k n xs ih => ?_
  have hh : Evt fun fu => ∀ x ∈ xs, iisFormed_M fu x = some (GType.formB x) := Evt.list (l := xs) fun x hx => ih x hx
  refine Evt.succ (Evt.succ (Evt.succ (Evt.succ (hh.imp fun fu h => ?_))))
  have hc := cont_i h
  show iisFormed_G (fu + 3) _ _ _ _ _ = _
  unfold iisFormed_G iisFormed_C1
  rw [GType.gKind_mk, GType.gName_mk, GType.gArgs_mk, hc, name_i, base_i, GType.formB]
  unfold fineB
  by_cases h1 : k = 1
  · subst h1
    cases nmB n <;> cases decide (((xs.length : Nat) : Int) = 0) <;> cases GType.formBs xs <;> rfl
  · by_cases h4 : k = 4
    · subst h4
      cases nmB n <;> cases decide (((xs.length : Nat) : Int) = 0) <;> cases GType.formBs xs <;> rfl
    · rw [if_neg (by omega), decide_eq_false h1, decide_eq_false h4]
      by_cases h3 : k = 3
      · subst h3
        cases nmB n <;> cases decide (((xs.length : Nat) : Int) = 1) <;> cases GType.formBs xs <;> rfl
      · rw [if_neg h3, decide_eq_false h3]
        by_cases h2 : k = 2
        · subst h2
          cases nmB n <;> cases baseB n <;> cases decide (((xs.length : Nat) : Int) = 0) <;> cases decide (((xs.length : Nat) : Int) ≤ 3) <;> cases GType.formBs xs <;> rfl
        · rw [if_neg h2, decide_eq_false h2]
          rfl
theorem form_s : ∀ t : GType, Evt fun fu => sl4Form_M fu t = some (GType.formB t) := by
  refine GType.ind fun k n xs ih => ?_
  have hh : Evt fun fu => ∀ x ∈ xs, sl4Form_M fu x = some (GType.formB x) := Evt.list (l := xs) fun x hx => ih x hx
  refine Evt.succ (hh.imp fun fu h => ?_)
  have hl : ∀ x2 v3, sl4Form_R3 fu (sl4Form_M fu) (.mk k n xs) x2 v3 = some (.inr (v3 && GType.formBs xs)) := by
    intro x2 v3
    unfold sl4Form_R3
    rw [GType.gArgs_mk]
    have := loopN_inv (f := sl4Form_F3 fu (sl4Form_M fu) (.mk k n xs) x2 v3) (fun i => v3 && GType.formBs (xs.take i)) (n := xs.length) fun i hi => by
      unfold sl4Form_F3
      rw [GType.gArgs_mk, h _ (atD_mem hi), take_atD hi, GType.formBs_all, GType.formBs_all, List.all_append]
      cases v3 <;> cases (xs.take i).all GType.formB <;> simp [sw, bd]
    rw [List.take_length] at this
    simpa [GType.formBs] using this
  show sl4Form_G fu (sl4Form_M fu) _ = _
  unfold sl4Form_G sl4Form_C1 sl4Form_C2
  rw [GType.gKind_mk, GType.gName_mk, GType.gArgs_mk, name_s, base_s, GType.formB]
  show so _ _ = _
  simp only [hl]
  unfold fineB
  by_cases h1 : k = 1
  · subst h1
    cases nmB n <;> cases decide (((xs.length : Nat) : Int) = 0) <;> cases GType.formBs xs <;> rfl
  · by_cases h4 : k = 4
    · subst h4
      cases nmB n <;> cases decide (((xs.length : Nat) : Int) = 0) <;> cases GType.formBs xs <;> rfl
    · rw [if_neg (by omega), decide_eq_false h1, decide_eq_false h4]
      by_cases h3 : k = 3
      · subst h3
        cases nmB n <;> cases decide (((xs.length : Nat) : Int) = 1) <;> cases GType.formBs xs <;> rfl
      · rw [if_neg h3, decide_eq_false h3]
        by_cases h2 : k = 2
        · subst h2
          cases nmB n <;> cases baseB n <;> cases decide (((xs.length : Nat) : Int) = 0) <;> cases decide (((xs.length : Nat) : Int) ≤ 3) <;> cases GType.formBs xs <;> rfl
        · rw [if_neg h2, decide_eq_false h2]
          rfl
/-! ### valid bounds -/
theorem bd_some {α β : Type} (a : α) (f : α → Option β) : bd (some a) f = f a := rfl
def vldT (t : GType) : Bool := GType.formB t && (decide ((GType.dep t : Int) ≤ 6) && decide ((GType.size t : Int) ≤ 60))
def vldBd (b : GBound) : Bool := nmB b.gTrait && vldT b.gType
theorem vldT_i (t : GType) (h : GType.size t ≤ 4294967296) : Evt fun fu => iIsValidType_M fu t = some (vldT t) := by
  refine ((form_i t).and ((dep_i t h).and (size_i t h))).imp fun fu ⟨h1, h2, h3⟩ => ?_
  unfold iIsValidType_M vldT
  rw [h1, h2, h3]
  simp only [bd_some]
  cases GType.formB t <;> cases decide ((GType.dep t : Int) ≤ 6) <;> cases decide ((GType.size t : Int) ≤ 60) <;> rfl
theorem vldT_s (t : GType) (h : GType.size t ≤ 4294967296) : Evt fun fu => sIsValidType_M fu t = some (vldT t) := by
  refine ((form_s t).and ((dep_s t h).and (left_s t))).imp fun fu ⟨h1, h2, h3⟩ => ?_
  obtain ⟨r, hr, hp⟩ := h3 60 (by decide) (by decide)
  unfold sIsValidType_M vldT
  rw [hr]
  have : decide (r ≥ 0) = decide ((GType.size t : Int) ≤ 60) := by
    by_cases hs : (GType.size t : Int) ≤ 60
    · rw [decide_eq_true hs]; exact decide_eq_true (by omega)
    · rw [decide_eq_false hs]; exact decide_eq_false (by omega)
  show sw (decide (r ≥ 0)) _ _ = _
  rw [this, h1, h2]
  simp only [bd_some]
  cases GType.formB t <;> cases decide ((GType.dep t : Int) ≤ 6) <;> cases decide ((GType.size t : Int) ≤ 60) <;> rfl
theorem vldBd_i (b : GBound) (h : GType.size b.gType ≤ 4294967296) : Evt fun fu => iIsValidBound_M fu b = some (vldBd b) := by
  refine (vldT_i b.gType h).imp fun fu h1 => ?_
  unfold iIsValidBound_M vldBd
  rw [name_i, h1]
  cases nmB b.gTrait <;> rfl
theorem vldBd_s (b : GBound) (h : GType.size b.gType ≤ 4294967296) : Evt fun fu => sIsValidBound_M fu b = some (vldBd b) := by
  refine (vldT_s b.gType h).imp fun fu h1 => ?_
  unfold sIsValidBound_M vldBd
  rw [name_s, h1]
  cases nmB b.gTrait <;> rfl
end Go.Proofs.Ytmpepccpnnldoaa

namespace Go.Proofs.Ytmpepccpnnldoaa
set_option linter.unusedSimpArgs false
set_option linter.unusedVariables false
open Go.RowKit Go.Proofs

theorem dataApp (a b : ByteArray) : (a ++ b).data.toList = a.data.toList ++ b.data.toList := by
  obtain ⟨a⟩ := a
  obtain ⟨b⟩ := b
  rw [ByteArray.mk_append_mk]
theorem dataLen (a : ByteArray) : a.data.toList.length = a.size := by rw [Array.length_toList]; rfl
theorem dataInj {a b : ByteArray} (h : a.data.toList = b.data.toList) : a = b := by
  obtain ⟨a⟩ := a
  obtain ⟨b⟩ := b
  have : a = b := Array.ext' h
  rw [this]
theorem bAt_data {v : ByteArray} {k : Nat} (h : k < v.size) : bAt v k = v.data.toList[k]'(by rw [dataLen]; exact h) := by
  unfold bAt
  rw [getElem?_pos v k h]
  rfl
theorem bAt_mem {v : ByteArray} {k : Nat} (h : k < v.size) : bAt v k ∈ v.data.toList := by rw [bAt_data h]; exact List.getElem_mem _

mutual
def GType.enc : GType → GSExpr
  | .mk k n xs => if k = 1 then .mk (x_27 ++ n) [] else if k = 4 then .mk s_ [.mk s_dyn [], .mk n []] else if k = 3 then .mk s_ (.mk s_assoc [] :: .mk n [] :: GType.encs xs) else if xs.length = 0 then .mk n [] else .mk s_ (.mk n [] :: GType.encs xs)
def GType.encs : List GType → List GSExpr
  | [] => []
  | x :: r => GType.enc x :: GType.encs r
end
theorem GType.encs_map : ∀ xs : List GType, GType.encs xs = xs.map GType.enc
  | [] => rfl
  | x :: r => by rw [GType.encs, List.map_cons, GType.encs_map r]

theorem nm_size {n : ByteArray} (h : nmB n = true) : 1 ≤ n.size ∧ n.size ≤ 8 := by
  unfold nmB at h
  simp only [Bool.and_eq_true, decide_eq_true_eq] at h
  omega
theorem form_inv {k : Int} {n : ByteArray} {xs : List GType} (h : GType.formB (.mk k n xs) = true) :
    (k = 1 ∨ k = 4 ∨ k = 3 ∨ k = 2) ∧ (nmB n = true ∨ (k = 2 ∧ (n = s_int ∨ n = s_bool))) ∧ (k = 1 ∨ k = 4 → xs = []) ∧ (k = 3 → xs.length = 1) ∧ xs.length ≤ 3 ∧ ∀ x ∈ xs, GType.formB x = true := by
  rw [GType.formB, GType.formBs_all, Bool.and_eq_true] at h
  obtain ⟨hf, ha⟩ := h
  have ha : ∀ x ∈ xs, GType.formB x = true := by simpa using ha
  unfold fineB at hf
  split at hf
  · rename_i hk
    simp only [Bool.and_eq_true, decide_eq_true_eq] at hf
    have h0 : xs = [] := List.eq_nil_of_length_eq_zero (by omega)
    subst h0
    exact ⟨by omega, .inl hf.1, fun _ => rfl, fun h3 => by omega, by simp, ha⟩
  · rename_i hk
    split at hf
    · rename_i hk3
      simp only [Bool.and_eq_true, decide_eq_true_eq] at hf
      exact ⟨by omega, .inl hf.1, fun h => absurd h hk, fun _ => by omega, by omega, ha⟩
    · rename_i hk3
      split at hf
      · rename_i hk2
        simp only [Bool.and_eq_true, Bool.or_eq_true, decide_eq_true_eq, baseB] at hf
        rcases hf with hf | hf
        · exact ⟨by omega, .inl hf.1, fun h => absurd h hk, fun h => absurd h hk3, by omega, ha⟩
        · exact ⟨by omega, .inr ⟨hk2, hf.1⟩, fun h => absurd h hk, fun h => absurd h hk3, by omega, ha⟩
      · cases hf
theorem form_size {k : Int} {n : ByteArray} {xs : List GType} (h : GType.formB (.mk k n xs) = true) : 1 ≤ n.size ∧ n.size ≤ 8 := by
  rcases (form_inv h).2.1 with h | ⟨-, rfl | rfl⟩
  · exact nm_size h
  · decide
  · decide

theorem enc_i : ∀ t : GType, GType.formB t = true → Evt fun fu => iencodeType_M fu t = some (GType.enc t) := by
  refine GType.ind fun k n xs ih hf => ?_
  have hz := form_size hf
  obtain ⟨hk, -, h14, h3, hl, hx⟩ := form_inv hf
  have hh : Evt fun fu => ∀ x ∈ xs, iencodeType_M fu x = some (GType.enc x) := Evt.list (l := xs) fun x hm => ih x hm (hx x hm)
  have hes : Evt fun fu => iencodeTypes_M fu xs = some (GType.encs xs) := by
    refine Evt.succ (hh.imp fun fu h => ?_)
    show iencodeTypes_G fu _ _ xs = _
    unfold iencodeTypes_G iencodeTypes_R1
    refine soR (loopN_inv (fun i => (xs.take i).map GType.enc) (n := xs.length) fun i hi => ?_) ?_
    · unfold iencodeTypes_F1
      rw [h _ (atD_mem hi), bd_some, gdT (by simp; omega) rfl, take_atD hi, List.map_append]
      rfl
    · rw [List.take_length, GType.encs_map]
  refine Evt.succ ((hh.and hes).imp fun fu ⟨h, he⟩ => ?_)
  show iencodeType_G fu _ _ _ = _
  unfold iencodeType_G
  rw [GType.gKind_mk, GType.gName_mk, GType.gArgs_mk, GType.enc]
  have hz1 : (x_27 : ByteArray).size = 1 := rfl
  by_cases h1 : k = 1
  · rw [if_pos h1, decide_eq_true h1]
    show gd _ _ = _
    rw [gdT (by omega) rfl]
    rfl
  · rw [if_neg h1, decide_eq_false h1]
    by_cases h4 : k = 4
    · rw [if_pos h4, decide_eq_true h4]
      rfl
    · rw [if_neg h4, decide_eq_false h4]
      by_cases h3' : k = 3
      · have hl1 := h3 h3'
        rw [if_pos h3', decide_eq_true h3']
        show gd _ _ = _
        rw [gdT (by omega) rfl, h _ (atD_mem (by omega))]
        match xs, hl1 with
        | [x], _ => rfl
      · rw [if_neg h3', decide_eq_false h3']
        by_cases h0 : xs.length = 0
        · rw [if_pos h0, decide_eq_true (by omega)]
          rfl
        · rw [if_neg h0, decide_eq_false (by omega)]
          show bd (iencodeTypes_M fu xs) _ = _
          rw [he, bd_some, gdT (by rw [GType.encs_map]; simp; omega) rfl]
          rfl
theorem enc_s : ∀ t : GType, GType.formB t = true → Evt fun fu => sl5Sx_M fu t = some (GType.enc t) := by
  refine GType.ind fun k n xs ih hf => ?_
  have hz := form_size hf
  obtain ⟨hk, -, h14, h3, hl, hx⟩ := form_inv hf
  have hh : Evt fun fu => ∀ x ∈ xs, sl5Sx_M fu x = some (GType.enc x) := Evt.list (l := xs) fun x hm => ih x hm (hx x hm)
  refine Evt.succ (hh.imp fun fu h => ?_)
  have hr : ∀ v x, v.length ≤ 1 → sl5Sx_R3 fu (sl5Sx_M fu) (.mk k n xs) v x = some (.inr (v ++ [x] ++ GType.encs xs)) := by
    intro v x hv
    unfold sl5Sx_R3
    rw [GType.gArgs_mk]
    have := loopN_inv (f := sl5Sx_F3 fu (sl5Sx_M fu) (.mk k n xs) v x) (fun i => v ++ [x] ++ (xs.take i).map GType.enc) (n := xs.length) fun i hi => by
      unfold sl5Sx_F3
      rw [GType.gArgs_mk, h _ (atD_mem hi), bd_some, gdT (by simp; omega) rfl, take_atD hi, List.map_append, List.append_assoc _ _ (List.map _ _), List.append_assoc]
      simp
    simp only [List.take_length, List.take_zero, List.map_nil, List.append_nil] at this
    rw [GType.encs_map]
    exact this
  show sl5Sx_G fu (sl5Sx_M fu) _ = _
  unfold sl5Sx_G sl5Sx_C1 sl5Sx_C2
  rw [GType.gKind_mk, GType.gName_mk, GType.gArgs_mk, GType.enc]
  have hz1 : (x_27 : ByteArray).size = 1 := rfl
  by_cases h1 : k = 1
  · rw [if_pos h1, decide_eq_true h1]
    show so (gd _ _) _ = _
    rw [gdT (by omega) rfl]
    rfl
  · rw [if_neg h1, decide_eq_false h1]
    by_cases h4 : k = 4
    · rw [if_pos h4, decide_eq_true h4]
      show so (bd (gd _ _) _) _ = _
      rw [gdT (by simp) rfl]
      rfl
    · rw [if_neg h4, decide_eq_false h4]
      by_cases h3' : k = 3
      · rw [if_pos h3', decide_eq_false (by omega : ¬ k = 2), decide_eq_true h3']
        show so (gd _ _) _ = _
        rw [gdT (by simp) rfl]
        show gd _ _ = _
        rw [gdT (by simp) rfl]
        show so (sl5Sx_R3 fu (sl5Sx_M fu) (.mk k n xs) _ _) _ = _
        rw [hr _ _ (by simp)]
        rfl
      · have h2 : k = 2 := by omega
        rw [if_neg h3', decide_eq_true h2, decide_eq_false h3']
        by_cases h0 : xs.length = 0
        · rw [if_pos h0, decide_eq_true (by omega)]
          rfl
        · rw [if_neg h0, decide_eq_false (by omega)]
          show gd _ _ = _
          rw [gdT (by simp) rfl]
          show so (sl5Sx_R3 fu (sl5Sx_M fu) (.mk k n xs) _ _) _ = _
          rw [hr _ _ (by simp)]
          rfl
end Go.Proofs.Ytmpepccpnnldoaa

namespace Go.Proofs.Ytmpepccpnnldoaa
set_option linter.unusedSimpArgs false
set_option linter.unusedVariables false
open Go.RowKit Go.Proofs

def okC39 (c : UInt8) : Bool := lowC c || (digC c || decide ((c.toNat : Int) = 39))
/-- A valid atom, and no other byte than a name has and 39. -/
structure AtomG (a : ByteArray) : Prop where
  low : 1 ≤ a.size
  up : a.size ≤ 12
  all : ∀ c ∈ a.data.toList, okC39 c = true
mutual
def GSExpr.okF : GSExpr → Prop
  | .mk a l => (AtomG a ∧ l = []) ∨ (a = s_ ∧ GSExpr.okFs l)
def GSExpr.okFs : List GSExpr → Prop
  | [] => True
  | x :: r => GSExpr.okF x ∧ GSExpr.okFs r
end
mutual
def GSExpr.cnt : GSExpr → Nat
  | .mk _ l => 1 + GSExpr.cnts l
def GSExpr.cnts : List GSExpr → Nat
  | [] => 0
  | x :: r => GSExpr.cnt x + GSExpr.cnts r
end
mutual
def GSExpr.dp : GSExpr → Nat
  | .mk a l => if a = s_ then GSExpr.dps l + 1 else 0
def GSExpr.dps : List GSExpr → Nat
  | [] => 0
  | x :: r => max (GSExpr.dp x) (GSExpr.dps r)
end
theorem GSExpr.okFs_all : ∀ {l : List GSExpr}, GSExpr.okFs l → ∀ x ∈ l, GSExpr.okF x
  | [], _, x, h => by simp at h
  | a :: l, ⟨h1, h2⟩, x, h => by
    rcases List.mem_cons.1 h with rfl | h
    · exact h1
    · exact GSExpr.okFs_all h2 x h
theorem GSExpr.cnts_app : ∀ a b : List GSExpr, GSExpr.cnts (a ++ b) = GSExpr.cnts a + GSExpr.cnts b
  | [], b => by simp [GSExpr.cnts]
  | x :: r, b => by rw [List.cons_append, GSExpr.cnts, GSExpr.cnts, GSExpr.cnts_app r b]; omega
theorem GSExpr.dps_app : ∀ a b : List GSExpr, GSExpr.dps (a ++ b) = max (GSExpr.dps a) (GSExpr.dps b)
  | [], b => by simp [GSExpr.dps]
  | x :: r, b => by rw [List.cons_append, GSExpr.dps, GSExpr.dps, GSExpr.dps_app r b]; omega
theorem GSExpr.cnts_le {xs : List GSExpr} {x : GSExpr} (h : x ∈ xs) : GSExpr.cnt x ≤ GSExpr.cnts xs := by
  induction xs with
  | nil => simp at h
  | cons a r ih =>
    rw [GSExpr.cnts]
    rcases List.mem_cons.1 h with rfl | h
    · omega
    · have := ih h; omega
theorem GSExpr.dp_sz : ∀ t : GSExpr, GSExpr.dp t ≤ GSExpr.cnt t := by
  refine GSExpr.ind fun a xs ih => ?_
  rw [GSExpr.dp, GSExpr.cnt]
  have : ∀ l : List GSExpr, (∀ x ∈ l, GSExpr.dp x ≤ GSExpr.cnt x) → GSExpr.dps l ≤ GSExpr.cnts l := by
    intro l
    induction l with
    | nil => intro _; simp [GSExpr.dps]
    | cons a l ihl =>
      intro h
      have h1 := h a (by simp)
      have h2 := ihl fun x hx => h x (by simp [hx])
      rw [GSExpr.dps, GSExpr.cnts]
      omega
  have := this xs ih
  split <;> omega

/-! ### atoms -/
theorem abyte_i (fu : Nat) {c : UInt8} (h : okC39 c = true) : iisAtomByte_M fu c = some true := by
  unfold iisAtomByte_M
  rw [low_i, dig_i, bd_some]
  unfold okC39 at h
  cases hl : lowC c
  · cases hd : digC c
    · rw [hl, hd] at h
      have h : (c.toNat : Int) = 39 := by simpa using h
      have hc : c = 39 := by
        apply UInt8.toNat_inj.1
        have : (39 : UInt8).toNat = 39 := rfl
        omega
      subst hc
      show gd _ _ = _
      exact gdT (by decide) (by decide)
    · rfl
  · rfl
theorem abyte_s (fu : Nat) {c : UInt8} (h : okC39 c = true) : sl2Byte_M fu c = some true := by
  unfold sl2Byte_M
  unfold okC39 lowC digC at h
  cases h1 : decide ((c.toNat : Int) ≥ 97) <;> cases h2 : decide ((c.toNat : Int) ≤ 122) <;> cases h3 : decide ((c.toNat : Int) ≥ 48) <;> cases h4 : decide ((c.toNat : Int) ≤ 57) <;> cases h5 : decide ((c.toNat : Int) = 39) <;> rw [h1, h2, h3, h4, h5] at h <;> first | rfl | cases h
theorem all_range {n : Nat} {p : Nat → Bool} (h : ∀ i, i < n → p i = true) : (List.range n).all p = true := by
  rw [List.all_eq_true]
  intro i hi
  exact h i (by simpa using hi)
theorem atom_i (fu : Nat) {a : ByteArray} (h : AtomG a) : iIsValidAtom_M fu a = some true := by
  unfold iIsValidAtom_M iIsValidAtom_R1
  rw [loopN_rng (p := fun _ => true) (r := false) (fun i hi => by
    unfold iIsValidAtom_F1
    rw [gdT hi rfl, abyte_i fu (h.all _ (bAt_mem hi))]
    rfl), all_range (fun _ _ => rfl)]
  have h1 := h.low
  have h2 := h.up
  show sw _ _ _ = _
  rw [decide_eq_true (by omega), decide_eq_true (by omega)]
  rfl
theorem atom_s (fu : Nat) {a : ByteArray} (h : AtomG a) : sIsValidAtom_M fu a = some true := by
  unfold sIsValidAtom_M sIsValidAtom_R1
  rw [loopN_rng (p := fun _ => true) (r := false) (fun i hi => by
    unfold sIsValidAtom_F1
    rw [gdT hi rfl, abyte_s fu (h.all _ (bAt_mem hi))]
    rfl), all_range (fun _ _ => rfl)]
  have h1 := h.low
  have h2 := h.up
  show bd (sl1In_M _ _ _ _) _ = _
  rw [in_s, decide_eq_true (by omega), decide_eq_true (by omega)]
  rfl
theorem AtomG.ne {a : ByteArray} (h : AtomG a) : ¬ a = s_ := fun e => by have := h.low; rw [e] at this; exact absurd this (by decide)

/-! ### the form -/
theorem form2_i : ∀ x : GSExpr, GSExpr.okF x → Evt fun fu => iareAtoms_M fu x = some true := by
  refine GSExpr.ind fun a xs ih hf => ?_
  rw [GSExpr.okF] at hf
  rcases hf with ⟨ha, rfl⟩ | ⟨rfl, hl⟩
  · refine Evt.succ (Evt.all fun fu => ?_)
    show iareAtoms_G fu _ _ _ _ _ = _
    unfold iareAtoms_G
    rw [GSExpr.gAtom_mk, GSExpr.gList_mk, atom_i fu ha, decide_eq_false ha.ne]
    rfl
  · have hh : Evt fun fu => ∀ x ∈ xs, iareAtoms_M fu x = some true := Evt.list (l := xs) fun x hm => ih x hm (GSExpr.okFs_all hl x hm)
    refine Evt.succ (Evt.succ (Evt.succ (Evt.succ (hh.imp fun fu h => ?_))))
    have hc : gContainsFunc_SExpr__iareAtoms_1_M (fu + 3) xs = some false := by
      show bd (so (loopN _ _ _ _) _) _ = _
      rw [loopN_index (p := fun _ => false) (fun i hi => by
        unfold gIndexFunc_SExpr__iareAtoms_1_F1
        show bd (bd (iareAtoms_M fu _) _) _ = _
        rw [h _ (atD_mem hi)]
        rfl)]
      have h2 := index_any (l := xs) (p := fun _ => false)
      have h3 : (xs.any fun _ => false) = false := by simp
      rw [h3] at h2
      cases hf : List.findIdx? (fun _ => false) xs with
      | none => rfl
      | some i =>
        rw [hf] at h2
        exact congrArg some h2
    show iareAtoms_G (fu + 3) _ _ _ _ _ = _
    unfold iareAtoms_G
    rw [GSExpr.gAtom_mk, GSExpr.gList_mk, hc, decide_eq_true rfl]
    rfl
theorem form2_s : ∀ x : GSExpr, GSExpr.okF x → Evt fun fu => sl2Form_M fu x = some true := by
  refine GSExpr.ind fun a xs ih hf => ?_
  rw [GSExpr.okF] at hf
  rcases hf with ⟨ha, rfl⟩ | ⟨rfl, hl⟩
  · refine Evt.succ (Evt.all fun fu => ?_)
    show sl2Form_G fu _ _ = _
    unfold sl2Form_G
    rw [GSExpr.gAtom_mk, GSExpr.gList_mk, atom_s fu ha, decide_eq_false ha.ne]
    rfl
  · have hh : Evt fun fu => ∀ x ∈ xs, sl2Form_M fu x = some true := Evt.list (l := xs) fun x hm => ih x hm (GSExpr.okFs_all hl x hm)
    refine Evt.succ (hh.imp fun fu h => ?_)
    show sl2Form_G fu _ _ = _
    unfold sl2Form_G sl2Form_R1
    rw [GSExpr.gAtom_mk, GSExpr.gList_mk, decide_eq_true rfl]
    show so (loopN _ _ _ _) _ = _
    rw [loopN_every (p := fun _ => true) (r := false) (fun i hi => by
      unfold sl2Form_F1
      rw [GSExpr.gList_mk, h _ (atD_mem hi)]
      rfl)]
    rw [if_pos (by simp)]
    rfl
/-! ### depth and size -/
theorem dp_i : ∀ t : GSExpr, GSExpr.cnt t ≤ 4294967296 → Evt fun fu => iSExprDepth_M fu t = some (GSExpr.dp t : Int) := by
  refine GSExpr.ind fun a xs ih hz => ?_
  rw [GSExpr.cnt] at hz
  refine Evt.succ ((Evt.list (l := xs) fun x hx => ih x hx (by have := GSExpr.cnts_le hx; omega)).imp fun fu h => ?_)
  show iSExprDepth_G fu (iSExprDepth_M fu) _ = _
  unfold iSExprDepth_G iSExprDepth_R1
  rw [GSExpr.gAtom_mk, GSExpr.gList_mk, GSExpr.dp]
  by_cases ha : a = s_
  · rw [if_pos ha, decide_eq_true ha]
    have hd : GSExpr.dps xs ≤ GSExpr.cnts xs := by
      have : ∀ l : List GSExpr, GSExpr.dps l ≤ GSExpr.cnts l := by
        intro l
        induction l with
        | nil => simp [GSExpr.dps]
        | cons a l ihl =>
          have h1 := GSExpr.dp_sz a
          rw [GSExpr.dps, GSExpr.cnts]
          omega
      exact this xs
    refine soR (loopN_inv (fun i => ((GSExpr.dps (xs.take i) : Nat) : Int)) (n := xs.length) fun i hi => ?_) ?_
    · unfold iSExprDepth_F1
      have hm := atD_mem hi
      rw [GSExpr.gList_mk, h _ hm, take_atD hi, GSExpr.dps_app]
      show some (LR.next (max _ _)) = _
      simp only [GSExpr.dps]
      congr 2
      omega
    · rw [List.take_length, wrap_in (by omega) (by omega)]
      congr 1
  · rw [if_neg ha, decide_eq_false ha]
    rfl
theorem dp_s : ∀ t : GSExpr, GSExpr.cnt t ≤ 4294967296 → Evt fun fu => sSExprDepth_M fu t = some (GSExpr.dp t : Int) := by
  refine GSExpr.ind fun a xs ih hz => ?_
  rw [GSExpr.cnt] at hz
  refine Evt.succ ((Evt.list (l := xs) fun x hx => ih x hx (by have := GSExpr.cnts_le hx; omega)).imp fun fu h => ?_)
  show sSExprDepth_G fu (sSExprDepth_M fu) _ = _
  unfold sSExprDepth_G sSExprDepth_R1
  rw [GSExpr.gAtom_mk, GSExpr.gList_mk, GSExpr.dp]
  by_cases ha : a = s_
  · rw [if_pos ha, decide_eq_true ha]
    have hd : GSExpr.dps xs ≤ GSExpr.cnts xs := by
      have : ∀ l : List GSExpr, GSExpr.dps l ≤ GSExpr.cnts l := by
        intro l
        induction l with
        | nil => simp [GSExpr.dps]
        | cons a l ihl =>
          have h1 := GSExpr.dp_sz a
          rw [GSExpr.dps, GSExpr.cnts]
          omega
      exact this xs
    refine soR (loopN_inv (fun i => ((GSExpr.dps (xs.take i) : Nat) : Int)) (n := xs.length) fun i hi => ?_) ?_
    · unfold sSExprDepth_F1
      have hm := atD_mem hi
      rw [GSExpr.gList_mk, h _ hm, take_atD hi, GSExpr.dps_app]
      show bd (sl1Max_M _ _ _) _ = _
      rw [max_s]
      show some (LR.next _) = _
      simp only [GSExpr.dps]
      congr 2
      omega
    · rw [List.take_length, wrap_in (by omega) (by omega)]
      congr 1
  · rw [if_neg ha, decide_eq_false ha]
    rfl
theorem sz_i : ∀ t : GSExpr, GSExpr.cnt t ≤ 4294967296 → Evt fun fu => iSExprSize_M fu t = some (GSExpr.cnt t : Int) := by
  refine GSExpr.ind fun a xs ih hz => ?_
  rw [GSExpr.cnt] at hz
  refine Evt.succ ((Evt.list (l := xs) fun x hx => ih x hx (by have := GSExpr.cnts_le hx; omega)).imp fun fu h => ?_)
  show iSExprSize_G fu (iSExprSize_M fu) _ = _
  unfold iSExprSize_G iSExprSize_R1
  refine soR (loopN_inv (fun i => ((1 + GSExpr.cnts (xs.take i) : Nat) : Int)) (n := xs.length) fun i hi => ?_) ?_
  · unfold iSExprSize_F1
    have hm := atD_mem hi
    rw [GSExpr.gList_mk, h _ hm]
    have h3 := congrArg GSExpr.cnts (List.take_append_drop (i + 1) xs)
    rw [GSExpr.cnts_app, take_atD hi, GSExpr.cnts_app] at h3
    simp only [GSExpr.cnts] at h3
    show some (LR.next (wrap64 _)) = _
    rw [wrap_in (by omega) (by omega), take_atD hi, GSExpr.cnts_app]
    simp only [GSExpr.cnts]
    congr 2
    omega
  · rw [List.take_length, GSExpr.cnt]
theorem left2_s : ∀ t : GSExpr, Evt fun fu => ∀ L : Int, 0 ≤ L → L ≤ 1000 → Ok (sl2Left_M fu t L) (fun r => ((GSExpr.cnt t : Int) ≤ L ∧ r = L - GSExpr.cnt t) ∨ (L < GSExpr.cnt t ∧ r < 0)) := by
  refine GSExpr.ind fun a xs ih => ?_; refine Evt.succ ((Evt.list (l := xs) fun x hx => ih x hx).imp fun fu h L h0 h1 => ?_)
  show Ok (sl2Left_G fu (sl2Left_M fu) _ L) _
  unfold sl2Left_G sl2Left_R1
  rw [wrap_in (by omega) (by omega), GSExpr.cnt]
  refine Ok.so (Q := PS (fun _ => False) fun v => ((1 + GSExpr.cnts xs : Nat) : Int) ≤ L ∧ v = L - (1 + GSExpr.cnts xs : Nat) ∨ L < ((1 + GSExpr.cnts xs : Nat) : Int) ∧ v < 0) ?_ (fun x hx => by cases hx) (fun v hv => Ok.some hv)
  refine Ok.loopN0 (fun i v => i ≤ xs.length ∧ (((1 + GSExpr.cnts (xs.take i) : Nat) : Int) ≤ L ∧ v = L - (1 + GSExpr.cnts (xs.take i) : Nat) ∨ L < ((1 + GSExpr.cnts (xs.take i) : Nat) : Int) ∧ v < 0)) ⟨Nat.zero_le _, ?_⟩ ?_ ?_
  · simp only [List.take_zero, GSExpr.cnts]
    omega
  · rintro i v hi ⟨hi2, hv⟩
    obtain rfl : i = xs.length := by rw [GSExpr.gList_mk] at hi; omega
    rwa [List.take_length] at hv
  · rintro i v hi ⟨hi2, hv⟩
    rw [GSExpr.gList_mk] at hi
    have h3 := congrArg GSExpr.cnts (List.take_append_drop i xs)
    rw [GSExpr.cnts_app] at h3
    unfold sl2Left_F1
    refine Ok.sw (fun hc => ?_) (fun hc => ?_)
    · have hc : v ≥ 0 := by simpa using hc
      rw [GSExpr.gList_mk]
      refine Ok.bd (h _ (atD_mem hi) v hc (by omega)) fun r hr => Ok.some ⟨hi, ?_⟩
      rw [take_atD hi, GSExpr.cnts_app]
      simp only [GSExpr.cnts]
      omega
    · have hc : ¬ v ≥ 0 := by simpa using hc
      refine Ok.some ?_
      show _ ∨ _
      omega
theorem vldX_i {x : GSExpr} (h1 : GSExpr.okF x) (h2 : GSExpr.cnt x ≤ 900) (h3 : GSExpr.dp x ≤ 14) : Evt fun fu => iIsValidSExpr_M fu x = some true := by
  refine ((form2_i x h1).and ((dp_i x (by omega)).and (sz_i x (by omega)))).imp fun fu ⟨e1, e2, e3⟩ => ?_
  unfold iIsValidSExpr_M
  rw [e1, e2, e3]
  simp only [bd_some]
  rw [decide_eq_true (by omega), decide_eq_true (by omega)]
  rfl
theorem vldX_s {x : GSExpr} (h1 : GSExpr.okF x) (h2 : GSExpr.cnt x ≤ 900) (h3 : GSExpr.dp x ≤ 14) : Evt fun fu => sIsValidSExpr_M fu x = some true := by
  refine ((form2_s x h1).and ((dp_s x (by omega)).and (left2_s x))).imp fun fu ⟨e1, e2, e3⟩ => ?_
  obtain ⟨r, hr, hp⟩ := e3 900 (by decide) (by decide)
  unfold sIsValidSExpr_M
  rw [hr, e1, e2]
  simp only [bd_some]
  rw [decide_eq_true (by omega), decide_eq_true (by omega)]
  rfl
end Go.Proofs.Ytmpepccpnnldoaa

namespace Go.Proofs.Ytmpepccpnnldoaa
set_option linter.unusedSimpArgs false
set_option linter.unusedVariables false
open Go.RowKit Go.Proofs

theorem atom_chars {n : ByteArray} (h : ∀ i, i < n.size → okC39 (bAt n i) = true) : ∀ c ∈ n.data.toList, okC39 c = true := by
  intro c hc
  obtain ⟨i, hi, rfl⟩ := List.getElem_of_mem hc
  have hi2 : i < n.size := by rwa [dataLen] at hi
  rw [← bAt_data hi2]
  exact h i hi2
theorem atom_nm {n : ByteArray} (h : nmB n = true) : AtomG n := by
  have hz := nm_size h
  refine ⟨hz.1, by omega, atom_chars fun i hi => ?_⟩
  unfold nmB at h
  rw [Bool.and_eq_true, List.all_eq_true] at h
  have h1 := h.1 i (by simpa using hi)
  unfold nmAt at h1
  unfold okC39
  cases hl : lowC (bAt n i)
  · rw [hl] at h1
    cases hd : digC (bAt n i)
    · rw [hd] at h1; simp at h1
    · rfl
  · rfl
theorem atom_int : AtomG s_int := ⟨by decide, by decide, by decide⟩
theorem atom_bool : AtomG s_bool := ⟨by decide, by decide, by decide⟩
theorem atom_dyn : AtomG s_dyn := ⟨by decide, by decide, by decide⟩
theorem atom_assoc : AtomG s_assoc := ⟨by decide, by decide, by decide⟩
theorem atom_var {n : ByteArray} (h : nmB n = true) : AtomG (x_27 ++ n) := by
  have hz := nm_size h
  have ha := atom_nm h
  have e : (x_27 ++ n).size = 1 + n.size := by rw [← dataLen, dataApp, List.length_append, dataLen, dataLen]; rfl
  refine ⟨by omega, by omega, fun c hc => ?_⟩
  rw [dataApp, List.mem_append] at hc
  rcases hc with hc | hc
  · have : c = 39 := by simpa using hc
    subst this
    decide
  · exact ha.all c hc
theorem atom_form {k : Int} {n : ByteArray} {xs : List GType} (h : GType.formB (.mk k n xs) = true) : AtomG n := by
  rcases (form_inv h).2.1 with h | ⟨-, rfl | rfl⟩
  · exact atom_nm h
  · exact atom_int
  · exact atom_bool
theorem AtomG.okF {a : ByteArray} (h : AtomG a) : GSExpr.okF (.mk a []) := by rw [GSExpr.okF]; exact .inl ⟨h, rfl⟩
theorem AtomG.dp {a : ByteArray} (h : AtomG a) : GSExpr.dp (.mk a []) = 0 := by rw [GSExpr.dp, if_neg h.ne]
theorem cnt_atom (a : ByteArray) : GSExpr.cnt (.mk a []) = 1 := by rw [GSExpr.cnt, GSExpr.cnts]
theorem enc_ok : ∀ t : GType, GType.formB t = true → GSExpr.okF (GType.enc t) ∧ GSExpr.cnt (GType.enc t) ≤ 3 * GType.size t ∧ GSExpr.dp (GType.enc t) ≤ GType.dep t + 1 := by
  refine GType.ind fun k n xs ih hf => ?_
  have ha := atom_form hf
  obtain ⟨hk, hn, h14, h3, hl, hx⟩ := form_inv hf
  have hE : ∀ l : List GType, (∀ x ∈ l, GSExpr.okF (GType.enc x) ∧ GSExpr.cnt (GType.enc x) ≤ 3 * GType.size x ∧ GSExpr.dp (GType.enc x) ≤ GType.dep x + 1) →
      GSExpr.okFs (GType.encs l) ∧ GSExpr.cnts (GType.encs l) ≤ 3 * GType.sizes l ∧ GSExpr.dps (GType.encs l) ≤ GType.deps l := by
    intro l
    induction l with
    | nil => intro _; exact ⟨trivial, by simp [GType.encs, GSExpr.cnts], by simp [GType.encs, GSExpr.dps]⟩
    | cons a l ihl =>
      intro h
      obtain ⟨a1, a2, a3⟩ := h a (by simp)
      obtain ⟨b1, b2, b3⟩ := ihl fun x hx => h x (by simp [hx])
      rw [GType.encs, GSExpr.cnts, GSExpr.dps, GType.sizes, GType.deps]
      exact ⟨⟨a1, b1⟩, by omega, by omega⟩
  obtain ⟨e1, e2, e3⟩ := hE xs fun x hm => ih x hm (hx x hm)
  have hatt : ∀ a l, AtomG a → GSExpr.okFs l → GSExpr.okFs (.mk a [] :: l) := fun a l h1 h2 => ⟨h1.okF, h2⟩
  rw [GType.enc, GType.size, GType.dep]
  by_cases h1 : k = 1
  · have hv : nmB n = true := hn.resolve_right fun h => by omega
    rw [if_pos h1, cnt_atom, (atom_var hv).dp]
    exact ⟨(atom_var hv).okF, by omega, by omega⟩
  · rw [if_neg h1]
    by_cases h4 : k = 4
    · rw [if_pos h4, GSExpr.cnt, GSExpr.cnts, GSExpr.cnts, GSExpr.cnts, cnt_atom, cnt_atom, GSExpr.dp, if_pos rfl, GSExpr.dps, GSExpr.dps, GSExpr.dps, atom_dyn.dp, ha.dp, GSExpr.okF]
      exact ⟨.inr ⟨rfl, hatt _ _ atom_dyn (hatt _ _ ha trivial)⟩, by omega, by omega⟩
    · rw [if_neg h4]
      by_cases h3' : k = 3
      · rw [if_pos h3', GSExpr.cnt, GSExpr.cnts, GSExpr.cnts, cnt_atom, cnt_atom, GSExpr.dp, if_pos rfl, GSExpr.dps, GSExpr.dps, atom_assoc.dp, ha.dp, GSExpr.okF]
        exact ⟨.inr ⟨rfl, hatt _ _ atom_assoc (hatt _ _ ha e1)⟩, by omega, by omega⟩
      · rw [if_neg h3']
        by_cases h0 : xs.length = 0
        · rw [if_pos h0, cnt_atom, ha.dp]
          exact ⟨ha.okF, by omega, by omega⟩
        · rw [if_neg h0, GSExpr.cnt, GSExpr.cnts, cnt_atom, GSExpr.dp, if_pos rfl, GSExpr.dps, ha.dp, GSExpr.okF]
          exact ⟨.inr ⟨rfl, hatt _ _ ha e1⟩, by omega, by omega⟩

/-! ### the text -/
theorem GSExpr.txts_app : ∀ (z : Bool) (a b : List GSExpr), GSExpr.txts z (a ++ b) = GSExpr.txts z a ++ GSExpr.txts (z && a.isEmpty) b
  | z, [], b => by simp [GSExpr.txts]
  | z, x :: r, b => by
    rw [List.cons_append, GSExpr.txts, GSExpr.txts, GSExpr.txts_app false r b]
    simp
theorem GSExpr.cnts_len : ∀ l : List GSExpr, l.length ≤ GSExpr.cnts l
  | [] => by simp
  | .mk a xs :: r => by
    have := GSExpr.cnts_len r
    rw [GSExpr.cnts, GSExpr.cnt, List.length_cons]
    omega
theorem txts_len : ∀ {l : List GSExpr}, (∀ x ∈ l, (GSExpr.txt x).length + 1 ≤ 16 * GSExpr.cnt x) → ∀ z, (GSExpr.txts z l).length ≤ 16 * GSExpr.cnts l
  | [], _, z => by simp [GSExpr.txts]
  | x :: r, h, z => by
    have h1 := h x (by simp)
    have h2 := txts_len (l := r) (fun y hy => h y (by simp [hy])) false
    have h3 : (if z = true then [] else [32] : List UInt8).length ≤ 1 := by split <;> simp
    rw [GSExpr.txts, GSExpr.cnts, List.length_append, List.length_append]
    omega
theorem txt_len : ∀ x : GSExpr, GSExpr.okF x → (GSExpr.txt x).length + 1 ≤ 16 * GSExpr.cnt x := by
  refine GSExpr.ind fun a xs ih hf => ?_
  rw [GSExpr.okF] at hf
  rw [GSExpr.txt, GSExpr.cnt]
  rcases hf with ⟨ha, rfl⟩ | ⟨rfl, hl⟩
  · rw [if_neg ha.ne, dataLen]
    have := ha.up
    omega
  · have := txts_len (l := xs) (fun x hx => ih x hx (GSExpr.okFs_all hl x hx)) true
    rw [if_pos rfl]
    simp only [List.length_cons, List.length_append, List.length_nil]
    omega
theorem atD_map {α β : Type} [Inhabited α] [Inhabited β] {f : α → β} {l : List α} {i : Nat} (h : i < l.length) : atD (l.map f) i = f (atD l i) := by
  rw [atD_eq (by simpa using h), atD_eq h, List.getElem_map]
theorem bytesStr_data (l : List UInt8) : (bytesStr l).data.toList = l := by unfold bytesStr; simp
theorem join_s (fu : Nat) (xs : List GSExpr) (h : (GSExpr.txts true xs).length ≤ 68719476736) : sJoin_M fu (xs.map fun y => bytesStr (GSExpr.txt y)) x_20 = some (bytesStr (GSExpr.txts true xs)) := by
  unfold sJoin_M sJoin_R1
  have hw : ∀ i, i < xs.length → GSExpr.txts true xs = GSExpr.txts true (xs.take i) ++ ((if (i == 0) then [] else [32]) ++ (GSExpr.txt (atD xs i) ++ GSExpr.txts false (xs.drop (i + 1)))) := by
    intro i hi
    have h1 := GSExpr.txts_app true (xs.take i) (xs.drop i)
    rw [List.take_append_drop] at h1
    have h2 : (true && (xs.take i).isEmpty) = (i == 0) := by
      cases i with
      | zero => simp
      | succ i =>
        have : xs ≠ [] := by intro e; subst e; simp at hi
        simp [this]
    rw [h1, h2, GSExpr.txts_step _ hi, atD_eq hi]
  have hs : ∀ i, i < xs.length → GSExpr.txts true (xs.take (i + 1)) = GSExpr.txts true (xs.take i) ++ ((if (i == 0) then [] else [32]) ++ GSExpr.txt (atD xs i)) := by
    intro i hi
    have h2 : (true && (xs.take i).isEmpty) = (i == 0) := by
      cases i with
      | zero => simp
      | succ i =>
        have : xs ≠ [] := by intro e; subst e; simp at hi
        simp [this]
    rw [take_atD hi, GSExpr.txts_app, h2, GSExpr.txts, GSExpr.txts, List.append_nil]
  have hl : loopN (sJoin_F1 fu (xs.map fun y => bytesStr (GSExpr.txt y)) x_20) (xs.length - 0) 0 [] = some (.inr (GSExpr.txts true xs)) := by
    have := loopN_inv (f := sJoin_F1 fu (xs.map fun y => bytesStr (GSExpr.txt y)) x_20) (fun i => GSExpr.txts true (xs.take i)) (n := xs.length) fun i hi => by
      have e1 := congrArg List.length (hw i hi)
      unfold sJoin_F1
      rw [atD_map hi, bytesStr_data, hs i hi]
      by_cases h0 : i = 0
      · subst h0
        have hb : ((0 : Nat) == 0) = true := rfl
        rw [hb] at e1 ⊢
        simp only [if_true, List.nil_append, List.length_append] at e1 ⊢
        show gd _ _ = _
        exact gdT (by omega) rfl
      · have hb : (i == 0) = false := by simpa using h0
        rw [hb] at e1 ⊢
        rw [decide_eq_true (by omega)]
        simp only [Bool.false_eq_true, if_false, List.length_append, List.length_cons, List.length_nil] at e1 ⊢
        show gd _ (gd _ _) = _
        rw [gdT (by simp; omega) rfl, gdT (by simp; omega) rfl, List.append_assoc]
    rw [List.take_length, List.take_zero, GSExpr.txts] at this
    exact this
  rw [List.length_map, hl]
  rfl
theorem sizeApp (a b : ByteArray) : (a ++ b).size = a.size + b.size := by rw [← dataLen, dataApp, List.length_append, dataLen, dataLen]
theorem text_s : ∀ x : GSExpr, GSExpr.okF x → GSExpr.cnt x ≤ 900 → Evt fun fu => sl2Text_M fu x = some (bytesStr (GSExpr.txt x)) := by
  refine GSExpr.ind fun a xs ih hf hz => ?_
  have hlen := txt_len _ hf
  rw [GSExpr.okF] at hf
  rw [GSExpr.txt] at hlen ⊢
  rcases hf with ⟨ha, rfl⟩ | ⟨rfl, hl⟩
  · refine Evt.succ (Evt.all fun fu => ?_)
    show sl2Text_G fu _ _ = _
    unfold sl2Text_G
    rw [GSExpr.gAtom_mk, decide_eq_false ha.ne, if_neg ha.ne]
    show some a = _
    exact congrArg some (dataInj (bytesStr_data _).symm)
  · rw [GSExpr.cnt] at hz hlen
    rw [if_pos rfl] at hlen ⊢
    have hcl := GSExpr.cnts_len xs
    have hh : Evt fun fu => ∀ x ∈ xs, sl2Text_M fu x = some (bytesStr (GSExpr.txt x)) := Evt.list (l := xs) fun x hm => ih x hm (GSExpr.okFs_all hl x hm) (by have := GSExpr.cnts_le hm; omega)
    refine Evt.succ (hh.imp fun fu h => ?_)
    simp only [List.length_cons, List.length_append, List.length_nil] at hlen
    show sl2Text_G fu _ _ = _
    unfold sl2Text_G sl2Text_R1
    rw [GSExpr.gAtom_mk, GSExpr.gList_mk, decide_eq_true rfl]
    show so (loopN _ _ _ _) _ = _
    refine soR (loopN_inv (fun i => (xs.take i).map fun y => bytesStr (GSExpr.txt y)) (n := xs.length) fun i hi => ?_) ?_
    · unfold sl2Text_F1
      rw [GSExpr.gList_mk, h _ (atD_mem hi), bd_some, gdT (by simp; omega) rfl, take_atD hi, List.map_append]
      rfl
    · rw [List.take_length, join_s fu xs (by omega), bd_some]
      have h28 : (x_28 : ByteArray).size = 1 := rfl
      have h29 : (x_29 : ByteArray).size = 1 := rfl
      rw [gdT (by rw [bytesStr_size]; omega) rfl, gdT (by rw [sizeApp, bytesStr_size]; omega) rfl]
      congr 1
/-! ### the goal -/
def goalX (b : GBound) : GSExpr := .mk s_ [.mk b.gTrait [], GType.enc b.gType]
def goalTxt (b : GBound) : ByteArray := if vldBd b = true then bytesStr (GSExpr.txt (goalX b)) else s_
theorem goal_ok {b : GBound} (h : vldBd b = true) : AtomG b.gTrait ∧ GType.formB b.gType = true ∧ GSExpr.okF (GType.enc b.gType) ∧ GSExpr.cnt (GType.enc b.gType) ≤ 180 ∧ GSExpr.dp (GType.enc b.gType) ≤ 7 := by
  unfold vldBd vldT at h
  simp only [Bool.and_eq_true, decide_eq_true_eq] at h
  obtain ⟨h1, h2, h3, h4⟩ := h
  obtain ⟨e1, e2, e3⟩ := enc_ok _ h2
  exact ⟨atom_nm h1, h2, e1, by omega, by omega⟩
theorem goalX_ok {b : GBound} (h : vldBd b = true) : GSExpr.okF (goalX b) ∧ GSExpr.cnt (goalX b) ≤ 182 ∧ GSExpr.dp (goalX b) ≤ 8 := by
  obtain ⟨h1, h2, h3, h4, h5⟩ := goal_ok h
  unfold goalX
  rw [GSExpr.okF, GSExpr.cnt, GSExpr.cnts, GSExpr.cnts, GSExpr.cnts, cnt_atom, GSExpr.dp, if_pos rfl, GSExpr.dps, GSExpr.dps, GSExpr.dps, h1.dp]
  exact ⟨.inr ⟨rfl, h1.okF, h3, trivial⟩, by omega, by omega⟩
theorem fmt_i (b : GBound) (h : GType.size b.gType ≤ 4294967296) : Evt fun fu => iFormatGoal_M fu b = some (goalTxt b) := by
  cases hv : vldBd b
  · refine (vldBd_i b h).imp fun fu e => ?_
    unfold iFormatGoal_M goalTxt
    rw [e, hv]
    rfl
  · obtain ⟨h1, h2, h3, h4, h5⟩ := goal_ok hv
    obtain ⟨g1, g2, g3⟩ := goalX_ok hv
    have gl := txt_len _ g1
    refine ((vldBd_i b h).and ((enc_i _ h2).and (vldX_i g1 (by omega) (by omega)))).imp fun fu ⟨e1, e2, e3⟩ => ?_
    unfold iFormatGoal_M goalTxt
    rw [e1, e2, hv, if_pos rfl]
    show bd (iFormatSExpr_M fu (goalX b)) _ = _
    unfold iFormatSExpr_M
    rw [e3, bd_some, if_pos rfl, if_pos (by omega)]
    rfl
theorem fmt_s (b : GBound) (h : GType.size b.gType ≤ 4294967296) : Evt fun fu => sFormatGoal_M fu b = some (goalTxt b) := by
  cases hv : vldBd b
  · refine (vldBd_s b h).imp fun fu e => ?_
    unfold sFormatGoal_M goalTxt
    rw [e, hv]
    rfl
  · obtain ⟨h1, h2, h3, h4, h5⟩ := goal_ok hv
    have hl := txt_len _ h3
    have hvt : vldT b.gType = true := by unfold vldBd at hv; simp only [Bool.and_eq_true] at hv; exact hv.2
    refine ((vldBd_s b h).and ((vldT_s _ h).and ((enc_s _ h2).and ((vldX_s h3 (by omega) (by omega)).and (text_s _ h3 (by omega)))))).imp fun fu ⟨e1, e2, e3, e4, e5⟩ => ?_
    have hz := h1.up
    have h28 : (x_28 : ByteArray).size = 1 := rfl
    have h29 : (x_29 : ByteArray).size = 1 := rfl
    have h20 : (x_20 : ByteArray).size = 1 := rfl
    have ht : sFormatType_M fu b.gType = some (bytesStr (GSExpr.txt (GType.enc b.gType))) := by
      unfold sFormatType_M
      rw [e2, e3, hvt]
      show bd (sFormatSExpr_M fu _) _ = _
      unfold sFormatSExpr_M
      rw [e4, e5]
      rfl
    unfold sFormatGoal_M goalTxt
    rw [e1, hv, if_pos rfl, ht]
    show gd _ _ = _
    rw [gdT (by omega) rfl, gdT (by rw [sizeApp]; omega) rfl, bd_some, gdT (by rw [sizeApp, sizeApp, bytesStr_size]; omega) rfl, gdT (by rw [sizeApp, sizeApp, sizeApp, bytesStr_size]; omega) rfl]
    congr 1
    refine dataInj ?_
    rw [dataApp, dataApp, dataApp, dataApp, bytesStr_data, bytesStr_data, goalX, GSExpr.txt, if_pos rfl, GSExpr.txts, GSExpr.txts, GSExpr.txts, GSExpr.txt, if_neg h1.ne]
    simp
end Go.Proofs.Ytmpepccpnnldoaa

namespace Go.Proofs.Ytmpepccpnnldoaa
open Go.RowKit
theorem RVL0.nil {w : World} : RVL0 w [] [] := trivial
theorem RVL0.cons {w : World} {p : PV} {ps : List PV} {v : Value} {vs : List Value} (h : RV0 w p v) (k : RVL0 w ps vs) : RVL0 w (p :: ps) (v :: vs) := ⟨h, k⟩
end Go.Proofs.Ytmpepccpnnldoaa

namespace Go.Proofs.Ytmpepccpnnldoaa
open Go.RowKit Go.Proofs

theorem GBound.pv_eq (x : GBound) : GBound.pv x = .agg (x.tr.map PV.t) := by
  obtain ⟨a, ⟨k, n, l⟩⟩ := x
  rfl
theorem GBound.pv_rv {x : GBound} {cs : List Value} {w : World} (h : RepL w x.tr cs) : RV0 w (GBound.pv x) (.agg ⟨cs⟩) := by rw [GBound.pv_eq]; exact RV0.agg h
theorem fmtGoal_spec (x : GBound) (cs : List Value) (w : World) (hr : RepL w x.tr cs) (hz : GType.size x.gType ≤ 4294967296) :
    Calls Try.prog 15 #[.agg ⟨cs⟩] w fun e w' => e = .returned (.string (goalTxt x)) ∧ Ext w w' := by
  obtain ⟨fu, e⟩ := (fmt_s x hz).get
  exact (sFormatGoal_ok fu x _ e).plain (.cons (GBound.pv_rv hr) .nil)
theorem fmtGoal_impl (x : GBound) (cs : List Value) (w : World) (hr : RepL w x.tr cs) (hz : GType.size x.gType ≤ 4294967296) :
    Calls Try.prog 17 #[.agg ⟨cs⟩] w fun e w' => e = .returned (.string (goalTxt x)) ∧ Ext w w' := by
  obtain ⟨fu, e⟩ := (fmt_i x hz).get
  exact (iFormatGoal_ok fu x _ e).plain (.cons (GBound.pv_rv hr) .nil)
theorem GBound.type_bulkZ (x : GBound) : GType.size x.gType ≤ 1 + Tr.bulkL x.tr := by
  obtain ⟨a, b⟩ := x
  have := GType.size_bulk b
  simp only [GBound.gType_mk, GBound.tr, Tr.bulkL_append, Tr.bulkL]
  omega
end Go.Proofs.Ytmpepccpnnldoaa
