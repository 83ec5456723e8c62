/- From what the form says of an argument ('it reads as data') to 'it lies in the heap as a tree of plain data'. For types whose parts are all bools, integers, strings, slices and structs. -/
import Derived.Test.YtnakkelglbcecaaGreatCore
import Derived.ProofKit
namespace Go.Proofs.YtnakkelglbcecaaGreat
open Go.RowKit Go.ChangeShapes Go.WideShapes Go.Deep

inductive TyOf (P : Program) : TypeId → List Tr → Prop
  | bool {t b} : P.underlying t = some .bool → TyOf P t [.leaf (.bool b)]
  | int {t k n} : P.underlying t = some (.int k) → (Lit.int k n).wf = true → TyOf P t [.leaf (.int k n)]
  | str {t s} : P.underlying t = some .string → s.size ≤ maxLen → TyOf P t [.leaf (.string s)]
  | slice {t e es} : P.underlying t = some (.slice e) → (∀ x ∈ es, TyOf P e x) → TyOf P t [.row (P.cellsOf e) es]
  | struct {t fs} (parts : Nat → List Tr) : P.underlying t = some (.struct fs) → (∀ i f, fs[i]? = some f → TyOf P f.type (parts i)) → TyOf P t ((List.range fs.size).flatMap parts)

/-- The fields lie one behind the other. -/
def laidFields (P : Program) : Nat → List Field → Option Nat
  | n, [] => some n
  | n, f :: r => if f.offset = n then laidFields P (n + P.cellsOf f.type) r else none

def closedPlain (P : Program) (S : List TypeId) : Bool :=
  S.all fun t => match P.underlying t with
    | some .bool | some (.int _) | some .string => P.cellsOf t == 1
    | some (.slice e) => S.contains e && P.cellsOf t == 1 && decide (0 < P.cellsOf e)
    | some (.struct fs) => fs.all (fun f => S.contains f.type) && laidFields P 0 fs.toList == some (P.cellsOf t)
    | _ => false

theorem repL_fields {w : World} {P : Program} {cs : List Value} : ∀ (fs : List Field) (n m : Nat) (parts : Nat → List Tr) (k : Nat), laidFields P n fs = some m → cs.length = m →
    (∀ i f, fs[i]? = some f → RepL w (parts (k + i)) ((cs.drop f.offset).take (P.cellsOf f.type))) → RepL w ((List.range' k fs.length).flatMap parts) (cs.drop n) := by
  intro fs
  induction fs with
  | nil =>
    intro n m parts k h hl _
    simp [laidFields] at h
    subst h
    simp [← hl, RepL]
  | cons f r ih =>
    intro n m parts k h hl hf
    simp only [laidFields] at h
    split at h
    · rename_i ho
      have h0 := hf 0 f rfl
      rw [ho] at h0
      have hr := ih (n + P.cellsOf f.type) m parts (k + 1) h hl (fun i g hg => by
        have := hf (i + 1) g (by simpa using hg)
        rwa [show k + (i + 1) = k + 1 + i by omega] at this)
      have : cs.drop n = (cs.drop n).take (P.cellsOf f.type) ++ cs.drop (n + P.cellsOf f.type) := by
        rw [← List.drop_drop, List.take_append_drop]
      rw [this]
      simp only [List.length_cons, List.range'_succ, List.flatMap_cons]
      exact RepL.append h0 hr
    · simp at h

section
variable {H : Type} {enc : TypeId × Value → H} {P : Program} {w : World} {base : Nat} {spare : Nat → Bool} {held : Bool}

theorem tyOf_of_trod {S : List TypeId} (hS : closedPlain P S = true) : ∀ (fuel : Nat) (t : TypeId) (cs : List Value) (x : DataW H × List MemPlace), t ∈ S → DataW.trod enc P w base spare held fuel t cs = some x →
    ∃ ts, TyOf P t ts ∧ RepL w ts cs ∧ ts.length = P.cellsOf t := by
  intro fuel
  induction fuel with
  | zero => intro t cs x _ h; simp [DataW.trod] at h
  | succ n ih =>
    intro t cs x ht h
    have hcl := List.all_eq_true.1 hS t ht
    cases hu : P.underlying t with
    | none => simp [hu] at hcl
    | some d =>
      simp only [hu] at hcl
      cases d with
      | bool =>
        obtain ⟨b, rfl, -⟩ : ∃ b, cs = [.bool b] ∧ True := by
          unfold DataW.trod at h
          rw [hu] at h
          split at h <;> simp_all
        exact ⟨_, .bool (b := b) hu, ⟨.leaf trivial, trivial⟩, by simpa using (beq_iff_eq.1 hcl).symm⟩
      | int k =>
        obtain ⟨m, rfl, -, hw⟩ := DataW.trod_int hu h
        exact ⟨_, .int hu hw, ⟨.leaf hw, trivial⟩, by simpa using (beq_iff_eq.1 hcl).symm⟩
      | string =>
        obtain ⟨s, rfl, -, hw⟩ := DataW.trod_string hu h
        exact ⟨_, .str hu hw, ⟨.leaf hw, trivial⟩, by simpa using (beq_iff_eq.1 hcl).symm⟩
      | slice e =>
        simp only [Bool.and_eq_true, List.contains_iff_mem, decide_eq_true_eq] at hcl
        obtain ⟨⟨he, hc1⟩, hpos⟩ := hcl
        have hc1 : P.cellsOf t = 1 := beq_iff_eq.1 hc1
        rcases DataW.trod_slice hu h with ⟨rfl, -⟩ | ⟨a, len, cap, elems, rest, n', hn, rfl, -, hb, hl, hm, hlen, hel, -, -⟩
        · exact ⟨_, .slice (es := []) hu (by simp), ⟨Rep.row (w := w) (sz := P.cellsOf e) (es := []) (a := none) (cap := 0) (fun _ _ => undef) (by simp) (by unfold maxLen; omega) (by simp) (by simp), trivial⟩, by simp [hc1]⟩
        · obtain rfl : n = n' := by omega
          have key : ∀ i, i < len → ∃ cs' ts, w.cells? base (a.add (i * P.cellsOf e)) (P.cellsOf e) = some cs' ∧ TyOf P e ts ∧ RepL w ts cs' ∧ ts.length = P.cellsOf e := by
            intro i hi
            have h1 := hel i hi
            rw [List.getElem?_eq_getElem (by omega)] at h1
            obtain ⟨cs', h2, h3⟩ := Option.bind_eq_some_iff.1 h1
            obtain ⟨ts, h4, h5, h6⟩ := ih e cs' _ he h3
            exact ⟨cs', ts, h2, h4, h5, h6⟩
          obtain ⟨D, hD⟩ := choose_lt (α := List Value × List Tr) (p := fun i x => w.cells? base (a.add (i * P.cellsOf e)) (P.cellsOf e) = some x.1 ∧ TyOf P e x.2 ∧ RepL w x.2 x.1 ∧ x.2.length = P.cellsOf e)
            (fun i hi => by obtain ⟨c, t, h⟩ := key i hi; exact ⟨(c, t), h⟩)
          have hes : ((List.range len).map fun i => (D i).2).length = len := by simp
          have hget : ∀ i e', ((List.range len).map fun i => (D i).2)[i]? = some e' → i < len ∧ e' = (D i).2 := by
            intro i e' h
            rw [List.getElem?_map] at h
            have hi : i < len := by
              rcases Nat.lt_or_ge i len with h1 | h1
              · exact h1
              · rw [List.getElem?_eq_none (by simpa using h1)] at h; simp at h
            rw [List.getElem?_range hi] at h
            simp at h
            exact ⟨hi, h.symm⟩
          refine ⟨_, .slice (es := (List.range len).map fun i => (D i).2) hu ?_, ⟨?_, trivial⟩, by simp [hc1]⟩
          · intro x hx
            obtain ⟨i, hi, rfl⟩ := List.mem_map.1 hx
            exact (hD i (List.mem_range.1 hi)).2.1
          · have hrep : Rep w (.row (P.cellsOf e) ((List.range len).map fun i => (D i).2)) (.slice (some a) ((List.range len).map fun i => (D i).2).length cap) := by
              refine Rep.row (fun i j => (D i).1.getD j undef) (by rw [hes]; exact hl) hm ?_ ?_
              · intro hne
                have hcell : ∀ i, i < len → ∀ j d, (D i).2[j]? = some d → ∃ v, (D i).1[j]? = some v ∧ w.cell? ((a.add (i * P.cellsOf e)).add j) = some v := by
                  intro i hi j d hd
                  obtain ⟨v, hv, -⟩ := (hD i hi).2.2.1.get hd
                  obtain ⟨-, hl2, hc2⟩ := World.cells?_some (hD i hi).1
                  have hj : j < P.cellsOf e := by
                    have := (List.getElem?_eq_some_iff.1 hv).1
                    omega
                  exact ⟨v, hv, (hc2 j hj).trans hv⟩
                have h0 : 0 < len := by
                  rcases Nat.eq_zero_or_pos len with h0 | h0
                  · subst h0; simp at hne
                  · exact h0
                have hd0 : (D 0).2[0]? = some ((D 0).2[0]'(by rw [(hD 0 h0).2.2.2]; exact hpos)) := List.getElem?_eq_getElem _
                obtain ⟨v0, -, hv0⟩ := hcell 0 h0 0 _ hd0
                simp only [Nat.zero_mul, Addr.add, if_true] at hv0
                have hspot := World.cell?_spot hv0
                have hblk : a.block < w.heap.size := by
                  rcases Nat.lt_or_ge a.block w.heap.size with h1 | h1
                  · exact h1
                  · simp [World.cell?, Array.getElem?_eq_none h1] at hv0
                obtain ⟨ab, ao, asp⟩ := a
                have hspot : asp = none := hspot
                subst hspot
                refine ⟨ab, ao, rfl, hblk, ?_⟩
                intro i e' he' j d hd
                obtain ⟨hi, rfl⟩ := hget i e' he'
                obtain ⟨v, hv, hc3⟩ := hcell i hi j d hd
                rw [add_plain, add_plain] at hc3
                simpa [List.getD, hv] using hc3
              · intro i e' he' j d hd
                obtain ⟨hi, rfl⟩ := hget i e' he'
                obtain ⟨v, hv, hr⟩ := (hD i hi).2.2.1.get hd
                simpa [List.getD, hv] using hr
            rwa [hes] at hrep
      | struct fs =>
        simp only [Bool.and_eq_true] at hcl
        obtain ⟨hmem, hlay⟩ := hcl
        have hlay : laidFields P 0 fs.toList = some (P.cellsOf t) := by simpa using hlay
        obtain ⟨xs, n', hn, -, hlen, hxl, hf⟩ := DataW.trod_struct hu h
        obtain rfl : n = n' := by omega
        have key : ∀ i, i < fs.size → ∃ ts, ∀ f, fs[i]? = some f → TyOf P f.type ts ∧ RepL w ts ((cs.drop f.offset).take (P.cellsOf f.type)) := by
          intro i hi
          have hfi : fs[i]? = some fs[i] := Array.getElem?_eq_getElem hi
          have h1 := hf i fs[i] hfi
          rw [List.getElem?_eq_getElem (by omega)] at h1
          have hm : fs[i].type ∈ S := by
            have := Array.all_eq_true.1 hmem i hi
            simpa using this
          obtain ⟨ts, h4, h5, _⟩ := ih fs[i].type _ _ hm h1
          refine ⟨ts, fun f hf' => ?_⟩
          rw [hfi] at hf'
          cases hf'
          exact ⟨h4, h5⟩
        obtain ⟨parts, hp⟩ := choose_lt (α := List Tr) key
        have hr : RepL w ((List.range' 0 fs.toList.length).flatMap parts) (cs.drop 0) := repL_fields fs.toList 0 _ parts 0 hlay hlen (fun i f hi => by
          have hi' : fs[i]? = some f := by simpa using hi
          have hlt : i < fs.size := (Array.getElem?_eq_some_iff.1 hi').1
          simpa using (hp i hlt f hi').2)
        have hr : RepL w ((List.range fs.size).flatMap parts) cs := by simpa [List.range_eq_range'] using hr
        exact ⟨_, .struct parts hu (fun i f hi => (hp i (Array.getElem?_eq_some_iff.1 hi).1 f hi).1), hr, by rw [hr.length, hlen]⟩
      | _ => simp at hcl
end
section
variable {P : Program}
theorem TyOf.int_inv {t : TypeId} {ts : List Tr} {k : IntKind} (h : TyOf P t ts) (hu : P.underlying t = some (.int k)) : ∃ n, ts = [.leaf (.int k n)] := by
  cases h <;> simp_all
theorem TyOf.str_inv {t : TypeId} {ts : List Tr} (h : TyOf P t ts) (hu : P.underlying t = some .string) : ∃ s, ts = [.leaf (.string s)] := by
  cases h <;> simp_all
theorem TyOf.bool_inv {t : TypeId} {ts : List Tr} (h : TyOf P t ts) (hu : P.underlying t = some .bool) : ∃ b, ts = [.leaf (.bool b)] := by
  cases h <;> simp_all
theorem TyOf.slice_inv {t e : TypeId} {ts : List Tr} (h : TyOf P t ts) (hu : P.underlying t = some (.slice e)) : ∃ es, ts = [.row (P.cellsOf e) es] ∧ ∀ x ∈ es, TyOf P e x := by
  cases h with
  | slice h1 h2 => rw [hu] at h1; cases h1; exact ⟨_, rfl, h2⟩
  | _ => simp_all
theorem TyOf.struct_inv {t : TypeId} {fs : Array Field} {ts : List Tr} (h : TyOf P t ts) (hu : P.underlying t = some (.struct fs)) :
    ∃ parts : Nat → List Tr, ts = (List.range fs.size).flatMap parts ∧ ∀ i f, fs[i]? = some f → TyOf P f.type (parts i) := by
  cases h with
  | struct parts h1 h2 => rw [hu] at h1; cases h1; exact ⟨parts, rfl, h2⟩
  | _ => simp_all
end
theorem mem_part {parts : Nat → List Tr} {t : Tr} {k n : Nat} (hk : k < n) (h : parts k = [t]) : t ∈ (List.range n).flatMap parts := List.mem_flatMap.2 ⟨k, List.mem_range.2 hk, by rw [h]; exact List.mem_singleton.2 rfl⟩
theorem list_of {α : Type} {tr : α → List Tr} : ∀ {es : List (List Tr)}, (∀ e ∈ es, ∃ x, e = tr x) → ∃ l : List α, es = l.map tr
  | [], _ => ⟨[], rfl⟩
  | e :: es, h => by
    obtain ⟨x, rfl⟩ := h e (by simp)
    obtain ⟨l, rfl⟩ := list_of (es := es) fun e he => h e (by simp [he])
    exact ⟨x :: l, rfl⟩

end Go.Proofs.YtnakkelglbcecaaGreat
