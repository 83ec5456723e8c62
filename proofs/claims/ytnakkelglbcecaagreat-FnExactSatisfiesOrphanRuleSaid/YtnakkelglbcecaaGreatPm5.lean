/- Operations that make memory or write it, told on abstract states. Conditions: what grows stays below 2^40 elements. -/
import Derived.Test.YtnakkelglbcecaaGreatPm4
namespace Go.Proofs.YtnakkelglbcecaaGreat
set_option linter.unusedSimpArgs false
set_option linter.unusedVariables false
open Go.RowKit Go.WalkArith Go.IntWalk Go.WideShapes

theorem RepM.one {ok : Nat → Nat → Prop} {w : World} {t : Tr} {v : Value} (h : RepM ok w t v) : v.oneCell' = true := h.rep.one
/-- The cells of a slice, as a list. -/
theorem RepM.news {ok : Nat → Nat → Prop} {w : World} {sz : Nat} {es : List (List Tr)} {v : Value} (h : RepM ok w (.row sz es) v) (hl : ∀ e ∈ es, e.length = sz) (hne : es ≠ []) (hsz : 0 < sz) :
    ∃ (b off c : Nat) (news : List Value), v = .slice (some ⟨b, off, none⟩) es.length c ∧ news.length = es.length * sz ∧ (∀ (j : Nat) u, news[j]? = some u → w.cell? ((⟨b, off, none⟩ : Addr).add j) = some u) ∧ (∀ u ∈ news, u.oneCell' = true) ∧
      (∀ i e, es[i]? = some e → ∀ j d, e[j]? = some d → ∃ v, news[i * sz + j]? = some v ∧ RepM ok w d v) := by
  cases h with
  | row c h1 h2 h3 h4 =>
    obtain ⟨b, off, rfl, hb, h5⟩ := h3 hne
    have hadd : ∀ n, (⟨b, off, none⟩ : Addr).add n = ⟨b, off + n, none⟩ := fun n => by unfold Addr.add; split <;> simp_all
    have key : ∀ q, q < es.length * sz → ∃ e d, es[q / sz]? = some e ∧ e[q % sz]? = some d := fun q hq => by
      have h1 : q / sz < es.length := by rw [Nat.div_lt_iff_lt_mul hsz]; exact hq
      have h2 : q % sz < (es[q / sz]).length := by rw [hl _ (List.getElem_mem h1)]; exact Nat.mod_lt _ hsz
      exact ⟨es[q / sz], (es[q / sz])[q % sz], List.getElem?_eq_getElem h1, List.getElem?_eq_getElem h2⟩
    have hget : ∀ q, q < es.length * sz → ((List.range (es.length * sz)).map (fun q => c (q / sz) (q % sz)))[q]? = some (c (q / sz) (q % sz)) := fun q hq => by
      rw [List.getElem?_map, List.getElem?_range hq]; rfl
    refine ⟨b, off, _, (List.range (es.length * sz)).map (fun q => c (q / sz) (q % sz)), rfl, by simp, fun j u hu => ?_, fun u hu => ?_, fun i e he j d hd => ?_⟩
    · have hj : j < es.length * sz := by have := get_lt hu; simpa using this
      rw [hget j hj] at hu
      cases hu
      obtain ⟨e, d, k1, k2⟩ := key j hj
      have := (h5 _ e k1 _ d k2).2
      rw [hadd, ← this]
      congr 2
      have := Nat.div_add_mod j sz
      rw [Nat.mul_comm] at this
      omega
    · obtain ⟨q, hq, rfl⟩ := List.mem_map.1 hu
      obtain ⟨e, d, k1, k2⟩ := key q (by simpa using hq)
      exact (h4 _ e k1 _ d k2).one
    · have hi := get_lt he
      have hj : j < sz := by rw [← hl e (List.mem_of_getElem? he)]; exact get_lt hd
      have hq : i * sz + j < es.length * sz := by
        have : (i + 1) * sz ≤ es.length * sz := Nat.mul_le_mul_right _ hi
        rw [Nat.succ_mul] at this
        omega
      refine ⟨c i j, ?_, h4 i e he j d hd⟩
      rw [hget _ hq]
      have e1 : (i * sz + j) / sz = i := by rw [Nat.mul_comm, Nat.mul_add_div hsz]; simp [Nat.div_eq_of_lt hj]
      have e2 : (i * sz + j) % sz = j := by rw [Nat.mul_comm, Nat.mul_add_mod]; exact Nat.mod_eq_of_lt hj
      rw [e1, e2]

def zerosOf (P : Program) (T : TypeId) : Option (List PV) := match P.info? T with
  | some i => match i.zero with
    | some z => z.cells.toList.mapM constPV
    | none => none
  | none => none
theorem mapM_constPV {ok : Nat → Nat → Prop} {st : Sto} {m : Lay} {w : World} : ∀ {vs : List Value} {ps : List PV}, vs.mapM constPV = some ps → RVL ok st m w ps vs
  | [], ps, h => by
    simp at h
    subst h
    trivial
  | v :: vs, ps, h => by
    rw [List.mapM_cons] at h
    cases h1 : constPV v with
    | none => simp [h1] at h
    | some p =>
      cases h2 : vs.mapM constPV with
      | none => simp [h1, h2] at h
      | some qs =>
        simp [h1, h2] at h
        subst h
        exact ⟨constPV_rv h1, mapM_constPV h2⟩
theorem zerosOf.spec {P : Program} {T : TypeId} {ps : List PV} (h : zerosOf P T = some ps) : ∃ i z, P.info? T = some i ∧ i.zero = some z ∧ ∀ ok st m w, RVL ok st m w ps z.cells.toList := by
  unfold zerosOf at h
  split at h
  · rename_i i hi
    split at h
    · rename_i z hz
      exact ⟨i, z, hi, hz, fun _ _ _ _ => mapM_constPV h⟩
    · cases h
  · cases h

section
variable {P : Program} {C : Ctx} {n : Nat} {s : AS} {o : Oper}

theorem AOp.run {s1 : AS} {p : PV} (hd : dstOk o.dst n = true) (h : ∀ m a w, RA C n s m a w → ∃ v m1 w1, (execOp a.eval o).run P w = .ok (.value v) w1 ∧ Ev s.st m w s1.st m1 w1 ∧ StoOk C.av s1.st m1 w1 ∧ RV (okA C.av s1.st m1) s1.st m1 w1 p v)
    (he : s1.env = s.env) : AOp P C n o s (s1.putO o.dst p) := fun m a w hr K Q hK => by
  obtain ⟨v, m1, w1, h1, h2, h3, h4⟩ := h m a w hr
  unfold Oper.wp
  rw [h1]
  obtain ⟨env1, st1⟩ := s1
  cases he
  exact hK m1 _ w1 ((hr.step h2 h3).put (dstOk_lt hd) h4)
theorem AOp.runU {s1 : AS} (h : ∀ m a w, RA C n s m a w → ∃ m1 w1, (execOp a.eval o).run P w = .ok .skip w1 ∧ Ev s.st m w s1.st m1 w1 ∧ StoOk C.av s1.st m1 w1)
    (he : s1.env = s.env) : AOp P C n o s (s1.delO o.dst) := fun m a w hr K Q hK => by
  obtain ⟨m1, w1, h1, h2, h3⟩ := h m a w hr
  unfold Oper.wp
  rw [h1]
  obtain ⟨env1, st1⟩ := s1
  cases he
  exact hK m1 _ w1 ((hr.step h2 h3).del o.dst undef)

theorem AOp.alloc {T : TypeId} {ps : List PV} (ho : o.op = .alloc T) (hd : dstOk o.dst n = true) (hz : zerosOf P T = some ps) : AOp P C n o s ((⟨s.env, s.st.addBox ⟨T, ps⟩⟩ : AS).putO o.dst (.ptr s.st.boxes.length 0)) :=
  AOp.run hd (s1 := ⟨s.env, s.st.addBox ⟨T, ps⟩⟩) (fun m a w h => by
    obtain ⟨i, z, hi, hzz, hr⟩ := zerosOf.spec hz
    refine ⟨.pointer (some ⟨w.heap.size, 0, none⟩), _, w.alloc (.cells ⟨z.cells.toList⟩ T), ?_, ev_addBox (x := ⟨T, ps⟩), sto_addBox (x := ⟨T, ps⟩) h.sto (hr _ _ _ _), ⟨⟨T, ps⟩, by simp [Sto.addBox]⟩, by simp [upd_same]⟩
    unfold execOp
    simp [ho, Instr.alloc, zeroValue, typeInfo, hi, hzz, newVar, newRow]) rfl

/-- The cells that a value takes. -/
def cellsP : PV → List PV
  | .agg cs => cs
  | p => [p]
theorem cellsP_rv {ok : Nat → Nat → Prop} {st : Sto} {m : Lay} {w : World} {p : PV} {v : Value} (h : RV ok st m w p v) (ht : ∀ ps, p ≠ .tup ps) : RVL ok st m w (cellsP p) v.cells.toList := by
  cases p with
  | agg cs =>
    obtain ⟨vs, rfl, h1⟩ := h
    exact h1
  | tup ps => exact absurd rfl (ht ps)
  | t t =>
    have h0 : RepM ok w t v := h
    have hv : v.cells = #[v] := by
      cases h0 with
      | leaf hl => cases v <;> first | rfl | exact hl.elim
      | row => rfl
    rw [hv]; exact ⟨h, trivial⟩
  | nil => obtain rfl := (show v = _ from h); exact ⟨rfl, trivial⟩
  | acc sz es r =>
    obtain ⟨row, h1, h2, h3, h4, h5⟩ := h
    obtain ⟨ad, cap, rfl, -, -⟩ := h4.shape
    exact ⟨⟨row, h1, h2, h3, h4, h5⟩, trivial⟩
  | ptr k d =>
    obtain ⟨h1, rfl⟩ := h
    exact ⟨⟨h1, rfl⟩, trivial⟩
  | eptr cs =>
    obtain ⟨b, off, rfl, h2⟩ := h
    exact ⟨⟨b, off, rfl, h2⟩, trivial⟩
  | fn f cs =>
    obtain ⟨vs, rfl, h2⟩ := h
    exact ⟨⟨vs, rfl, h2⟩, trivial⟩
  | full sz k r =>
    obtain ⟨row, g, h1, h2, h3, h4, rfl⟩ := h
    exact ⟨⟨row, g, h1, h2, h3, h4, rfl⟩, trivial⟩
  | rptr r i =>
    obtain ⟨row, g, k, h1, h3, h4, rfl⟩ := h
    exact ⟨⟨row, g, k, h1, h3, h4, rfl⟩, trivial⟩
def notTup : PV → Bool
  | .tup _ => false
  | _ => true
theorem notTup.ne {p : PV} (h : notTup p = true) : ∀ ps, p ≠ .tup ps := by rintro ps rfl; cases h
theorem RV.oneCell {ok : Nat → Nat → Prop} {st : Sto} {m : Lay} {w : World} {p : PV} {v : Value} (h : RV ok st m w p v) (ht : cellsP p = [p]) (htt : notTup p = true) : v.oneCell' = true := by
  cases p with
  | agg cs =>
    exfalso
    simp only [cellsP] at ht
    have := congrArg (fun l : List PV => SizeOf.sizeOf l) ht
    simp at this
    omega
  | tup ps => cases htt
  | t t => exact RepM.one h
  | nil => obtain rfl := (show v = _ from h); rfl
  | acc sz es r =>
    obtain ⟨row, h1, h2, h3, h4, h5⟩ := h
    exact h4.one
  | ptr k d => obtain ⟨h1, rfl⟩ := h; rfl
  | eptr cs => obtain ⟨b, off, rfl, h2⟩ := h; rfl
  | fn f cs => obtain ⟨vs, rfl, h2⟩ := h; rfl
  | full sz k r => obtain ⟨row, g, h1, h2, h3, h4, rfl⟩ := h; rfl
  | rptr r i => obtain ⟨row, g, k, h1, h3, h4, rfl⟩ := h; rfl
/-- Cells that are cells. -/
def flatP : List PV → Bool
  | [] => true
  | .agg _ :: _ => false
  | .tup _ :: _ => false
  | _ :: ps => flatP ps
theorem flatP.one {ok : Nat → Nat → Prop} {st : Sto} {m : Lay} {w : World} : ∀ {ps : List PV} {vs : List Value}, flatP ps = true → RVL ok st m w ps vs → ∀ v ∈ vs, v.oneCell' = true
  | [], [], _, _, v, hv => by cases hv
  | p :: ps, u :: vs, hf, h, v, hv => by
    have h2 : flatP ps = true := by cases p <;> first | exact hf | cases hf
    rcases List.mem_cons.1 hv with rfl | hv
    · cases p with
      | agg cs => cases hf
      | tup cs => cases hf
      | _ => exact h.1.oneCell rfl rfl
    · exact flatP.one h2 h.2 v hv
  | [], _ :: _, _, h, _, _ => h.elim
  | _ :: _, [], _, h, _, _ => h.elim

theorem AOp.box {T : TypeId} {x : Operand} {p : PV} {cs : List PV} (ho : o.op = .box T x) (hd : dstOk o.dst n = true) (hx : s.ev x = some p) (hc : cellsP p = cs) (ht : notTup p = true) : AOp P C n o s ((⟨s.env, s.st.addBox ⟨T, cs⟩⟩ : AS).putO o.dst (.ptr s.st.boxes.length 0)) :=
  AOp.run hd (s1 := ⟨s.env, s.st.addBox ⟨T, cs⟩⟩) (fun m a w h => by
    subst hc
    have hr := cellsP_rv (h.eval hx) (notTup.ne ht)
    refine ⟨.pointer (some ⟨w.heap.size, 0, none⟩), _, w.alloc (.cells ⟨(a.eval x).cells.toList⟩ T), ?_, ev_addBox (x := ⟨T, cellsP p⟩), sto_addBox (x := ⟨T, cellsP p⟩) h.sto hr, ⟨⟨T, cellsP p⟩, by simp [Sto.addBox]⟩, by simp [upd_same]⟩
    unfold execOp
    simp [ho, Instr.box, newVar, newRow]) rfl

theorem run_storeVar_ob {T : TypeId} {B d : Nat} {v : Value} {w : World} {E : TypeId} {arr : Array Value} (hob : OB w B E arr) (hT : (P.info? T).map (·.size) = some v.cells.size) (hfit : d + v.cells.size ≤ arr.size) (h1 : ∀ u ∈ v.cells.toList, u.oneCell' = true) :
    (storeVar T ⟨B, d, none⟩ v).run P w = .ok () (w.setRow B (splice arr d v.cells.toList)) := by
  have hst := run_storeCells_at P B d E v.cells.toList 0 arr w hob (by simpa using hfit) h1
  cases hq : P.info? T with
  | none => simp [hq] at hT
  | some i =>
    have hs : i.size = v.cells.size := by simpa [hq] using hT
    simp only [storeVar]
    simp [Go.sizeOf, typeInfo, hq, hs, hst, splice]

theorem RVL.splice {ok : Nat → Nat → Prop} {st : Sto} {m : Lay} {w : World} {ps qs : List PV} {vs us : List Value} (h : RVL ok st m w ps vs) (k : RVL ok st m w qs us) (d : Nat) : RVL ok st m w (ps.take d ++ qs ++ ps.drop (d + qs.length)) (splice ⟨vs⟩ d us).toList := by
  have := RVL.append (RVL.append (h.take d) k) (h.drop (d + qs.length))
  rw [k.length] at this ⊢
  simpa [Go.Proofs.YtnakkelglbcecaaGreat.splice] using this

theorem AOp.storePtr {T : TypeId} {x y : Operand} {k d : Nat} {bx : PBox} {p : PV} {cs ds : List PV} (ho : o.op = .store T x y) (hx : s.ev x = some (.ptr k d)) (hb : s.st.boxes[k]? = some (some bx)) (hy : s.ev y = some p) (hc : cellsP p = cs) (ht : notTup p = true) (hf : flatP cs = true)
    (hT : (P.info? T).map (·.size) = some cs.length) (hfit : d + cs.length ≤ bx.cells.length) (hds : bx.cells.take d ++ cs ++ bx.cells.drop (d + cs.length) = ds) : AOp P C n o s ((⟨s.env, s.st.setBox k ⟨bx.ty, ds⟩⟩ : AS).delO o.dst) :=
  AOp.runU (s1 := ⟨s.env, s.st.setBox k ⟨bx.ty, ds⟩⟩) (fun m a w h => by
    subst hc hds
    have hr := cellsP_rv (h.eval hy) (notTup.ne ht)
    obtain ⟨-, h2⟩ := h.eval hx
    obtain ⟨vs, h3, h4⟩ := h.sto.box k bx hb
    have hl1 := hr.length
    have hl2 := h4.length
    have hrun := run_storeVar_ob (P := P) (T := T) (d := d) (v := a.eval y) h3 (by rw [hT, hl1]; simp) (by simp only [List.size_toArray]; rw [← hl2]; rw [hl1] at hfit; simpa using hfit) (flatP.one hf hr)
    have hother : ∀ b, b ≠ m.ρ k → (w.setRow (m.ρ k) (splice ⟨vs⟩ d (a.eval y).cells.toList)).heap[b]? = w.heap[b]? := fun b hb => setRow_other w _ b _ hb
    refine ⟨m, w.setRow (m.ρ k) (splice ⟨vs⟩ d (a.eval y).cells.toList), ?_, ev_setBox h.sto hb rfl rfl rfl (by simp) hother, sto_setBox (vs := (splice ⟨vs⟩ d (a.eval y).cells.toList).toList) h.sto hb rfl rfl rfl (by simp) hother ?_ (RVL.splice h4 hr d)⟩
    · unfold execOp
      simp [ho, h2, Instr.storeAt, Instr.sureAddr, hrun]
    · exact setRow_heap w _ ⟨vs⟩ _ _ _ h3) rfl
end
end Go.Proofs.YtnakkelglbcecaaGreat
