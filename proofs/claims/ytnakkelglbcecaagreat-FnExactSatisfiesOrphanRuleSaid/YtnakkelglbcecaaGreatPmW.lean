/- Rules for slices that grow, and for functions that are handed them. No conditions. -/
import Derived.Test.YtnakkelglbcecaaGreatPmY
import Derived.Test.YtnakkelglbcecaaGreatPmZ
namespace Go.Proofs.YtnakkelglbcecaaGreat
set_option linter.unusedSimpArgs false
set_option linter.unusedVariables false
open Go.RowKit Go.WalkArith Go.IntWalk Go.WideShapes

theorem strTrs_all (l : List ByteArray) : ∀ e ∈ strTrs l, e.length = 1 := fun e he => by
  unfold strTrs at he
  obtain ⟨x, _, rfl⟩ := List.mem_map.1 he
  rfl
theorem intTrs_all (l : List Int) : ∀ e ∈ intTrs l, e.length = 1 := fun e he => by
  unfold intTrs at he
  obtain ⟨x, _, rfl⟩ := List.mem_map.1 he
  rfl
theorem strTrs_append (a b : List ByteArray) : strTrs a ++ strTrs b = strTrs (a ++ b) := by simp [strTrs]
theorem intTrs_append (a b : List Int) : intTrs a ++ intTrs b = intTrs (a ++ b) := by simp [intTrs]

section
variable {P : Program} {C : Ctx} {n : Nat} {s : AS} {Q : Exit → AS → Prop} {o : Oper}
theorem AWP.wk {s' : AS} {c : Code} (hw : Wk C n s s') (h : AWP P C n c Q s') : AWP P C n c Q s := fun m a w hr => by
  obtain ⟨m', h'⟩ := hw m a w hr
  exact h m' a w h'
theorem AOp.appendE {T E sz by_ : Nat} {x y : Operand} {es es2 es3 : List (List Tr)} {r : Nat} {row : PRow} {p : PV} (ho : o.op = .call { callee := .builtin .append, args := #[x, y], argTypes := #[T, T] }) (hd : dstOk o.dst n = true)
    (hx : s.ev x = some (.acc sz es r)) (hrow : s.st.rows[r]? = some row) (hes : row.es = es) (hE : row.E = E) (hw : row.whole = false) (hy : s.ev y = some p) (hp : rowOf p = some (sz, es2)) (h2 : ∀ e ∈ es2, e.length = sz)
    (hT : elemOf? P T = some (E, sz, by_)) (hz : (P.info? E).bind (fun i => i.zero.map (fun z => z.cells.size)) = some sz) (hb : 0 < by_) (hlen : (es.length + es2.length) * by_ ≤ 140737488355328) (h3 : es ++ es2 = es3) :
    AOp P C n o s ((⟨s.env, s.st.setRow r { row with es := es3 }⟩ : AS).putO o.dst (.acc sz es3 r)) := by
  subst h3
  exact AOp.append ho hd hx hrow hes hE hw hy hp h2 hT hz hb hlen
theorem AOp.callPE {f : FuncId} {fn : Func} {xs : List Operand} {ts : Array TypeId} {ps qs : List PV} {res : PV} {pre st' S : Sto} (fb fr : List Nat) (ho : o.op = .call { callee := .value (.func f), args := ⟨xs⟩, argTypes := ts }) (hd : dstOk o.dst n = true) (hf : P.funcs[f]? = some fn) (hnm : (fn.name == "runtime.NumGoroutine") = false) (hb : fn.body.isNone = false)
    (hx : xs.map s.ev = ps.map some) (hS : s.st = S) (hp : Part0 S pre fb fr) (hle : LeL ps (renL fb fr qs)) (hok : okInL pre qs = true) (hbl : st'.boxes.length = pre.boxes.length) (hrl : st'.rows.length = pre.rows.length) (hc : ACalls P f qs pre (fun r t => r = res ∧ t = st')) :
    AOp P C n o s ((⟨s.env, S.over st' fb fr⟩ : AS).putO o.dst (PV.ren fb fr res)) := by
  subst hS
  exact AOp.callP fb fr ho hd hf hnm hb hx hp hle hok hbl hrl hc
end

/-- A nil slice is a slice of ours that has not grown yet. -/
theorem ACalls.regNil {P : Program} {f : FuncId} {l1 l2 : List PV} {E sz : Nat} {q res : PV} {t : Sto} (hsz : 0 < sz) (h : ACalls P f (l1 ++ .acc sz [] 0 :: l2) ⟨[], [⟨E, sz, [], false⟩]⟩ (fun r st' => r = res ∧ st' = t)) (hle : PV.Le res q) (hk : PV.okIn ⟨[], []⟩ q = true) : AFun P f (l1 ++ .nil :: l2) q := fun av m w vals hst hv => by
  have hE := ev_addRow (row := ⟨E, sz, [], false⟩) hst
  have hS := sto_addRow (row := ⟨E, sz, [], false⟩) hst hsz rfl
  have hargs : RVL (okA av (Sto.addRow ⟨[], []⟩ ⟨E, sz, [], false⟩) ⟨m.ρ, upd m.γ 0 none⟩) (Sto.addRow ⟨[], []⟩ ⟨E, sz, [], false⟩) ⟨m.ρ, upd m.γ 0 none⟩ w (l1 ++ .acc sz [] 0 :: l2) vals := by
    have h0 := RVL.mono hE _ _ hv
    have hlen := h0.length
    have key : ∀ (l : List PV) (vs : List Value), RVL (okA av (Sto.addRow ⟨[], []⟩ ⟨E, sz, [], false⟩) ⟨m.ρ, upd m.γ 0 none⟩) (Sto.addRow ⟨[], []⟩ ⟨E, sz, [], false⟩) ⟨m.ρ, upd m.γ 0 none⟩ w (l ++ .nil :: l2) vs →
        RVL (okA av (Sto.addRow ⟨[], []⟩ ⟨E, sz, [], false⟩) ⟨m.ρ, upd m.γ 0 none⟩) (Sto.addRow ⟨[], []⟩ ⟨E, sz, [], false⟩) ⟨m.ρ, upd m.γ 0 none⟩ w (l ++ .acc sz [] 0 :: l2) vs := by
      intro l
      induction l with
      | nil =>
        intro vs hh
        match vs, hh with
        | v :: vs, hh =>
          refine ⟨?_, hh.2⟩
          obtain rfl := (show v = _ from hh.1)
          exact ⟨⟨E, sz, [], false⟩, rfl, rfl, Nat.le_refl _, RepM.row (es := []) (fun _ _ => undef) (by simp) (by unfold maxLen; omega) (by simp) (by simp), fun _ => by simp [upd, rowVal]⟩
        | [], hh => exact hh.elim
      | cons p l ih =>
        intro vs hh
        match vs, hh with
        | v :: vs, hh => exact ⟨hh.1, ih vs hh.2⟩
        | [], hh => exact hh.elim
    exact key l1 vals h0
  refine (h av _ w vals hS hargs).mono fun e w' => ?_
  rintro ⟨r, st', m', v, k1, ⟨rfl, rfl⟩, k3, k4, k5⟩
  have hl : StLe st' ⟨[], []⟩ := ⟨fun k x' hx => by simp at hx, fun r row' hr => by simp at hr⟩
  exact ⟨q, ⟨[], []⟩, m', v, k1, ⟨rfl, rfl⟩, hl.sto k3, hl.ev (hE.trans k4) Keeps0.nil, hl.rv q _ hk (hle.rv k5)⟩
end Go.Proofs.YtnakkelglbcecaaGreat
