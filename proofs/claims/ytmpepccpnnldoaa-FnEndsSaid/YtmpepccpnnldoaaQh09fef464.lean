/- Words, rules and walks of several kinds, laid together: Binds, Plain, SL, TyEq0, TyEq, TyPlain, Acc, TyFn, Each, Vars, Smaller, Count, Smaller2, Find, Term, CopyTy, LookP, ApplyTy, PlEnds, EndN, MaLEnds, Pl, PlOk, Bk, OkDr. No conditions but those that each theorem states. -/
import Derived.Test.YtmpepccpnnldoaaQh6152063c
import Derived.Deep.AppendLies
import Derived.Test.YtmpepccpnnldoaaQh8478a53f
import Derived.Test.YtmpepccpnnldoaaQh806d8a02
import Derived.BigQuiet
import Derived.Deep.QuietTactic
import Derived.Deep.DeepCutAuto
set_option linter.unusedSimpArgs false
set_option linter.unusedVariables false
namespace Go.Proofs.Ytmpepccpnnldoaa
set_option linter.unusedSimpArgs false
set_option linter.unusedVariables false
noncomputable section
open Go.RowKit Go.Proofs

def abc : List ByteArray := [⟨#[97]⟩, ⟨#[98]⟩, ⟨#[99]⟩]
def setHd : List GBinding → GType → List GBinding
  | [], _ => []
  | b :: l, t => GBinding.mk b.gVar t :: l
/-- One round: a binding is drawn, and put behind the others if its variable is new, or by chance. -/
def stepB (fu : Nat) (s : List GBinding × DS) : Option (List GBinding × DS) :=
  bd (sl4Free_M fu (s.2.after 3) 2) fun r => bd (sLookup_M fu s.1 (s.2.pick abc)) fun q =>
    if q.2 = true then (if r.2.below 4 = 0 then some (s.1 ++ [GBinding.mk (s.2.pick abc) r.1], r.2.after 4) else some (s.1, r.2.after 4)) else some (s.1 ++ [GBinding.mk (s.2.pick abc) r.1], r.2)
def runB (fu : Nat) : Nat → List GBinding × DS → Option (List GBinding × DS)
  | 0, s => some s
  | k + 1, s => bd (stepB fu s) (runB fu k)
def endB (fu : Nat) (n : Nat) (s : List GBinding × DS) : Option (List GBinding × DS) :=
  if 0 < n ∧ 0 < s.1.length then (if s.2.below 8 = 0 then bd (sl4Bent_M fu (s.2.after 8)) fun r => some (setHd s.1 r.1, r.2) else some (s.1, s.2.after 8)) else some s
def sl6Binds_M (fu : Nat) (pc : DS) : Option (List GBinding × DS) := bd (runB fu (pc.below 4) ([], pc.after 4)) (endB fu (pc.below 4))
def sl6Binds_T (m : DS → Option (List GBinding × DS)) : Prop := ∀ (pc : DS) (r : List GBinding × DS), m pc = some r → ACalls Try.prog 29 [.ptr 0 0] ⟨[some ⟨99, dC pc⟩], []⟩ (fun q t => q = (rBinding r.1 : PV) ∧ t = ⟨[some ⟨99, dC r.2⟩], []⟩)

theorem AFun.plainSB {P : Program} {f : FuncId} {args : List PV} {ts : List Tr} {d : Value} (h : AFun P f args (.tup [.agg (ts.map PV.t), .t (.leaf d)])) {w : World} {vals : List Value} (hv : RVL0 w args vals) :
    Calls P f ⟨vals⟩ w fun e w' => ∃ cs, e = .returned (.tuple #[.agg ⟨cs⟩, d]) ∧ Ext w w' ∧ RepL w' ts cs :=
  (h av0 lay0 w vals (sto0 w) hv).mono fun e w' => by
    rintro ⟨res, st', m', v, rfl, ⟨rfl, rfl⟩, -, he, vs, rfl, hr⟩
    match vs, hr with
    | [u, x], hr =>
      obtain ⟨rfl, -⟩ := (RepM.rep (show RepM _ _ (.leaf d) x from hr.2.1)).leaf_eq
      obtain ⟨cs, rfl, hc⟩ := hr.1
      exact ⟨cs, rfl, he.ext, RVL.ofTr hc⟩
theorem flatten_at {α : Type} {sz : Nat} : ∀ {es : List (List α)} {i j : Nat} {e : List α} {d : α}, (∀ e ∈ es, e.length = sz) → es[i]? = some e → e[j]? = some d → es.flatten[i * sz + j]? = some d
  | [], i, j, e, d, _, h, _ => by simp at h
  | a :: es, 0, j, e, d, hl, h, k => by
    simp only [List.getElem?_cons_zero, Option.some.injEq] at h
    subst h
    have := (List.getElem?_eq_some_iff.1 k).1
    rw [List.flatten_cons, Nat.zero_mul, Nat.zero_add, List.getElem?_append_left this]
    exact k
  | a :: es, i + 1, j, e, d, hl, h, k => by
    have ha := hl a (by simp)
    rw [List.flatten_cons, List.getElem?_append_right (by rw [ha, Nat.succ_mul]; omega), ha, show (i + 1) * sz + j - sz = i * sz + j by rw [Nat.succ_mul]; omega]
    exact flatten_at (fun e he => hl e (by simp [he])) (by simpa using h) k
theorem RML.get {ok : Nat → Nat → Prop} {w : World} : ∀ {ts : List Tr} {vs : List Value} {k : Nat} {d : Tr}, RML ok w ts vs → ts[k]? = some d → ∃ v, vs[k]? = some v ∧ RepM ok w d v
  | t :: ts, v :: vs, 0, d, h, hk => by
    simp only [List.getElem?_cons_zero, Option.some.injEq] at hk
    subst hk
    exact ⟨v, rfl, h.1⟩
  | t :: ts, v :: vs, k + 1, d, h, hk => by
    obtain ⟨u, h1, h2⟩ := RML.get h.2 (by simpa using hk)
    exact ⟨u, by simpa using h1, h2⟩
def AG (A : Nat → Nat → Prop) (g b o : Nat) : Prop := A b o ∨ b = g
/-- The slice that is being made: its row is block g; nothing of what it holds lies there. -/
structure OutI (cb : Nat) (A : Nat → Nat → Prop) (base : Nat) (w : World) (g : Nat) (v : Value) (bs : List GBinding) : Prop where
  own : ∃ xs, w.ownsRow base 104 4 v bs.length xs ∧ RML (okC cb (AG A g)) w (GBinding.trs bs).flatten xs
  blk : ∃ cap, v = .slice (some ⟨g, 0, none⟩) bs.length cap
  ge : base ≤ g
theorem OutI.ob {cb : Nat} {A : Nat → Nat → Prop} {base : Nat} {w : World} {g : Nat} {v : Value} {bs : List GBinding} (h : OutI cb A base w g v bs) : ∃ cap cur xs, v = .slice (some ⟨g, 0, none⟩) bs.length cap ∧ OB w g 104 cur ∧ bs.length ≤ cap ∧ cap ≤ maxLen ∧ cur.size = cap * 4 ∧ cur.toList.take (bs.length * 4) = xs ∧ xs.length = bs.length * 4 ∧ RML (okC cb (AG A g)) w (GBinding.trs bs).flatten xs := by
  obtain ⟨⟨xs, ⟨hl, hx⟩, hr⟩, ⟨cap, hv⟩, -⟩ := h
  rcases hx with ⟨h1, -⟩ | ⟨g', cap', cur, h1, -, h3, h4, h5, h6, h7⟩
  · rw [h1] at hv
    cases hv
  · have : g' = g := by rw [h1] at hv; cases hv; rfl
    subst this
    exact ⟨cap', cur, xs, h1, h3, h4, h5, h6, h7, hl, hr⟩
theorem OutI.lt {cb : Nat} {A : Nat → Nat → Prop} {base : Nat} {w : World} {g : Nat} {v : Value} {bs : List GBinding} (h : OutI cb A base w g v bs) : g < w.heap.size := by
  obtain ⟨_, _, _, _, h2, _⟩ := h.ob
  exact h2.lt
theorem OutI.repM {cb : Nat} {A : Nat → Nat → Prop} {base : Nat} {w : World} {g : Nat} {v : Value} {bs : List GBinding} (h : OutI cb A base w g v bs) {ok : Nat → Nat → Prop} (hg : ∀ o, ok g o) (hk : ∀ b o, b < w.heap.size → okC cb (AG A g) b o → ok b o) : RepM ok w (.row 4 (GBinding.trs bs)) v := by
  obtain ⟨cap, cur, xs, rfl, h2, h3, h4, h5, h6, h7, h8⟩ := h.ob
  have hsz : ∀ e ∈ GBinding.trs bs, e.length = 4 := GBinding.sz bs
  have := RepM.row (ok := ok) (w := w) (sz := 4) (es := GBinding.trs bs) (a := some ⟨g, 0, none⟩) (cap := cap) (fun i j => xs.getD (i * 4 + j) undef) (by rw [GBinding.trs_len]; exact h3) h4 (fun _ => ⟨g, 0, rfl, h2.lt, fun i e he j d hd => ⟨hg _, ?_⟩⟩) (fun i e he j d hd => ?_)
  · rw [GBinding.trs_len] at this
    exact this
  · obtain ⟨u, hu, -⟩ := h8.get (flatten_at hsz he hd)
    have hlt := (List.getElem?_eq_some_iff.1 hu).1
    rw [h2.cell, Nat.zero_add]
    have e1 : xs.getD (i * 4 + j) undef = u := by rw [List.getD_eq_getElem?_getD, hu]; rfl
    rw [e1, ← Array.getElem?_toList]
    have e2 := hu
    rw [← h6, List.getElem?_take] at e2
    rw [if_pos (by omega)] at e2
    exact e2
  · obtain ⟨u, hu, hr⟩ := h8.get (flatten_at hsz he hd)
    have e1 : xs.getD (i * 4 + j) undef = u := by rw [List.getD_eq_getElem?_getD, hu]; rfl
    rw [e1]
    exact hr.mono (Nat.le_refl _) hk (fun _ _ _ _ => rfl)
/-- Other work goes on beside it. -/
theorem OutI.next {cb : Nat} {A : Nat → Nat → Prop} {base : Nat} {w w' : World} {g : Nat} {v : Value} {bs : List GBinding} (h : OutI cb A base w g v bs) (hx : Stp cb w w') (hg : g ≠ cb) : OutI cb A base w' g v bs := by
  obtain ⟨⟨xs, ⟨hl, h1⟩, hr⟩, hb, hge⟩ := h
  have hlt := OutI.lt ⟨⟨xs, ⟨hl, h1⟩, hr⟩, hb, hge⟩
  refine ⟨⟨xs, ⟨hl, ?_⟩, RML.move hx.size (fun _ _ _ h => h) (fun b o hb ho => heap_other_cell (hx.block b hb ho.2)) hr⟩, hb, hge⟩
  rcases h1 with h1 | ⟨g', cap', cur, h1, h2, h3, h4⟩
  · exact .inl h1
  · obtain ⟨cap, hv⟩ := hb
    have : g' = g := by rw [h1] at hv; cases hv; rfl
    subst this
    exact .inr ⟨g', cap', cur, h1, h2, (hx.block g' hlt hg).trans h3, h4⟩
theorem bd_inv {α β : Type} {m : Option α} {f : α → Option β} {r : β} (h : bd m f = some r) : ∃ s, m = some s ∧ f s = some r := by
  cases m with
  | none => cases h
  | some s => exact ⟨s, rfl, h⟩
/-- The three names, in a row that has just been made. -/
theorem abc_rep {cb : Nat} {A : Nat → Nat → Prop} {w : World} (hA : ∀ b o, A b o → b < w.heap.size) (hc : cb < w.heap.size) : RML (okC cb A) (w.alloc (.cells #[.string ⟨#[97]⟩, .string ⟨#[98]⟩, .string ⟨#[99]⟩] 9)) [.row 1 (strTrs abc)] [.slice (some ⟨w.heap.size, 0, none⟩) 3 3] := by
  have hob := OB.new w 9 #[.string ⟨#[97]⟩, .string ⟨#[98]⟩, .string ⟨#[99]⟩]
  have hok : ∀ o, okC cb A w.heap.size o := fun o => ⟨fun h => by have := hA _ _ h; omega, by omega⟩
  refine ⟨RepM.row (es := strTrs abc) (fun i _ => (#[Value.string ⟨#[97]⟩, .string ⟨#[98]⟩, .string ⟨#[99]⟩] : Array Value).getD i undef) (by decide) (by unfold maxLen; decide) (fun _ => ⟨w.heap.size, 0, rfl, hob.lt, fun i e he j d hd => ⟨hok _, ?_⟩⟩) (fun i e he j d hd => ?_), trivial⟩
  · rw [hob.cell]
    match i, he with
    | 0, he => cases he; match j, hd with
      | 0, _ => rfl
    | 1, he => cases he; match j, hd with
      | 0, _ => rfl
    | 2, he => cases he; match j, hd with
      | 0, _ => rfl
  · match i, he with
    | 0, he => cases he; match j, hd with
      | 0, hd => cases hd; exact .leaf (by show _ ≤ _; decide)
    | 1, he => cases he; match j, hd with
      | 0, hd => cases hd; exact .leaf (by show _ ≤ _; decide)
    | 2, he => cases he; match j, hd with
      | 0, hd => cases hd; exact .leaf (by show _ ≤ _; decide)
theorem trs_flat_cons (b : GBinding) (bl : List GBinding) : (GBinding.trs (b :: bl)).flatten = b.cs ++ (GBinding.trs bl).flatten := by simp [GBinding.trs_map, GBinding.tr_cs]
/-- The first binding's type is put anew. -/
theorem OutI.setHd {cb : Nat} {A : Nat → Nat → Prop} {base : Nat} {w w' : World} {g : Nat} {v : Value} {b : GBinding} {bl : List GBinding} (h : OutI cb A base w g v (b :: bl)) {cur : Array Value} (hc : OB w g 104 cur) {t : GType} {c0 c1 c2 : Value}
    (hr : RML (okC cb (AG A g)) w t.cs [c0, c1, c2]) (hob : OB w' g 104 (splice cur 1 [c0, c1, c2])) (hg : w.grownBy w' (some g)) : OutI cb A base w' g v (GBinding.mk b.gVar t :: bl) := by
  obtain ⟨cap, cur', xs, hv, h2, h3, h4, h5, h6, h7, h8⟩ := h.ob
  obtain rfl : cur = cur' := by
    have := hc.symm.trans h2
    simp at this
    exact this
  have hge := h.ge
  simp only [List.length_cons] at h3 h6 h7 hv
  have hcl : cur.toList.length = cap * 4 := by simpa using h5
  match hcur : cur.toList, hcl with
  | [], e => simp at e; omega
  | [_], e => simp at e; omega
  | [_, _], e => simp at e; omega
  | [_, _, _], e => simp at e; omega
  | y0 :: y1 :: y2 :: y3 :: rest, e =>
    rw [hcur, show (bl.length + 1) * 4 = bl.length * 4 + 1 + 1 + 1 + 1 by omega] at h6
    simp only [List.take_succ_cons] at h6
    subst h6
    have hsp : (splice cur 1 [c0, c1, c2]).toList = y0 :: c0 :: c1 :: c2 :: rest := by simp [splice, hcur]
    have mv : ∀ {ts : List Tr} {vs : List Value}, RML (okC cb (AG A g)) w ts vs → RML (okC cb (AG A g)) w' ts vs := fun hm => hm.move hg.size (fun _ _ _ h => h) fun b o hb ho => heap_other_cell (hg.block b hb fun e => ho.1 (.inr (Option.some.inj e)))
    have h8 : RML (okC cb (AG A g)) w (b.cs ++ (GBinding.trs bl).flatten) (y0 :: y1 :: y2 :: y3 :: rest.take (bl.length * 4)) := by
      rw [← trs_flat_cons]
      exact h8
    have h9 := mv h8
    have hr' := mv hr
    refine ⟨⟨y0 :: c0 :: c1 :: c2 :: rest.take (bl.length * 4), ⟨?_, .inr ⟨g, cap, _, hv, hge, hob, by simpa using h3, h4, ?_, ?_⟩⟩, ?_⟩, ⟨cap, by simpa using hv⟩, hge⟩
    · simp only [List.length_cons] at h7 ⊢
      omega
    · rw [← Array.length_toList, hsp]
      simp only [List.length_cons] at e ⊢
      omega
    · rw [hsp, List.length_cons, show (bl.length + 1) * 4 = bl.length * 4 + 1 + 1 + 1 + 1 by omega]
      simp only [List.take_succ_cons]
    · have : RML (okC cb (AG A g)) w' ((GBinding.mk b.gVar t).cs ++ (GBinding.trs bl).flatten) (y0 :: c0 :: c1 :: c2 :: rest.take (bl.length * 4)) := ⟨h9.1, hr'.1, hr'.2.1, hr'.2.2.1, h9.2.2.2.2⟩
      rw [trs_flat_cons]
      exact this
/-- append of one binding onto it. -/
theorem wpList_append_out {P : Program} {ops : Array Oper} {rest : List Oper} {o : Oper} {a : Act} {w : World} {Q : Exit → Act → World → Prop} (hgd : o.guard = none) (s x : Operand) (t : TypeId)
    (ho : o.op = .call { callee := .builtin .append, args := #[s, x], argTypes := #[t, t] }) (bytes : Nat) (ht : P.underlying t = some (.slice 104))
    (hi : (P.info? 104).map (fun i => (i.zero.map (fun z => z.cells.size), i.size, i.bytes)) = some (some 4, 4, bytes)) (hby : bytes ≤ 100)
    {cb : Nat} {A : Nat → Nat → Prop} {base g : Nat} {v : Value} {bs : List GBinding} {d : DS} (n : Nat) (hn : bs.length = n) (hs : a.eval s = v) (hO : OutI cb A base w g v bs) (hC : Cur cb (AG A g) d w)
    (b : GBinding) (cs : List Value) (hr : RML (okC cb (AG A g)) w b.cs cs) (B c : Nat) (E2 : TypeId) (hx : a.eval x = .slice (some ⟨B, 0, none⟩) 1 c) (hB : OB w B E2 ⟨cs⟩) (hlen : n ≤ 1000)
    (h : ∀ g' cap' w', OutI cb A base w' g' (.slice (some ⟨g', 0, none⟩) (n + 1) cap') (bs ++ [b]) → Cur cb (AG A g') d w' → (∀ w0, Stp cb w0 w → w0.heap.size = base → Stp cb w0 w') →
      wpList P ops Q rest (a.put o.dst (.slice (some ⟨g', 0, none⟩) (n + 1) cap')) w') : wpList P ops Q (o :: rest) a w := by
  subst hn
  have hgl := hO.lt
  have hcl := hC.lt
  have hgc : g ≠ cb := fun e => hC.not 0 (.inr e.symm)
  obtain ⟨⟨xs, hxs, hrx⟩, ⟨cap, hv⟩, hge⟩ := hO
  cases hq : P.info? 104 with
  | none => simp [hq] at hi
  | some i =>
    simp only [hq, Option.map_some, Option.some.injEq, Prod.mk.injEq] at hi
    obtain ⟨h1, h2, h3⟩ := hi
    cases hz : i.zero with
    | none => simp [hz] at h1
    | some z =>
      simp only [hz, Option.map_some, Option.some.injEq] at h1
      have hcl4 : cs.length = 4 := by rw [hr.len]; rfl
      have hbb : (bs.length + 1) * bytes ≤ 1001 * 100 := Nat.mul_le_mul (by omega) hby
      refine wpList_append_lies w hgd s x t ho base 104 i z 4 bytes ht hq hz h2 h3 h1 (by omega) v bs.length xs hs hxs ⟨B, 0, none⟩ 1 c cs hx (by omega) ?_ (hr.rep.one) (by omega) (by unfold maxLen; omega) (by omega) (by omega) _ rfl ?_
      · intro j u hu
        exact World.news_of_block hB j u (by simpa using hu)
      · intro g' cap' w' k1 k2 k3 k4
        have hvo : v.ownBlock = some g := by rw [hv]; rfl
        rw [hvo] at k2 k3
        have hg' : g' = g ∨ g' = w.heap.size := by
          rcases k3 with k3 | k3
          · exact .inl (Option.some.inj k3).symm
          · exact .inr k3
        have hgc' : g' ≠ cb := by rcases hg' with rfl | rfl <;> omega
        have mv : ∀ {ts : List Tr} {vs : List Value}, RML (okC cb (AG A g)) w ts vs → RML (okC cb (AG A g')) w' ts vs := fun hm => hm.move k2.size (fun b o hb ho => ⟨fun ha => by
            rcases ha with ha | rfl
            · exact ho.1 (.inl ha)
            · rcases hg' with rfl | rfl
              · exact ho.1 (.inr rfl)
              · omega, ho.2⟩) (fun b o hb ho => heap_other_cell (k2.block b hb fun e => ho.1 (.inr (Option.some.inj e))))
        refine h g' cap' w' ⟨⟨xs ++ cs, by simpa using k1, ?_⟩, ⟨cap', by simp⟩, by rcases hg' with rfl | rfl <;> omega⟩ ?_ ?_
        · have e1 : (GBinding.trs (bs ++ [b])).flatten = (GBinding.trs bs).flatten ++ b.cs := by rw [← GBinding.trs_snoc', List.flatten_append]; simp
          rw [e1]
          exact (mv hrx).append (mv hr)
        · refine hC.next k2.size (fun b hb => ?_) (fun b o ha => ?_)
          · by_cases e : b = g
            · exact .inl fun o => .inr e
            · exact .inr (k2.block b hb fun h => e (Option.some.inj h))
          · rcases ha with ha | rfl
            · exact ⟨.inl (.inl ha), Nat.lt_of_lt_of_le (hC.av (.inl ha)) k2.size, fun e => hC.not o (e ▸ .inl ha)⟩
            · exact ⟨by rcases hg' with e | e; exact .inl (.inr e); exact .inr (by omega), k4, hgc'⟩
        · intro w0 hw0 hb0
          exact hw0.grown k2 k2.size (by omega)
theorem OB.stp {cb : Nat} {w w' : World} {B : Nat} {T : TypeId} {cs : Array Value} (h : OB w B T cs) (hx : Stp cb w w') (hB : B ≠ cb) : OB w' B T cs := (hx.block B h.lt hB).trans h
theorem RML.stp {cb : Nat} {A : Nat → Nat → Prop} {w w' : World} {ts : List Tr} {vs : List Value} (h : RML (okC cb A) w ts vs) (hx : Stp cb w w') : RML (okC cb A) w' ts vs := h.move hx.size (fun _ _ _ h => h) fun b o hb ho => heap_other_cell (hx.block b hb ho.2)
theorem Cur.ext' {cb : Nat} {A : Nat → Nat → Prop} {d : DS} {w w' : World} (h : Cur cb A d w) (hx : Ext w w') : Cur cb A d w' :=
  h.next hx.size (fun b hb => .inr (hx.block b hb)) fun b o ha => ⟨.inl ha, Nat.lt_of_lt_of_le (h.av ha) hx.size, fun e => h.not o (e ▸ ha)⟩
set_option maxRecDepth 100000 in
set_option maxHeartbeats 4000000 in
theorem binds_walk (fu : Nat) (pc : DS) (r : List GBinding × DS) (H : sl6Binds_M fu pc = some r) (cb : Nat) (A : Nat → Nat → Prop) (w : World) (hC : Cur cb A pc w) :
    Calls Try.prog 29 #[.pointer (some ⟨cb, 0, none⟩)] w fun e w' => ∃ v, e = .returned v ∧ Stp cb w w' ∧ Cur cb A r.2 w' ∧ RepM (okC cb A) w' (.row 4 (GBinding.trs r.1)) v := by
  obtain ⟨sE, hrun, hend⟩ := bd_inv H
  have hlt0 := hC.lt
  have HC := Lib.hid hC
  have HRUN := Lib.hid hrun
  have HEND := Lib.hid hend
  clear H hC hrun hend
  have HC0 : Hid (Cur cb (AG A w.heap.size) pc (w.alloc (.cells #[] 104))) := HC.out.next (by simp) (fun b hb => .inr (by rw [Below.heap_alloc _ _ _ hb])) (fun b o h => by
    rcases h with h | rfl
    · have := HC.out.av h
      exact ⟨.inl h, by simp; omega, fun e => HC.out.not o (e ▸ h)⟩
    · exact ⟨.inr (Nat.le_refl _), by simp, by omega⟩)
  go_enter Try.func29, Try.ntmps29
  go_wp2_with fail
  refine (Cur.call (below_ok pc 4) HC0.out rfl rfl (vs := [.int .i64 4]) ⟨.leaf (i64_leaf (by decide) (by decide)), trivial⟩).mono ?_; rintro e w1 ⟨v, rfl, hs1, hC1, hv1⟩
  obtain ⟨rfl, -⟩ := RepM.leaf_eq hv1
  have HC1 := Lib.hid hC1
  have HS1 : Hid (Stp cb w w1) := (Stp.of_ext (.alloc (.refl _) _)).trans hs1
  have HO1 : Hid (OutI cb A w.heap.size w1 w.heap.size (.slice (some ⟨w.heap.size, 0, none⟩) 0 0) []) := OutI.next (w := w.alloc (.cells #[] 104)) ⟨⟨[], ⟨rfl, .inr ⟨_, 0, #[], rfl, Nat.le_refl _, OB.new w _ _, Nat.le_refl _, by unfold maxLen; omega, rfl, rfl⟩⟩, trivial⟩, ⟨0, rfl⟩, Nat.le_refl _⟩ hs1 (by omega)
  clear hs1 hC1 hv1
  generalize hn : pc.below 4 = n at *
  have HN := Lib.hid hn
  have hn4 : n < 4 := by rw [← hn]; exact pc.below_lt (by decide)
  clear hn
  go_wp2_with fail
  go_loopw [3, 5] (fun o i wr => ∃ (k g : Nat) (bs : List GBinding) (d : DS), k ≤ n ∧ i = .int .i64 k ∧ bs.length ≤ k ∧ Hid (OutI cb A w.heap.size wr g o bs) ∧ Hid (Cur cb (AG A g) d wr) ∧ Hid (Stp cb w wr) ∧ Hid (runB fu (n - k) (bs, d) = some sE)) (fun _ i _ => n - (intOf i).toNat)
  case atStart => exact ⟨0, w.heap.size, [], _, Nat.zero_le _, rfl, Nat.le_refl _, HO1.out, HC1.out, HS1.out, HRUN.out⟩
  case round =>
    obtain ⟨k, g, bs, d, hk, rfl, hbl, HO, HCU, HST, HR⟩ := hrel
    obtain ⟨cap, rfl⟩ := HO.out.blk
    by_cases hlt : k < n
    · obtain ⟨s', hst, hrest⟩ : ∃ s', stepB fu (bs, d) = some s' ∧ runB fu (n - (k + 1)) s' = some sE := by
        have h := HR.out
        rw [show n - k = (n - (k + 1)) + 1 by omega] at h
        exact bd_inv h
      obtain ⟨rf, hf, hst⟩ := bd_inv hst
      obtain ⟨q, hq, hst⟩ := bd_inv hst
      dsimp only at hf hq hst
      have HF := Lib.hid hf
      have HQ := Lib.hid hq
      have HSTP := Lib.hid hst
      have HREST := Lib.hid hrest
      clear hf hq hst hrest
      have hgl := HO.out.lt
      have hcl := HCU.out.lt
      have hgc : g ≠ cb := fun e => HCU.out.not 0 (.inr e.symm)
      have HCA : Hid (Cur cb (AG A g) d (wr.alloc (.cells #[.string ⟨#[97]⟩, .string ⟨#[98]⟩, .string ⟨#[99]⟩] 9))) := HCU.out.ext' (.alloc (.refl _) _)
      have HAB := Lib.hid (abc_rep (cb := cb) (A := AG A g) (w := wr) (fun b o h => HCU.out.av h) hcl)
      go_wp2_with fail
      refine (Cur.call (pick_ok d abc (by decide)) HCA.out rfl rfl (vs := [.slice (some ⟨wr.heap.size, 0, none⟩) 3 3]) HAB.out).mono ?_; rintro e w2 ⟨v2, rfl, hs2, hC2, hv2⟩
      obtain ⟨rfl, hpl⟩ := RepM.leaf_eq hv2
      have HS2 : Hid (Stp cb wr w2) := (Stp.of_ext (.alloc (.refl _) _)).trans hs2
      have HC2 := Lib.hid hC2
      have HPL := Lib.hid hpl
      clear hs2 hC2 hv2 hpl
      generalize hpk : d.pick abc = pk at *
      have HPK := Lib.hid hpk
      clear hpk
      go_wp2_with fail
      refine (Cur.call (sl4Free_pl (sl4Free_ok fu) (d.after 3) 2 rf HF.out) HC2.out rfl rfl (vs := [.int .i64 2]) ⟨.leaf (i64_leaf (by decide) (by decide)), trivial⟩).mono ?_; rintro e w3 ⟨v3, rfl, hs3, hC3, cs3, rfl, hv3⟩
      have HS3 : Hid (Stp cb wr w3) := HS2.out.trans hs3
      have HC3 := Lib.hid hC3
      have HV3 : Hid (RML (okC cb (AG A g)) w3 rf.1.cs cs3) := hv3
      obtain ⟨c0, c1, c2, rfl⟩ := list3 (HV3.out.len.trans (by rfl))
      clear hs3 hC3 hv3
      have HB3 : Hid (RML (okC cb (AG A g)) w3 (GBinding.mk pk rf.1).cs [.string pk, c0, c1, c2]) := ⟨.leaf HPL.out, HV3.out⟩
      obtain ⟨qt, qb⟩ := q
      go_wp2_with (refine wpList_store_rep rfl 104 (.tmp 6) (.tmp 22) rfl w3.heap.size 0 rfl [.string pk, c0, c1, c2] rfl 104 _ (OB.new w3 _ _) isz104 (by simp) HB3.out.rep.one ?_; intro w4 hob hgb hzb; rw [splice_whole (by rfl)] at hob; have HOB4 := Lib.hid hob; have HXB4 := Lib.hid (grown_ext (.alloc (.refl w3) _) hgb (Nat.le_refl _)); have hce4 := HOB4.out.cell; clear hob hgb hzb)
      have HS4 : Hid (Stp cb wr w4) := HS3.out.trans (Stp.of_ext HXB4.out)
      have HO4 := Lib.hid (HO.out.next HS4.out hgc)
      refine (AFun.plainSB (sLookup_ok fu bs pk (qt, qb) HQ.out) (ts := qt.cs) (vals := [.slice (some ⟨g, 0, none⟩) bs.length cap, .string pk]) ⟨RV0.t (RepM.rep (HO4.out.repM (ok := fun _ _ => True) (fun _ => trivial) (fun _ _ _ _ => trivial))), RV0.t (.leaf HPL.out), trivial⟩).mono ?_; rintro e w5 ⟨cs5, rfl, hx5, hr5⟩
      obtain ⟨e0, e1, e2, rfl⟩ := list3 (hr5.length.symm.trans (by rfl))
      have HX5 := Lib.hid hx5
      have HR5 := Lib.hid hr5
      clear hx5 hr5 hce4
      cases qb
      · have HS' : Hid (s' = (bs ++ [GBinding.mk pk rf.1], rf.2)) := by show _ = _; have := HSTP.out; simpa using this.symm
        go_wp2_with (first
          | (refine wpList_store_rep rfl 27 (.tmp 7) (.tmp 28) rfl w5.heap.size 0 rfl [e0, e1, e2] rfl 27 _ (OB.new w5 _ _) isz27 (by simp) HR5.out.one ?_; intro w6 hob hgb hzb; have HXB6 := Lib.hid (grown_ext (.alloc (.refl w5) _) hgb (Nat.le_refl _)); clear hob hgb hzb; have HX36 : Hid (Ext w3 w6) := HXB4.out.trans (HX5.out.trans HXB6.out); have HOB6 := Lib.hid (HOB4.out.ext (HX5.out.trans HXB6.out)); have HSb : Hid (Stp cb wr (w6.alloc (.cells #[.string pk, c0, c1, c2] 104))) := (HS3.out.trans (Stp.of_ext HX36.out)).trans (Stp.of_ext (.alloc (.refl _) _)); have HOb := Lib.hid (HO.out.next HSb.out hgc); have HCb : Hid (Cur cb (AG A g) rf.2 (w6.alloc (.cells #[.string pk, c0, c1, c2] 104))) := (HC3.out.ext' HX36.out).ext' (.alloc (.refl _) _); have HBb : Hid (RML (okC cb (AG A g)) (w6.alloc (.cells #[.string pk, c0, c1, c2] 104)) (GBinding.mk pk rf.1).cs [.string pk, c0, c1, c2]) := HB3.out.stp (Stp.of_ext (HX36.out.trans (.alloc (.refl _) _))))
          | (refine wpList_load_rep rfl 104 (.tmp 6) rfl w3.heap.size 0 rfl [.string pk, c0, c1, c2] _ Try.underlying104 isz104 (OB.cells0 HOB6.out) ?_)
          | (refine wpList_append_out rfl (.tmp 36) (.tmp 38) 34 rfl 64 Try.underlying34 iszc104 (by omega) bs.length rfl rfl HOb.out HCb.out (GBinding.mk pk rf.1) [.string pk, c0, c1, c2] HBb.out w6.heap.size 1 104 rfl (OB.new w6 _ _) (by omega) ?_; intro g' cap' w8 hO8 hC8 hS8; have HO8 := Lib.hid hO8; have HC8 := Lib.hid hC8; have HS8 := Lib.hid (hS8 w (HST.out.trans HSb.out) rfl); clear hO8 hC8 hS8))
        go_roundw
        case rel => exact ⟨k + 1, g', bs ++ [GBinding.mk pk rf.1], rf.2, by omega, by go_num, by simp; omega, HO8.out, HC8.out, HS8.out, HS'.out ▸ HREST.out⟩
        case measure => simp [intOf]; omega
      · go_wp2_with (refine wpList_store_rep rfl 27 (.tmp 7) (.tmp 28) rfl w5.heap.size 0 rfl [e0, e1, e2] rfl 27 _ (OB.new w5 _ _) isz27 (by simp) HR5.out.one ?_; intro w6 hob hgb hzb; have HXB6 := Lib.hid (grown_ext (.alloc (.refl w5) _) hgb (Nat.le_refl _)); clear hob hgb hzb)
        have HX36 : Hid (Ext w3 w6) := HXB4.out.trans (HX5.out.trans HXB6.out)
        refine (Cur.call (once_ok rf.2 4) (HC3.out.ext' HX36.out) rfl rfl (vs := [.int .i64 4]) ⟨.leaf (i64_leaf (by decide) (by decide)), trivial⟩).mono ?_; rintro e w7 ⟨v7, rfl, hs7, hC7, hv7⟩
        obtain ⟨rfl, -⟩ := RepM.leaf_eq hv7
        have hne : w3.heap.size ≠ cb := fun e => by have := HC3.out.lt; omega
        have HS37 : Hid (Stp cb w3 w7) := (Stp.of_ext HX36.out).trans hs7
        have HS7 : Hid (Stp cb wr w7) := HS3.out.trans HS37.out
        have HC7 := Lib.hid hC7
        have HOB7 := Lib.hid ((HOB4.out.ext (HX5.out.trans HXB6.out)).stp hs7 hne)
        have HSb : Hid (Stp cb wr (w7.alloc (.cells #[.string pk, c0, c1, c2] 104))) := HS7.out.trans (Stp.of_ext (.alloc (.refl _) _))
        have HOb := Lib.hid (HO.out.next HSb.out hgc)
        have HCb : Hid (Cur cb (AG A g) (rf.2.after 4) (w7.alloc (.cells #[.string pk, c0, c1, c2] 104))) := HC7.out.ext' (.alloc (.refl _) _)
        have HBb : Hid (RML (okC cb (AG A g)) (w7.alloc (.cells #[.string pk, c0, c1, c2] 104)) (GBinding.mk pk rf.1).cs [.string pk, c0, c1, c2]) := HB3.out.stp (HS37.out.trans (Stp.of_ext (.alloc (.refl _) _)))
        clear hs7 hC7 hv7
        cases h4 : decide (rf.2.below 4 = 0)
        · have HS' : Hid (s' = (bs, rf.2.after 4)) := by show _ = _; have := HSTP.out; simp only [decide_eq_false_iff_not] at h4; simpa [h4] using this.symm
          have HO7 := Lib.hid (HO.out.next HS7.out hgc)
          have H4 := Lib.hid h4
          clear h4
          go_wp2_with fail
          go_roundw
          case rel => exact ⟨k + 1, g, bs, rf.2.after 4, by omega, by go_num, by omega, HO7.out, HC7.out, HST.out.trans HS7.out, HS'.out ▸ HREST.out⟩
          case measure => simp [intOf]; omega
        · have HS' : Hid (s' = (bs ++ [GBinding.mk pk rf.1], rf.2.after 4)) := by show _ = _; have := HSTP.out; simp only [decide_eq_true_eq] at h4; simpa [h4] using this.symm
          have H4 := Lib.hid h4
          clear h4
          go_wp2_with (first
            | (refine wpList_load_rep rfl 104 (.tmp 6) rfl w3.heap.size 0 rfl [.string pk, c0, c1, c2] _ Try.underlying104 isz104 (OB.cells0 HOB7.out) ?_)
            | (refine wpList_append_out rfl (.tmp 36) (.tmp 38) 34 rfl 64 Try.underlying34 iszc104 (by omega) bs.length rfl rfl HOb.out HCb.out (GBinding.mk pk rf.1) [.string pk, c0, c1, c2] HBb.out w7.heap.size 1 104 rfl (OB.new w7 _ _) (by omega) ?_; intro g' cap' w8 hO8 hC8 hS8; have HO8 := Lib.hid hO8; have HC8 := Lib.hid hC8; have HS8 := Lib.hid (hS8 w (HST.out.trans HSb.out) rfl); clear hO8 hC8 hS8))
          go_roundw
          case rel => exact ⟨k + 1, g', bs ++ [GBinding.mk pk rf.1], rf.2.after 4, by omega, by go_num, by simp; omega, HO8.out, HC8.out, HS8.out, HS'.out ▸ HREST.out⟩
          case measure => simp [intOf]; omega
    · have hkl : k = n := by omega
      subst hkl
      obtain rfl : (bs, d) = sE := by
        have h := HR.out
        rw [Nat.sub_self] at h
        exact Option.some.inj h
      have hgl := HO.out.lt
      have hcl := HCU.out.lt
      have hgc : g ≠ cb := fun e => HCU.out.not 0 (.inr e.symm)
      have fin : ∀ (w' : World) (v : Value) (bs' : List GBinding) (d' : DS), OutI cb A w.heap.size w' g v bs' → Cur cb (AG A g) d' w' → Stp cb w w' → Cur cb A d' w' ∧ RepM (okC cb A) w' (.row 4 (GBinding.trs bs')) v := fun w' v bs' d' h1 h2 h3 =>
        ⟨h2.next (Nat.le_refl _) (fun b hb => .inr rfl) (fun b o ha => ⟨.inl (.inl ha), h2.av (.inl ha), fun e => h2.not o (e ▸ .inl ha)⟩), h1.repM (fun o => ⟨fun ha => by have := HC.out.av ha; have := h1.ge; omega, hgc⟩) (fun b o hb ho => ⟨fun ha => ho.1 (.inl ha), ho.2⟩)⟩
      by_cases hc : 0 < k ∧ 0 < bs.length
      · have hend2 : (if d.below 8 = 0 then bd (sl4Bent_M fu (d.after 8)) fun r => Option.some (setHd bs r.1, r.2) else Option.some (bs, d.after 8)) = Option.some r := by have := HEND.out; unfold endB at this; rw [if_pos hc] at this; exact this
        obtain ⟨hk0, hb0⟩ := hc
        have HE2 := Lib.hid hend2
        clear hend2
        go_wp2_with fail
        refine (Cur.call (once_ok d 8) HCU.out rfl rfl (vs := [.int .i64 8]) ⟨.leaf (i64_leaf (by decide) (by decide)), trivial⟩).mono ?_; rintro e w7 ⟨v7, rfl, hs7, hC7, hv7⟩
        obtain ⟨rfl, -⟩ := RepM.leaf_eq hv7
        have HS7 := Lib.hid (HST.out.trans hs7)
        have HC7 := Lib.hid hC7
        have HO7 := Lib.hid (HO.out.next hs7 hgc)
        clear hs7 hC7 hv7
        cases h4 : decide (d.below 8 = 0)
        · have hr : Hid (r = (bs, d.after 8)) := by show _ = _; have := HE2.out; simp only [decide_eq_false_iff_not] at h4; rw [if_neg h4] at this; exact (Option.some.inj this).symm
          have H4 := Lib.hid h4
          clear h4
          go_wp2_with fail
          go_ret
          have := fin _ _ _ _ HO7.out HC7.out HS7.out
          exact ⟨_, rfl, HS7.out, by rw [hr.out]; exact this.1, by rw [hr.out]; exact this.2⟩
        · obtain ⟨rb, hb, hr⟩ : ∃ rb, sl4Bent_M fu (d.after 8) = Option.some rb ∧ Option.some (setHd bs rb.1, rb.2) = Option.some r := by
            have := HE2.out
            simp only [decide_eq_true_eq] at h4
            rw [if_pos h4] at this
            exact bd_inv this
          have HBT := Lib.hid hb
          have HRR := Lib.hid (Option.some.inj hr)
          have H4 := Lib.hid h4
          clear h4 hb hr
          go_wp2_with fail
          refine (Cur.call (sl4Bent_ok fu (d.after 8) rb HBT.out) HC7.out rfl rfl (vs := []) trivial).mono ?_; rintro e w8 ⟨v8, rfl, hs8, hC8, cs8, rfl, hv8⟩
          have HV8 : Hid (RML (okC cb (AG A g)) w8 rb.1.cs cs8) := hv8
          obtain ⟨c0, c1, c2, rfl⟩ := list3 (HV8.out.len.trans (by rfl))
          have HS8 := Lib.hid (HS7.out.trans hs8)
          have HC8 := Lib.hid hC8
          have HO8 := Lib.hid (HO7.out.next hs8 hgc)
          obtain ⟨_, cur, _, _, hoc, hk3, hk4, hk5, _, _, _⟩ := HO8.out.ob
          have HOC := Lib.hid hoc
          have HSZ : Hid (1 + 3 ≤ cur.size) := by show _ ≤ _; rw [hk5]; omega
          clear hs8 hC8 hv8 hoc hk3 hk4 hk5
          go_wp2_with (refine wpList_store_rep rfl 27 (.tmp 55) (.tmp 53) rfl g 1 rfl [c0, c1, c2] rfl 104 cur HOC.out isz27 HSZ.out HV8.out.rep.one ?_; intro w9 hob hgb hzb; have HOB9 := Lib.hid hob; have HG9 := Lib.hid hgb; clear hob hgb hzb)
          go_ret
          have hO9 : OutI cb A w.heap.size w9 g (.slice (some ⟨g, 0, none⟩) bs.length cap) (setHd bs rb.1) := by
            match bs, hb0, HO8.out with
            | b :: bl, _, h8 => exact h8.setHd HOC.out HV8.out HOB9.out HG9.out
          have hC9 : Cur cb (AG A g) rb.2 w9 := HC8.out.next HG9.out.size (fun b hb => by
            by_cases e : b = g
            · exact .inl fun o => .inr e
            · exact .inr (HG9.out.block b hb fun h => e (Option.some.inj h))) (fun b o ha => ⟨.inl ha, Nat.lt_of_lt_of_le (HC8.out.av ha) HG9.out.size, fun e => HC8.out.not o (e ▸ ha)⟩)
          have hS9 : Stp cb w w9 := HS8.out.grown HG9.out HG9.out.size HO8.out.ge
          have := fin _ _ _ _ hO9 hC9 hS9
          exact ⟨_, rfl, hS9, by rw [← HRR.out]; exact this.1, by rw [← HRR.out]; exact this.2⟩
      · have hr : Hid (r = (bs, d)) := by show _ = _; have := HEND.out; unfold endB at this; rw [if_neg hc] at this; exact (Option.some.inj this).symm
        by_cases hk0 : 0 < k
        · have hb0 : bs.length = 0 := by omega
          go_wp2_with fail
          go_ret
          have := fin _ _ _ _ HO.out HCU.out HST.out
          exact ⟨_, rfl, HST.out, by rw [hr.out]; exact this.1, by rw [hr.out]; exact this.2⟩
        · go_wp2_with fail
          go_ret
          have := fin _ _ _ _ HO.out HCU.out HST.out
          exact ⟨_, rfl, HST.out, by rw [hr.out]; exact this.1, by rw [hr.out]; exact this.2⟩
theorem sl6Binds_ok (fu : Nat) : sl6Binds_T (sl6Binds_M fu) := by
  intro pc r H av m w vals hst hv
  match vals, hv with
  | [v0], hv =>
    obtain ⟨-, rfl⟩ := hv.1
    refine (binds_walk fu pc r H (m.ρ 0) av w ⟨m, rfl, hst⟩).mono fun e w' => ?_; rintro ⟨v, rfl, hs, ⟨m', hm', hS'⟩, hr⟩
    refine ⟨_, _, m', v, rfl, ⟨rfl, rfl⟩, hS', ⟨hs.os, hs.tape, hs.output, hs.size, fun b hb h1 _ => hs.block b hb fun e => h1 0 _ rfl e.symm, fun b o hb h1 => heap_other_cell (hs.block b hb fun e => h1.1 0 _ rfl e.symm), fun b o hb h1 => ⟨fun k x hk => ?_, fun r row g c hr => by simp at hr⟩, fun k x hk => ?_, fun k x hk => ?_, fun r row hr => by simp at hr, fun r row g c hr => by simp at hr⟩, hr.mono (Nat.le_refl _) (fun b o _ h => (okC_iff hm' b o).2 h) (fun _ _ _ _ => rfl)⟩
    · match k, hk with
      | 0, _ => rw [hm']; exact h1.1 0 _ rfl
      | k + 1, hk => simp at hk
    · match k, hk with
      | 0, _ => exact ⟨⟨_, rfl⟩, hm'⟩
      | k + 1, hk => simp at hk
    · match k, hk with
      | 0, _ => exact .inl ⟨_, rfl⟩
      | k + 1, hk => simp at hk
end
end Go.Proofs.Ytmpepccpnnldoaa

namespace Go.Proofs.Ytmpepccpnnldoaa

/-- The index of the first element that meets p, counted from i; -1 if there is none. -/
def idxL {α : Type} (p : α → Bool) : List α → Nat → Int
  | [], _ => -1
  | a :: l, i => if p a then i else idxL p l (i + 1)
theorem idxL_step {α : Type} {p : α → Bool} {l : List α} {k : Nat} (h : k < l.length) : idxL p (l.drop k) k = if p l[k] then (k : Int) else idxL p (l.drop (k + 1)) (k + 1) := by
  rw [List.drop_eq_getElem_cons h, idxL]
theorem idxL_any {α : Type} {p : α → Bool} : ∀ (l : List α) (i : Nat), decide (0 ≤ idxL p l i) = l.any p
  | [], i => by simp [idxL]
  | a :: l, i => by
    unfold idxL
    by_cases h : p a
    · simp [h]
    · simp [h, idxL_any l (i + 1)]
end Go.Proofs.Ytmpepccpnnldoaa

namespace Go.Proofs.Ytmpepccpnnldoaa
open Go.RowKit Go.Proofs


set_option maxRecDepth 100000 in
set_option maxHeartbeats 1000000 in
theorem indexFunc_59 {α : Type} (tr : α → List Tr) (p : α → Bool) (xs : List α) (g : FuncId) (caps : Array Value) (hg : ∀ (args : Array Value) (w : World), (callFunc g args).run Try.prog w = .ok (.enter g args) w) (hl : ∀ x, (tr x).length = 4) (s : Value) (w : World)
    (H : ∀ x ∈ xs, ∀ cs w', Ext w w' → RepL w' (tr x) cs → Calls Try.prog g (#[.agg ⟨cs⟩] ++ caps) w' fun e w'' => e = .returned (.bool (p x)) ∧ Ext w' w'')
    (hs : Rep w (.row 4 (xs.map tr)) s) :
    Calls Try.prog 59 #[s, .func (.func g) #[] caps] w fun e w' => e = .returned (.int .i64 (idxL p xs 0)) ∧ Ext w w' := by
  obtain ⟨a, cap, rfl, hlc, hm⟩ := hs.shape
  unfold maxLen at hm
  rw [List.length_map] at hlc ⊢
  rw [List.length_map] at hs
  have HS := Lib.hid hs
  have HH := Lib.hid H
  have HL := Lib.hid hl
  clear hs H hl
  go_enter Try.func59, Try.ntmps59
  go_wp2_with fail
  go_loopw [5, 8] (fun _ i wr => ∃ k : Nat, k ≤ xs.length ∧ i = .int .i64 k ∧ Ext w wr ∧ Hid (idxL p xs 0 = idxL p (xs.drop k) k)) (fun _ i _ => xs.length - (intOf i).toNat)
  case atStart => exact ⟨0, Nat.zero_le _, rfl, .refl _, rfl⟩
  case round =>
    obtain ⟨k, hk, rfl, hw, HE⟩ := hrel
    by_cases hlt : k < xs.length
    · obtain ⟨b, off, cs, rfl, hb, hcs, hc⟩ := (HS.out.ext hw).at2 (k := k) (e := tr xs[k]) (by rw [List.getElem?_map, List.getElem?_eq_getElem hlt]; rfl)
      have HST := Lib.hid (idxL_step (p := p) hlt)
      have HM := Lib.hid (List.getElem_mem hlt)
      have HCS := Lib.hid hcs
      have HC := Lib.hid hc
      have HI : Hid ((Try.prog.info? 41).map (·.size) = some cs.length) := by rw [← hcs.length, HL.out]; exact isz41
      clear hcs hc
      go_wp2_with (refine wpList_load_rep rfl 41 (.tmp 14) rfl b (off + k * 4) rfl cs _ Try.underlying41 HI.out HC.out ?_)
      refine (HH.out _ HM.out _ _ hw HCS.out).mono ?_; rintro e w1 ⟨rfl, hw1⟩
      have HW1 := Lib.hid (hw.trans hw1)
      clear hw1
      cases hp : p xs[k]
      · have HP := Lib.hid hp
        clear hp
        go_wp2_with fail
        go_roundw
        case rel => exact ⟨k + 1, by omega, by go_num, HW1.out, by rw [HE.out, HST.out, HP.out]; rfl⟩
        case measure => simp [intOf]; omega
      · have HP := Lib.hid hp
        clear hp
        go_wp2_with fail
        go_ret
        exact ⟨ret_int (by rw [HE.out, HST.out, HP.out]; rfl), HW1.out⟩
    · have hkl : k = xs.length := by omega
      go_wp2_with fail
      go_ret
      exact ⟨ret_int (by rw [HE.out, hkl, List.drop_length]; rfl), hw⟩


set_option maxRecDepth 100000 in
set_option maxHeartbeats 1000000 in
theorem containsFunc_25 {α : Type} (tr : α → List Tr) (p : α → Bool) (xs : List α) (g : FuncId) (caps : Array Value) (hg : ∀ (args : Array Value) (w : World), (callFunc g args).run Try.prog w = .ok (.enter g args) w) (hl : ∀ x, (tr x).length = 4) (s : Value) (w : World)
    (H : ∀ x ∈ xs, ∀ cs w', Ext w w' → RepL w' (tr x) cs → Calls Try.prog g (#[.agg ⟨cs⟩] ++ caps) w' fun e w'' => e = .returned (.bool (p x)) ∧ Ext w' w'')
    (hs : Rep w (.row 4 (xs.map tr)) s) :
    Calls Try.prog 25 #[s, .func (.func g) #[] caps] w fun e w' => e = .returned (.bool (xs.any p)) ∧ Ext w w' := by
  have hc := Lib.hid (indexFunc_59 tr p xs g caps hg hl s w H hs)
  have hb := Lib.hid (idxL_any (p := p) xs 0)
  clear H hs hl hg
  go_enter Try.func25, Try.ntmps25
  go_wp2_with fail
  refine hc.out.mono ?_; rintro e w1 ⟨rfl, hw1⟩
  have HW1 := Lib.hid hw1
  clear hw1
  generalize idxL p xs 0 = q at *
  go_wp2_with fail
  go_ret
  exact ⟨ret_bool hb.out, HW1.out⟩


end Go.Proofs.Ytmpepccpnnldoaa

namespace Go.Proofs.Ytmpepccpnnldoaa
open Go.RowKit Go.Proofs

theorem bytes_inj {a b : ByteArray} (h : a.toList = b.toList) : a = b := by
  rw [ByteArray.toList_eq, ByteArray.toList_eq] at h
  obtain ⟨⟨x⟩⟩ := a
  obtain ⟨⟨y⟩⟩ := b
  have h : x = y := h
  rw [h]
end Go.Proofs.Ytmpepccpnnldoaa

namespace Go.Proofs.Ytmpepccpnnldoaa
open Go.RowKit Go.Proofs

end Go.Proofs.Ytmpepccpnnldoaa

namespace Go.Proofs.Ytmpepccpnnldoaa
open Go.RowKit Go.Proofs

mutual
def GType.size : GType → Nat
  | .mk _ _ xs => 1 + GType.sizes xs
def GType.sizes : List GType → Nat
  | [] => 0
  | e :: r => GType.size e + GType.sizes r
end
theorem GType.sizes_step {l : List GType} {k : Nat} (h : k < l.length) : GType.sizes (l.drop k) = GType.size l[k] + GType.sizes (l.drop (k + 1)) := by
  rw [List.drop_eq_getElem_cons h, GType.sizes]
theorem GType.sizes_drop : ∀ (l : List GType) (k : Nat), GType.sizes (l.drop k) ≤ GType.sizes l
  | [], k => by simp
  | a :: l, 0 => by simp
  | a :: l, k + 1 => by
    have := GType.sizes_drop l k
    simp only [List.drop_succ_cons, GType.sizes]
    omega
theorem GType.size_bulk : ∀ e : GType, GType.size e ≤ 1 + Tr.bulkL e.tr := by
  refine GType.ind fun v0 v1 v3 h => ?_
  have : ∀ l : List GType, (∀ x ∈ l, GType.size x ≤ 1 + Tr.bulkL x.tr) → GType.sizes l ≤ l.length + Tr.bulkAll (GType.trs l) := by
    intro l
    induction l with
    | nil => intro _; simp [GType.sizes]
    | cons a l ih =>
      intro hl
      have h1 := hl a (by simp)
      have h2 := ih fun x hx => hl x (by simp [hx])
      simp only [GType.sizes, GType.trs, Tr.bulkAll, List.length_cons]
      omega
  have := this v3 h
  simp only [GType.size, GType.tr, Tr.bulkL_append, Tr.bulkL, Tr.bulk, GType.trs_len]
  omega

mutual
def GType.pre : GType → List GType
  | .mk k n xs => .mk k n xs :: GType.pres xs
def GType.pres : List GType → List GType
  | [] => []
  | e :: r => GType.pre e ++ GType.pres r
end
theorem GType.pres_step {l : List GType} {k : Nat} (h : k < l.length) : GType.pres (l.drop k) = GType.pre l[k] ++ GType.pres (l.drop (k + 1)) := by
  rw [List.drop_eq_getElem_cons h, GType.pres]
theorem GType.pre_length : ∀ e : GType, (GType.pre e).length = GType.size e := by
  refine GType.ind fun v0 v1 v3 h => ?_
  have : ∀ l : List GType, (∀ x ∈ l, (GType.pre x).length = GType.size x) → (GType.pres l).length = GType.sizes l := by
    intro l
    induction l with
    | nil => intro _; rfl
    | cons a l ih =>
      intro hl
      simp only [GType.pres, List.length_append, GType.sizes, hl a (by simp), ih fun x hx => hl x (by simp [hx])]
  simp only [GType.pre, List.length_cons, GType.size, this v3 h]
  omega
theorem GType.pres_length : ∀ l : List GType, (GType.pres l).length = GType.sizes l
  | [] => rfl
  | a :: l => by simp only [GType.pres, List.length_append, GType.sizes, GType.pre_length, GType.pres_length l]

def hasS (l : List ByteArray) (s : ByteArray) : Bool := l.any fun x => decide (x = s)
def varStep (out : List ByteArray) (u : GType) : List ByteArray := if u.gKind = 1 ∧ hasS out u.gName = false then out ++ [u.gName] else out
def countStep (v : ByteArray) (n : Nat) (u : GType) : Nat := if u.gKind = 1 ∧ u.gName = v then n + 1 else n
theorem countStep_add (v : ByteArray) : ∀ (l : List GType) (n : Nat), l.foldl (countStep v) n = n + l.foldl (countStep v) 0
  | [], n => by simp
  | a :: l, n => by
    simp only [List.foldl_cons]
    rw [countStep_add v l (countStep v n a), countStep_add v l (countStep v 0 a)]
    unfold countStep
    split <;> omega
theorem countStep_le (v : ByteArray) : ∀ (l : List GType) (n : Nat), l.foldl (countStep v) n ≤ n + l.length
  | [], n => by simp
  | a :: l, n => by
    have := countStep_le v l (countStep v n a)
    have h : countStep v n a ≤ n + 1 := by unfold countStep; split <;> omega
    simp only [List.foldl_cons, List.length_cons]
    omega
def GType.vars (t : GType) : List ByteArray := t.pre.foldl varStep []
def GType.count (v : ByteArray) (t : GType) : Nat := t.pre.foldl (countStep v) 0
def GType.counts (v : ByteArray) (l : List GType) : Nat := (GType.pres l).foldl (countStep v) 0
theorem GType.count_mk (v : ByteArray) (k : Int) (n : ByteArray) (xs : List GType) : GType.count v (.mk k n xs) = (if k = 1 ∧ n = v then 1 else 0) + GType.counts v xs := by
  unfold GType.count GType.counts
  rw [GType.pre, List.foldl_cons, countStep_add]
  simp [countStep]
theorem GType.counts_step {v : ByteArray} {l : List GType} {k : Nat} (h : k < l.length) : GType.counts v (l.drop k) = GType.count v l[k] + GType.counts v (l.drop (k + 1)) := by
  unfold GType.count GType.counts
  rw [GType.pres_step h, List.foldl_append, countStep_add]
theorem GType.count_size (v : ByteArray) (t : GType) : GType.count v t ≤ GType.size t := by
  have := countStep_le v t.pre 0
  rw [GType.pre_length] at this
  unfold GType.count
  omega
def GBound.smaller (b : GBound) (head : GType) : Bool :=
  (GType.vars b.gType).all (fun v => decide (GType.count v b.gType ≤ GType.count v head)) && decide (GType.size b.gType < GType.size head)

end Go.Proofs.Ytmpepccpnnldoaa

namespace Go.Proofs.Ytmpepccpnnldoaa
open Go.RowKit

/-- A slice of strings whose row is the call's own (blocks from 'base' on). -/
def AccS (e : TypeId) (base : Nat) (w : World) (l : List ByteArray) (v : Value) : Prop := w.ownsRow base e 1 v l.length (l.map Value.string) ∧ ∀ s ∈ l, s.size ≤ maxLen

theorem AccS.nil (e : TypeId) (base : Nat) (w : World) : AccS e base w [] (.slice none 0 0) := ⟨⟨rfl, .inl ⟨rfl, rfl⟩⟩, by simp⟩
theorem AccS.keep {e : TypeId} {base : Nat} {w w' : World} {l : List ByteArray} {v : Value} (h : AccS e base w l v) (hk : ∀ b, base ≤ b → b < w.heap.size → w'.heap[b]? = w.heap[b]?) : AccS e base w' l v := by
  refine ⟨⟨h.1.1, ?_⟩, h.2⟩
  rcases h.1.2 with h1 | ⟨g, cap, cur, h1, h2, h3, h4⟩
  · exact .inl h1
  · refine .inr ⟨g, cap, cur, h1, h2, ?_, h4⟩
    rw [hk g h2 (by rcases Nat.lt_or_ge g w.heap.size with hl | hl; exact hl; rw [Array.getElem?_eq_none hl] at h3; cases h3)]
    exact h3
theorem AccS.ext {e : TypeId} {base : Nat} {w w' : World} {l : List ByteArray} {v : Value} (h : AccS e base w l v) (hx : Ext w w') : AccS e base w' l v := h.keep fun b _ hb => hx.block b hb
theorem AccS.mono {e : TypeId} {base base' : Nat} {w : World} {l : List ByteArray} {v : Value} (h : AccS e base w l v) (hb : base' ≤ base) : AccS e base' w l v := by
  refine ⟨⟨h.1.1, ?_⟩, h.2⟩
  rcases h.1.2 with h1 | ⟨g, cap, cur, h1, h2, h3⟩
  · exact .inl h1
  · exact .inr ⟨g, cap, cur, h1, by omega, h3⟩
theorem AccS.own {e : TypeId} {base : Nat} {w : World} {l : List ByteArray} {v : Value} (h : AccS e base w l v) : Own w (.row 1 (strTrs l)) v (fun x => base ≤ x ∧ x < w.heap.size) := by
  have hget : ∀ (i : Nat) (x : List Tr), (strTrs l)[i]? = some x → ∃ s, l[i]? = some s ∧ x = [Tr.leaf (.string s)] := by
    intro i x hx
    unfold strTrs at hx
    rw [List.getElem?_map] at hx
    rcases hl : l[i]? with _ | s
    · simp [hl] at hx
    · simp [hl] at hx
      exact ⟨s, rfl, hx.symm⟩
  rcases h.1.2 with ⟨rfl, h0⟩ | ⟨g, cap, cur, rfl, h2, h3, h4, h5, h6, h7⟩
  · have : l = [] := List.length_eq_zero_iff.1 h0
    subst this
    exact Own.row (es := []) (fun _ _ => undef) (fun _ _ _ => False) (by simp) (by unfold maxLen; omega) (by simp) (by simp) (by simp) (by simp)
  · have hl := strTrs_len l
    rw [← hl]
    refine Own.row (fun i _ => (l[i]?.map Value.string).getD undef) (fun _ _ _ => False) (by rw [hl]; exact h4) h5 ?_ ?_ (by simp) (by simp)
    · intro _
      refine ⟨g, 0, e, cur, rfl, h3, ⟨h2, OB.lt h3⟩, ?_⟩
      intro i x hx j d hd
      obtain ⟨s, hs, rfl⟩ := hget i x hx
      cases j with
      | zero =>
        refine ⟨?_, by simp⟩
        have h8 : (cur.toList.take (l.length * 1))[i]? = (l.map Value.string)[i]? := by rw [h7]
        have hi : i < l.length := (List.getElem?_eq_some_iff.1 hs).1
        rw [List.getElem?_take, if_pos (by omega), List.getElem?_map, hs] at h8
        simpa [hs] using h8
      | succ j => simp at hd
    · intro i x hx j d hd
      obtain ⟨s, hs, rfl⟩ := hget i x hx
      cases j with
      | zero =>
        simp at hd
        subst hd
        simp only [hs, Option.map_some, Option.getD_some]
        exact .leaf (h.2 s (List.mem_of_getElem? hs))
      | succ j => simp at hd
theorem AccS.rep {e : TypeId} {base : Nat} {w : World} {l : List ByteArray} {v : Value} (h : AccS e base w l v) : Rep w (.row 1 (strTrs l)) v := h.own.rep

end Go.Proofs.Ytmpepccpnnldoaa

namespace Go.Proofs.Ytmpepccpnnldoaa
open Go.RowKit Go.Proofs

theorem hasS_step {l : List ByteArray} {s : ByteArray} {k : Nat} (h : k < l.length) : hasS (l.drop k) s = (decide (l[k] = s) || hasS (l.drop (k + 1)) s) := by
  rw [List.drop_eq_getElem_cons h, hasS, List.any_cons]; rfl

set_option maxRecDepth 100000 in
set_option maxHeartbeats 1000000 in
theorem l1Has_spec (l : List ByteArray) (s : ByteArray) (v : Value) (w : World) (h : Rep w (.row 1 (strTrs l)) v) :
    Calls Try.prog 128 #[v, .string s] w fun e w' => e = .returned (.bool (hasS l s)) ∧ w' = w := by
  obtain ⟨a, c, rfl, hl, hm⟩ := h.shape
  rw [strTrs_len] at *
  unfold maxLen at hm
  have HS := Lib.hid h
  clear h
  go_enter Try.func128, Try.ntmps128
  go_wp2_with fail
  go_loopw [5] (fun i wr => ∃ k : Nat, k ≤ l.length ∧ i = .int .i64 k ∧ wr = w ∧ Hid (hasS l s = hasS (l.drop k) s)) (fun i _ => l.length - (intOf i).toNat)
  case atStart => exact ⟨0, Nat.zero_le _, rfl, rfl, rfl⟩
  case round =>
    obtain ⟨k, hk, rfl, rfl, HE⟩ := hrel
    by_cases hlt : k < l.length
    · obtain ⟨b, off, rfl, hb, -, hcell⟩ := HS.out.str hlt
      have HST := Lib.hid (hasS_step (s := s) hlt)
      generalize l[k] = z at *
      go_wp2_with fail
      · rename_i hh
        have hz : z = s := bytes_inj (by simpa using hh)
        go_ret
        exact ⟨ret_bool (by rw [HE.out, HST.out]; simp [hz]), rfl⟩
      · rename_i hh
        have hz : ¬ z = s := fun h => by simp [h] at hh
        go_roundw
        case rel => exact ⟨k + 1, by omega, by go_num, by first | trivial | rfl, by show _ = _; rw [HE.out, HST.out]; simp [hz]⟩
        case measure => simp [intOf]; omega
    · have hkl : k = l.length := by omega
      go_wp2_with fail
      go_ret
      exact ⟨ret_bool (by rw [HE.out, hkl, List.drop_length]; rfl), rfl⟩

set_option maxRecDepth 100000 in
set_option maxHeartbeats 1000000 in
theorem typeSize_impl : ∀ (x : GType) (cs : List Value) (w : World), RepL w x.tr cs → GType.size x ≤ 1099511627776 →
    Calls Try.prog 12 #[.agg ⟨cs⟩] w fun e w' => e = .returned (.int .i64 (GType.size x)) ∧ Ext w w' := by
  refine GType.ind fun v0 v1 xs ih => ?_; intro cs w hr hsz
  obtain ⟨a, c, rfl, -, -, h3⟩ := GType.opened hr
  obtain ⟨hl, hm, -⟩ := h3.lens
  have HS := Lib.hid h3
  have IH := Lib.hid ih
  simp only [GType.size] at hsz
  simp only [GType.size]
  clear hr h3 ih
  simp only [List.cons_append, List.nil_append]
  go_enter Try.func12, Try.ntmps12
  go_wp2_with fail
  go_loopw [3, 9] (fun n i wr => ∃ k m : Nat, k ≤ xs.length ∧ i = .int .i64 k ∧ n = .int .i64 (m : Int) ∧ Ext w wr ∧ 1 ≤ m ∧ Hid (m + GType.sizes (xs.drop k) = 1 + GType.sizes xs)) (fun _ i _ => xs.length - (intOf i).toNat)
  case atStart => exact ⟨0, 1, Nat.zero_le _, rfl, rfl, .alloc (.refl _) _, by omega, by rfl⟩
  case round =>
    obtain ⟨k, m, hk, rfl, rfl, hw, hm1, HE⟩ := hrel
    by_cases hlt : k < xs.length
    · obtain ⟨b, off, cs, rfl, hb, hcs, hc⟩ := (HS.out.ext hw).at2 (k := k) (GType.trs_get hlt)
      have HM := Lib.hid (List.getElem_mem hlt)
      have HCS := Lib.hid hcs
      have HC := Lib.hid hc
      have HI : Hid ((Try.prog.info? 27).map (·.size) = some cs.length) := by rw [← hcs.length, GType.tr_len]; exact isz27
      have HCL : Hid (cs.length = 3) := by rw [← hcs.length, GType.tr_len]; rfl
      clear hcs hc
      have HST := Lib.hid (GType.sizes_step hlt)
      have he := HE.out
      have hst := HST.out
      have hx : GType.size xs[k] ≤ 1099511627776 := by omega
      have hbd : m + GType.size xs[k] ≤ 1099511627777 := by omega
      clear he hst
      go_wp2_with (first
        | (refine wpList_load_rep rfl 27 (.tmp 11) rfl b (off + k * 3) rfl cs _ Try.underlying27 HI.out HC.out ?_)
        | (refine wpList_store_rep rfl 27 (.tmp 5) (.tmp 12) rfl wr.heap.size 0 rfl cs rfl 27 _ (OB.new wr _ _) HI.out (by rw [HCL.out]; exact Nat.le_refl _) HCS.out.one ?_; intro wb hob hgb hzb; rw [splice_whole (by rw [HCL.out]; rfl)] at hob; have HOB := Lib.hid hob; have HXB := Lib.hid (grown_ext (.alloc (.refl wr) _) hgb (Nat.le_refl _)); clear hob hgb hzb)
        | (refine wpList_load_rep rfl 27 (.tmp 5) rfl wr.heap.size 0 rfl cs _ Try.underlying27 HI.out HOB.out.cells0 ?_))
      refine (IH.out _ HM.out _ _ (HCS.out.ext HXB.out) hx).mono ?_; rintro e w1 ⟨rfl, hw1⟩
      have HW1 := Lib.hid (hw.trans (HXB.out.trans hw1))
      clear hw1
      generalize GType.size xs[k] = z at *
      go_wp2_with fail
      go_roundw
      case rel => exact ⟨k + 1, m + z, by omega, by go_num, by go_num, HW1.out, by omega, by have := HE.out; have := HST.out; show _ = _; omega⟩
      case measure => simp [intOf]; omega
    · have hkl : k = xs.length := by omega
      go_wp2_with fail
      go_ret
      have := HE.out
      rw [hkl, List.drop_length] at this
      simp only [GType.sizes] at this
      exact ⟨ret_int (by omega), hw⟩

set_option maxRecDepth 100000 in
set_option maxHeartbeats 1000000 in
theorem typeSize_spec : ∀ (x : GType) (cs : List Value) (w : World), RepL w x.tr cs → GType.size x ≤ 1099511627776 →
    Calls Try.prog 64 #[.agg ⟨cs⟩] w fun e w' => e = .returned (.int .i64 (GType.size x)) ∧ Ext w w' := by
  refine GType.ind fun v0 v1 xs ih => ?_; intro cs w hr hsz
  obtain ⟨a, c, rfl, -, -, h3⟩ := GType.opened hr
  obtain ⟨hl, hm, -⟩ := h3.lens
  have HS := Lib.hid h3
  have IH := Lib.hid ih
  simp only [GType.size] at hsz
  simp only [GType.size]
  clear hr h3 ih
  simp only [List.cons_append, List.nil_append]
  go_enter Try.func64, Try.ntmps64
  go_wp2_with fail
  go_loopw [3, 4] (fun n i wr => ∃ k m : Nat, k ≤ xs.length ∧ i = .int .i64 k ∧ n = .int .i64 (m : Int) ∧ Ext w wr ∧ Hid (OB wr w.heap.size 27 #[.int .i64 v0, .string v1, .slice a xs.length c]) ∧ 1 ≤ m ∧ Hid (m + GType.sizes (xs.drop k) = 1 + GType.sizes xs)) (fun _ i _ => xs.length - (intOf i).toNat)
  case atStart => exact ⟨0, 1, Nat.zero_le _, rfl, rfl, .alloc (.refl _) _, OB.new w _ _, by omega, by rfl⟩
  case round =>
    obtain ⟨k, m, hk, rfl, rfl, hw, HB, hm1, HE⟩ := hrel
    have hce := HB.out.cell
    by_cases hlt : k < xs.length
    · obtain ⟨b, off, cs, rfl, hb, hcs, hc⟩ := (HS.out.ext hw).at2 (k := k) (GType.trs_get hlt)
      have HM := Lib.hid (List.getElem_mem hlt)
      have HCS := Lib.hid hcs
      have HC := Lib.hid hc
      have HI : Hid ((Try.prog.info? 27).map (·.size) = some cs.length) := by rw [← hcs.length, GType.tr_len]; exact isz27
      have HCL : Hid (cs.length = 3) := by rw [← hcs.length, GType.tr_len]; rfl
      clear hcs hc
      have HST := Lib.hid (GType.sizes_step hlt)
      have he := HE.out
      have hst := HST.out
      have hx : GType.size xs[k] ≤ 1099511627776 := by omega
      have hbd : m + GType.size xs[k] ≤ 1099511627777 := by omega
      clear he hst
      go_wp2_with (refine wpList_load_rep rfl 27 (.tmp 16) rfl b (off + k * 3) rfl cs _ Try.underlying27 HI.out HC.out ?_)
      refine (IH.out _ HM.out _ _ HCS.out hx).mono ?_; rintro e w1 ⟨rfl, hw1⟩
      have HW1 := Lib.hid (hw.trans hw1)
      have HB1 := Lib.hid (HB.out.ext hw1)
      clear hw1
      generalize GType.size xs[k] = z at *
      go_wp2_with fail
      go_roundw
      case rel => exact ⟨k + 1, m + z, by omega, by go_num, by go_num, HW1.out, HB1.out, by omega, by have := HE.out; have := HST.out; show _ = _; omega⟩
      case measure => simp [intOf]; omega
    · have hkl : k = xs.length := by omega
      go_wp2_with fail
      go_ret
      have := HE.out
      rw [hkl, List.drop_length] at this
      simp only [GType.sizes] at this
      exact ⟨ret_int (by omega), hw⟩


theorem GType.counts_size (v : ByteArray) : ∀ l : List GType, GType.counts v l ≤ GType.sizes l
  | [] => by simp [GType.counts, GType.pres, GType.sizes]
  | a :: l => by
    have h1 := GType.counts_size v l
    have h2 := GType.count_size v a
    have h3 := GType.counts_step (v := v) (l := a :: l) (k := 0) (by simp)
    simp only [List.drop_zero, List.getElem_cons_zero, List.drop_succ_cons] at h3
    simp only [GType.sizes]
    omega

set_option maxRecDepth 100000 in
set_option maxHeartbeats 1000000 in
theorem typeCount_spec (v : ByteArray) : ∀ (x : GType) (cs : List Value) (w : World), RepL w x.tr cs → GType.size x ≤ 1099511627776 →
    Calls Try.prog 63 #[.agg ⟨cs⟩, .string v] w fun e w' => e = .returned (.int .i64 (GType.count v x)) ∧ Ext w w' := by
  refine GType.ind fun v0 v1 xs ih => ?_; intro cs w hr hsz
  obtain ⟨a, c, rfl, -, -, h3⟩ := GType.opened hr
  obtain ⟨hl, hm, -⟩ := h3.lens
  have HS := Lib.hid h3
  have IH := Lib.hid ih
  simp only [GType.size] at hsz
  have HCM := Lib.hid (GType.count_mk v v0 v1 xs)
  have hcs := GType.counts_size v xs
  clear hr h3 ih
  simp only [List.cons_append, List.nil_append]
  have key : ∀ d : Nat, d = (if v0 = 1 ∧ v1 = v then 1 else 0) → Hid (GType.count v (.mk v0 v1 xs) = d + GType.counts v xs) := fun d h => by rw [h]; exact HCM.out
  go_enter Try.func63, Try.ntmps63
  go_wp2_with fail
  · rename_i h1 h2 KK hKK
    have D := key 1 (by have hz : v1 = v := bytes_inj (by simpa using h2); simp [hz, h1])
    clear h2
    subst h1
    go_loopw [5, 6] (fun n i wr => ∃ k m : Nat, k ≤ xs.length ∧ i = .int .i64 k ∧ n = .int .i64 (m : Int) ∧ Ext w wr ∧ Hid (OB wr w.heap.size 27 #[.int .i64 1, .string v1, .slice a xs.length c]) ∧ m ≤ 1 + GType.counts v xs ∧ Hid (m + GType.counts v (xs.drop k) = GType.count v (.mk 1 v1 xs))) (fun _ i _ => xs.length - (intOf i).toNat)
    case atStart => exact ⟨0, 1, Nat.zero_le _, rfl, rfl, .alloc (.refl _) _, OB.new w _ _, by omega, D.out.symm⟩
    case round =>
      obtain ⟨k, m, hk, rfl, rfl, hw, HB, hm1, HE⟩ := hrel
      have hce := HB.out.cell
      by_cases hlt : k < xs.length
      · obtain ⟨b, off, cs, rfl, hb, hcs, hc⟩ := (HS.out.ext hw).at2 (k := k) (GType.trs_get hlt)
        have HM := Lib.hid (List.getElem_mem hlt)
        have HCS := Lib.hid hcs
        have HC := Lib.hid hc
        have HI : Hid ((Try.prog.info? 27).map (·.size) = some cs.length) := by rw [← hcs.length, GType.tr_len]; exact isz27
        have HCL : Hid (cs.length = 3) := by rw [← hcs.length, GType.tr_len]; rfl
        clear hcs hc
        have HST := Lib.hid (GType.counts_step (v := v) hlt)
        have hx1 : GType.size xs[k] + GType.sizes (xs.drop (k + 1)) ≤ GType.sizes xs := by rw [← GType.sizes_step hlt]; exact GType.sizes_drop xs k
        have hx : GType.size xs[k] ≤ 1099511627776 := by omega
        have hbd : GType.count v xs[k] ≤ 1099511627776 := by have := GType.count_size v xs[k]; omega
        clear hx1
        go_wp2_with (refine wpList_load_rep rfl 27 (.tmp 27) rfl b (off + k * 3) rfl cs _ Try.underlying27 HI.out HC.out ?_)
        refine (IH.out _ HM.out _ _ HCS.out hx).mono ?_; rintro e w1 ⟨rfl, hw1⟩
        have HW1 := Lib.hid (hw.trans hw1)
        have HB1 := Lib.hid (HB.out.ext hw1)
        clear hw1
        have hcm : GType.count v (.mk 1 v1 xs) ≤ 1 + GType.counts v xs := by rw [HCM.out]; split <;> omega
        have HCN := Lib.hid hcm
        clear hcm
        generalize GType.count v xs[k] = z at *
        go_wp2_with fail
        go_roundw
        case rel => exact ⟨k + 1, m + z, by omega, by go_num, by go_num, HW1.out, HB1.out, by have := HE.out; have := HST.out; have := HCN.out; omega, by have := HE.out; have := HST.out; show _ = _; omega⟩
        case measure => simp [intOf]; omega
      · have hkl : k = xs.length := by omega
        go_wp2_with fail
        go_ret
        have := HE.out
        rw [hkl, List.drop_length] at this
        exact ⟨ret_int (by rw [← this]; simp [GType.counts, GType.pres]), hw⟩
  · rename_i h1 h2 KK hKK
    have D := key 0 (by have hz : ¬ v1 = v := (fun h => by simp [h] at h2); simp [hz])
    clear h2
    subst h1
    go_loopw [5, 6] (fun n i wr => ∃ k m : Nat, k ≤ xs.length ∧ i = .int .i64 k ∧ n = .int .i64 (m : Int) ∧ Ext w wr ∧ Hid (OB wr w.heap.size 27 #[.int .i64 1, .string v1, .slice a xs.length c]) ∧ m ≤ 1 + GType.counts v xs ∧ Hid (m + GType.counts v (xs.drop k) = GType.count v (.mk 1 v1 xs))) (fun _ i _ => xs.length - (intOf i).toNat)
    case atStart => exact ⟨0, 0, Nat.zero_le _, rfl, rfl, .alloc (.refl _) _, OB.new w _ _, by omega, D.out.symm⟩
    case round =>
      obtain ⟨k, m, hk, rfl, rfl, hw, HB, hm1, HE⟩ := hrel
      have hce := HB.out.cell
      by_cases hlt : k < xs.length
      · obtain ⟨b, off, cs, rfl, hb, hcs, hc⟩ := (HS.out.ext hw).at2 (k := k) (GType.trs_get hlt)
        have HM := Lib.hid (List.getElem_mem hlt)
        have HCS := Lib.hid hcs
        have HC := Lib.hid hc
        have HI : Hid ((Try.prog.info? 27).map (·.size) = some cs.length) := by rw [← hcs.length, GType.tr_len]; exact isz27
        have HCL : Hid (cs.length = 3) := by rw [← hcs.length, GType.tr_len]; rfl
        clear hcs hc
        have HST := Lib.hid (GType.counts_step (v := v) hlt)
        have hx1 : GType.size xs[k] + GType.sizes (xs.drop (k + 1)) ≤ GType.sizes xs := by rw [← GType.sizes_step hlt]; exact GType.sizes_drop xs k
        have hx : GType.size xs[k] ≤ 1099511627776 := by omega
        have hbd : GType.count v xs[k] ≤ 1099511627776 := by have := GType.count_size v xs[k]; omega
        clear hx1
        go_wp2_with (refine wpList_load_rep rfl 27 (.tmp 27) rfl b (off + k * 3) rfl cs _ Try.underlying27 HI.out HC.out ?_)
        refine (IH.out _ HM.out _ _ HCS.out hx).mono ?_; rintro e w1 ⟨rfl, hw1⟩
        have HW1 := Lib.hid (hw.trans hw1)
        have HB1 := Lib.hid (HB.out.ext hw1)
        clear hw1
        have hcm : GType.count v (.mk 1 v1 xs) ≤ 1 + GType.counts v xs := by rw [HCM.out]; split <;> omega
        have HCN := Lib.hid hcm
        clear hcm
        generalize GType.count v xs[k] = z at *
        go_wp2_with fail
        go_roundw
        case rel => exact ⟨k + 1, m + z, by omega, by go_num, by go_num, HW1.out, HB1.out, by have := HE.out; have := HST.out; have := HCN.out; omega, by have := HE.out; have := HST.out; show _ = _; omega⟩
        case measure => simp [intOf]; omega
      · have hkl : k = xs.length := by omega
        go_wp2_with fail
        go_ret
        have := HE.out
        rw [hkl, List.drop_length] at this
        exact ⟨ret_int (by rw [← this]; simp [GType.counts, GType.pres]), hw⟩
  · rename_i h1 KK hKK
    have D := key 0 (by simp [h1])
    clear h1
    go_loopw [5, 6] (fun n i wr => ∃ k m : Nat, k ≤ xs.length ∧ i = .int .i64 k ∧ n = .int .i64 (m : Int) ∧ Ext w wr ∧ Hid (OB wr w.heap.size 27 #[.int .i64 v0, .string v1, .slice a xs.length c]) ∧ m ≤ 1 + GType.counts v xs ∧ Hid (m + GType.counts v (xs.drop k) = GType.count v (.mk v0 v1 xs))) (fun _ i _ => xs.length - (intOf i).toNat)
    case atStart => exact ⟨0, 0, Nat.zero_le _, rfl, rfl, .alloc (.refl _) _, OB.new w _ _, by omega, D.out.symm⟩
    case round =>
      obtain ⟨k, m, hk, rfl, rfl, hw, HB, hm1, HE⟩ := hrel
      have hce := HB.out.cell
      by_cases hlt : k < xs.length
      · obtain ⟨b, off, cs, rfl, hb, hcs, hc⟩ := (HS.out.ext hw).at2 (k := k) (GType.trs_get hlt)
        have HM := Lib.hid (List.getElem_mem hlt)
        have HCS := Lib.hid hcs
        have HC := Lib.hid hc
        have HI : Hid ((Try.prog.info? 27).map (·.size) = some cs.length) := by rw [← hcs.length, GType.tr_len]; exact isz27
        have HCL : Hid (cs.length = 3) := by rw [← hcs.length, GType.tr_len]; rfl
        clear hcs hc
        have HST := Lib.hid (GType.counts_step (v := v) hlt)
        have hx1 : GType.size xs[k] + GType.sizes (xs.drop (k + 1)) ≤ GType.sizes xs := by rw [← GType.sizes_step hlt]; exact GType.sizes_drop xs k
        have hx : GType.size xs[k] ≤ 1099511627776 := by omega
        have hbd : GType.count v xs[k] ≤ 1099511627776 := by have := GType.count_size v xs[k]; omega
        clear hx1
        go_wp2_with (refine wpList_load_rep rfl 27 (.tmp 27) rfl b (off + k * 3) rfl cs _ Try.underlying27 HI.out HC.out ?_)
        refine (IH.out _ HM.out _ _ HCS.out hx).mono ?_; rintro e w1 ⟨rfl, hw1⟩
        have HW1 := Lib.hid (hw.trans hw1)
        have HB1 := Lib.hid (HB.out.ext hw1)
        clear hw1
        have hcm : GType.count v (.mk v0 v1 xs) ≤ 1 + GType.counts v xs := by rw [HCM.out]; split <;> omega
        have HCN := Lib.hid hcm
        clear hcm
        generalize GType.count v xs[k] = z at *
        go_wp2_with fail
        go_roundw
        case rel => exact ⟨k + 1, m + z, by omega, by go_num, by go_num, HW1.out, HB1.out, by have := HE.out; have := HST.out; have := HCN.out; omega, by have := HE.out; have := HST.out; show _ = _; omega⟩
        case measure => simp [intOf]; omega
      · have hkl : k = xs.length := by omega
        go_wp2_with fail
        go_ret
        have := HE.out
        rw [hkl, List.drop_length] at this
        exact ⟨ret_int (by rw [← this]; simp [GType.counts, GType.pres]), hw⟩

end Go.Proofs.Ytmpepccpnnldoaa

namespace Go.Proofs.Ytmpepccpnnldoaa
open Go.RowKit Go.Proofs

/-- What a closure with a state does at one type: 'Inv s S w' says that the state s lies in the blocks S. -/
def StepC {σ : Type} (g : FuncId) (caps : Array Value) (w0 : World) (Inv : σ → (Nat → Prop) → World → Prop) (step : σ → GType → σ) (Ok : σ → List GType → Prop) : Prop :=
  ∀ x s S l cs w, RepL w0 x.tr cs → Ext w0 w → Inv s S w → Ok s (x :: l) → Calls Try.prog g (#[.agg ⟨cs⟩] ++ caps) w fun e w' => (∃ v, e = .returned v) ∧ ∃ S', Inv (step s x) S' w' ∧ Chg S w w' ∧ ∀ b, S' b → S b ∨ w.heap.size ≤ b
/-- The state lies behind what was, and stays while only new blocks come. -/
structure InvOk {σ : Type} (w0 : World) (Inv : σ → (Nat → Prop) → World → Prop) : Prop where
  ext : ∀ s S w w', Inv s S w → Ext w w' → Inv s S w'
  lt : ∀ s S w b, Inv s S w → S b → b < w.heap.size
  ge : ∀ s S w b, Inv s S w → S b → w0.heap.size ≤ b

theorem OB.chg {S : Nat → Prop} {w w' : World} {g : Nat} {t : TypeId} {cs : Array Value} (h : OB w g t cs) (hc : Chg S w w') (hn : ¬ S g) : OB w' g t cs := (hc.block g h.lt hn).trans h
theorem Ext.chg {S : Nat → Prop} {a w w' : World} (h : Ext a w) (hc : Chg S w w') (hS : ∀ b, S b → a.heap.size ≤ b) : Ext a w' := Chg.ext h hc hS
theorem Chg.sub {S S' : Nat → Prop} {a b c : World} (h : Chg S a b) (k : Chg S' b c) (hS : ∀ x, S' x → S x ∨ a.heap.size ≤ x) : Chg S a c :=
  ⟨k.os.trans h.os, k.tape.trans h.tape, k.output.trans h.output, Nat.le_trans h.size k.size, fun x hx hn => (k.block x (Nat.lt_of_lt_of_le hx h.size) (fun hs => by rcases hS x hs with h1 | h1; exact hn h1; omega)).trans (h.block x hx hn)⟩

set_option maxRecDepth 100000 in
set_option maxHeartbeats 1000000 in
theorem eachType_of {σ : Type} (g : FuncId) (caps : Array Value) (hg : ∀ (args : Array Value) (w : World), (callFunc g args).run Try.prog w = .ok (.enter g args) w)
    (w0 : World) (Inv : σ → (Nat → Prop) → World → Prop) (step : σ → GType → σ) (Ok : σ → List GType → Prop) (hI : InvOk w0 Inv) (hok : ∀ s x l, Ok s (x :: l) → Ok (step s x) l)
    (H : StepC g caps w0 Inv step Ok) :
    ∀ (x : GType) (s : σ) (S : Nat → Prop) (l : List GType) (cs : List Value) (w : World), RepL w0 x.tr cs → Ext w0 w → Inv s S w → Ok s (x.pre ++ l) →
      Calls Try.prog 96 #[.agg ⟨cs⟩, .func (.func g) #[] caps] w fun e w' => (∃ v, e = .returned v) ∧ (∃ S', Inv (x.pre.foldl step s) S' w' ∧ Chg S w w' ∧ ∀ b, S' b → S b ∨ w.heap.size ≤ b) ∧ Ok (x.pre.foldl step s) l := by
  refine GType.ind fun v0 v1 xs ih => ?_; intro s S l cs w hr hw hi ho
  have HR := Lib.hid hr
  obtain ⟨a, c, rfl, -, -, h3⟩ := GType.opened hr
  obtain ⟨hl, hm, -⟩ := h3.lens
  have HS := Lib.hid h3
  have IH := Lib.hid ih
  have HH := Lib.hid H
  have HI := Lib.hid hI
  have HK := Lib.hid hok
  have HI0 := Lib.hid (hI.ext _ _ _ _ hi (.alloc (.refl w) (.cells ⟨[.int .i64 v0] ++ ([.string v1] ++ ([.slice a xs.length c] ++ []))⟩ 27)))
  have HSB : Hid (∀ b, S b → b < w.heap.size) := fun b => hI.lt _ _ _ b hi
  have HSG : Hid (∀ b, S b → w0.heap.size ≤ b) := fun b => hI.ge _ _ _ b hi
  have HO := Lib.hid ho
  have HW := Lib.hid hw
  clear hr h3 ih H hI hok hi ho hw
  simp only [List.cons_append, List.nil_append] at *
  go_enter Try.func96, Try.ntmps96
  go_wp2_with (refine wpList_load_rep rfl 27 (.tmp 2) rfl w.heap.size 0 rfl _ _ Try.underlying27 isz27 (OB.cells0 (OB.new w _ _)) ?_)
  have ho1 : Ok s (.mk v0 v1 xs :: (GType.pres xs ++ l)) := by have := HO.out; simpa only [GType.pre, List.cons_append] using this
  have HO1 := Lib.hid ho1
  clear ho1
  refine (HH.out (.mk v0 v1 xs) s S (GType.pres xs ++ l) _ _ HR.out (Ext.alloc HW.out _) HI0.out HO1.out).mono ?_; rintro e w1 ⟨⟨v, rfl⟩, S1, hi1, hc1, hs1⟩
  have hk1 : Hid (Ok (step s (.mk v0 v1 xs)) (GType.pres xs ++ l)) := HK.out _ _ _ HO1.out
  have hb1 : OB w1 w.heap.size 27 #[.int .i64 v0, .string v1, .slice a xs.length c] := (OB.new w _ _).chg hc1 (fun h => by have := HSB.out _ h; omega)
  have HC1 := Lib.hid hc1
  have HI1 := Lib.hid hi1
  have HS1 := Lib.hid hs1
  have HB1 := Lib.hid hb1
  have hce := hb1.cell
  have hsz1 := hc1.size
  simp only [World.size_alloc] at hsz1
  clear hc1 hi1 hs1 hb1
  go_wp2_with fail
  go_loopw [12] (fun i wr => ∃ (k : Nat) (s' : σ) (S' : Nat → Prop), k ≤ xs.length ∧ i = .int .i64 k ∧ Hid (Inv s' S' wr) ∧ Hid (Chg S w wr) ∧ Hid (∀ b, S' b → S b ∨ w.heap.size ≤ b) ∧ Hid (Ok s' (GType.pres (xs.drop k) ++ l)) ∧ Hid ((GType.pres (xs.drop k)).foldl step s' = (GType.pre (.mk v0 v1 xs)).foldl step s)) (fun i _ => xs.length - (intOf i).toNat)
  case atStart =>
    refine ⟨0, step s (.mk v0 v1 xs), S1, Nat.zero_le _, rfl, HI1.out, ?_, ?_, hk1, rfl⟩
    · exact (Chg.of_ext (.alloc (.refl w) _)).trans HC1.out
    · intro b hb
      rcases HS1.out b hb with h | h
      · exact .inl h
      · simp only [World.size_alloc] at h
        exact .inr (by omega)
  case round =>
    obtain ⟨k, s', S', hk, rfl, HIk, HCk, HSk, HOk, HEk⟩ := hrel
    have hwr := HW.out.chg HCk.out HSG.out
    by_cases hlt : k < xs.length
    · obtain ⟨b, off, cs, rfl, hb, hcs, hc⟩ := HS.out.at2 (k := k) (GType.trs_get hlt)
      have HM := Lib.hid (List.getElem_mem hlt)
      have HCS := Lib.hid hcs
      have HC := Lib.hid (cells_ext hwr hb hc)
      have HI3 : Hid ((Try.prog.info? 27).map (·.size) = some cs.length) := by rw [← hcs.length, GType.tr_len]; exact isz27
      have HCL : Hid (cs.length = 3) := by rw [← hcs.length, GType.tr_len]; rfl
      have HPS := Lib.hid (GType.pres_step hlt)
      have HWR := Lib.hid hwr
      clear hcs hc hwr
      go_wp2_with (first
        | (refine wpList_load_rep rfl 27 (.tmp 14) rfl b (off + k * 3) rfl cs _ Try.underlying27 HI3.out HC.out ?_)
        | (refine wpList_store_rep rfl 27 (.tmp 5) (.tmp 15) rfl wr.heap.size 0 rfl cs rfl 27 _ (OB.new wr _ _) HI3.out (by rw [HCL.out]; exact Nat.le_refl _) HCS.out.one ?_; intro wb hob hgb hzb; rw [splice_whole (by rw [HCL.out]; rfl)] at hob; have HOB := Lib.hid hob; have HXB := Lib.hid (grown_ext (.alloc (.refl wr) _) hgb (Nat.le_refl _)); clear hob hgb hzb)
        | (refine wpList_load_rep rfl 27 (.tmp 5) rfl wr.heap.size 0 rfl cs _ Try.underlying27 HI3.out HOB.out.cells0 ?_))
      refine (IH.out _ HM.out s' S' (GType.pres (xs.drop (k + 1)) ++ l) _ _ HCS.out (HWR.out.trans HXB.out) (HI.out.ext _ _ _ _ HIk.out HXB.out) (by have := HOk.out; rw [HPS.out, List.append_assoc] at this; exact this)).mono ?_; rintro e w2 ⟨⟨v2, rfl⟩, ⟨S2, hi2, hc2, hs2⟩, hk2⟩
      have HI2 := Lib.hid hi2
      have HC2 := Lib.hid hc2
      have HS2 := Lib.hid hs2
      have HK2 := Lib.hid hk2
      clear hi2 hc2 hs2 hk2
      go_wp2_with fail
      go_roundw
      case rel =>
        have hz := HCk.out.size
        have hx := HXB.out.size
        refine ⟨k + 1, _, S2, by omega, by go_num, HI2.out, ?_, ?_, HK2.out, ?_⟩
        · exact (HCk.out.trans (Chg.of_ext HXB.out)).sub HC2.out HSk.out
        · intro b hb
          rcases HS2.out b hb with h | h
          · exact HSk.out b h
          · exact .inr (by omega)
        · show _ = _
          have := HEk.out
          rw [HPS.out, List.foldl_append] at this
          exact this
      case measure => simp [intOf]; omega
    · have hkl : k = xs.length := by omega
      go_wp2_with fail
      have h1 := HOk.out
      have h2 := HEk.out
      rw [hkl, List.drop_length] at h1 h2
      simp only [GType.pres, List.foldl_nil, List.nil_append] at h1 h2
      refine bodyPost_end (results_none rfl _ _ _) rfl ?_
      rw [← h2]
      exact ⟨⟨_, rfl⟩, ⟨S', HIk.out, HCk.out, HSk.out⟩, h1⟩
end Go.Proofs.Ytmpepccpnnldoaa

namespace Go.Proofs.Ytmpepccpnnldoaa
open Go.RowKit Go.Proofs

set_option maxRecDepth 100000 in
set_option maxHeartbeats 1000000 in
theorem strIndex_impl (l : List ByteArray) (s : ByteArray) (v : Value) (w : World) (h : Rep w (.row 1 (strTrs l)) v) :
    Calls Try.prog 143 #[v, .string s] w fun e w' => e = .returned (.int .i64 (idxL (fun x => decide (x = s)) l 0)) ∧ w' = w := by
  obtain ⟨a, c, rfl, hl, hm⟩ := h.shape
  rw [strTrs_len] at *
  unfold maxLen at hm
  have HS := Lib.hid h
  clear h
  go_enter Try.func143, Try.ntmps143
  go_wp2_with fail
  go_loopw [5, 8] (fun _ i wr => ∃ k : Nat, k ≤ l.length ∧ i = .int .i64 k ∧ wr = w ∧ Hid (idxL (fun x => decide (x = s)) l 0 = idxL (fun x => decide (x = s)) (l.drop k) k)) (fun _ i _ => l.length - (intOf i).toNat)
  case atStart => exact ⟨0, Nat.zero_le _, rfl, rfl, rfl⟩
  case round =>
    obtain ⟨k, hk, rfl, rfl, HE⟩ := hrel
    by_cases hlt : k < l.length
    · obtain ⟨b, off, rfl, hb, -, hcell⟩ := HS.out.str hlt
      have HST := Lib.hid (idxL_step (p := fun x => decide (x = s)) hlt)
      generalize l[k] = z at *
      go_wp2_with fail
      · rename_i hh
        have hz : s = z := bytes_inj (by simpa using hh)
        go_ret
        exact ⟨ret_int (by rw [HE.out, HST.out]; simp [hz]), rfl⟩
      · rename_i hh
        have hz : ¬ z = s := fun h => by simp [h] at hh
        go_roundw
        case rel => exact ⟨k + 1, by omega, by go_num, by first | trivial | rfl, by show _ = _; rw [HE.out, HST.out]; simp [hz]⟩
        case measure => simp [intOf]; omega
    · have hkl : k = l.length := by omega
      go_wp2_with fail
      go_ret
      exact ⟨ret_int (by rw [HE.out, hkl, List.drop_length]; rfl), rfl⟩

set_option maxRecDepth 100000 in
theorem strContains_impl (l : List ByteArray) (s : ByteArray) (v : Value) (w : World) (h : Rep w (.row 1 (strTrs l)) v) :
    Calls Try.prog 127 #[v, .string s] w fun e w' => e = .returned (.bool (hasS l s)) ∧ w' = w := by
  have hb := Lib.hid (idxL_any (p := fun x => decide (x = s)) l 0)
  have HS := Lib.hid h
  clear h
  go_enter Try.func127, Try.ntmps127
  go_wp2_with fail
  refine (strIndex_impl l s v _ HS.out).mono ?_; rintro e w1 ⟨rfl, rfl⟩
  generalize idxL (fun x => decide (x = s)) l 0 = q at *
  go_wp2_with fail
  go_ret
  exact ⟨ret_bool hb.out, rfl⟩

/-- The variables met so far: a slice in a box of the closure's. -/
def InvV (base Bo : Nat) (s : List ByteArray) (S : Nat → Prop) (w : World) : Prop :=
  ∃ v U, OB w Bo 24 #[v] ∧ Acc 9 base 1 w (strTrs s) v U ∧ (S = fun b => b = Bo ∨ v.ownBlock = some b) ∧ base ≤ Bo ∧ v.ownBlock ≠ some Bo ∧ ¬ U Bo
theorem InvV.ok (w0 : World) (base Bo : Nat) (h0 : w0.heap.size ≤ base) : InvOk w0 (InvV base Bo) where
  ext := fun _ _ _ _ ⟨v, U, h1, h2, h3⟩ hx => ⟨v, U, h1.ext hx, h2.ext hx, h3⟩
  lt := fun _ _ _ b ⟨v, U, h1, h2, h3, h4, h5, h6⟩ hb => by
    subst h3
    rcases hb with rfl | hb
    · exact h1.lt
    · exact (h2.blk hb).2
  ge := fun _ _ _ b ⟨v, U, h1, h2, h3, h4, h5, h6⟩ hb => by
    subst h3
    rcases hb with rfl | hb
    · omega
    · have := (h2.blk hb).1; omega
def OkV (s : List ByteArray) (l : List GType) : Prop := s.length + l.length ≤ 1099511627776
theorem OkV.step (s : List ByteArray) (y : GType) (l : List GType) (h : OkV s (y :: l)) : OkV (varStep s y) l := by
  unfold OkV at *
  rw [List.length_cons] at h
  have : (varStep s y).length ≤ s.length + 1 := by unfold varStep; split <;> simp
  omega
theorem strTrs_snocV (s : List ByteArray) (n : ByteArray) : strTrs s ++ [[.leaf (.string n)]] = strTrs (s ++ [n]) := by simp [strTrs]
theorem varStep_yes {s : List ByteArray} {n : ByteArray} {xs : List GType} (h : hasS s n = false) : varStep s (.mk 1 n xs) = s ++ [n] := by simp [varStep, h]
theorem varStep_no {s : List ByteArray} {n : ByteArray} {xs : List GType} (h : hasS s n = true) : varStep s (.mk 1 n xs) = s := by simp [varStep, h]
theorem varStep_kind {s : List ByteArray} {k : Int} {n : ByteArray} {xs : List GType} (h : ¬ k = 1) : varStep s (.mk k n xs) = s := by simp [varStep, h]

set_option maxRecDepth 100000 in
set_option maxHeartbeats 1000000 in
theorem vars_step (w0 : World) (base Bo : Nat) (_h0 : w0.heap.size ≤ base) : StepC 126 #[.pointer (some ⟨Bo, 0, none⟩)] w0 (InvV base Bo) varStep OkV := by
  intro x s S l cs w hr hw hi ho
  obtain ⟨k, n, xs⟩ := x
  obtain ⟨a, c, rfl, -, hn, -⟩ := GType.opened hr
  obtain ⟨v, U, h1, h2, rfl, h4, h5, h6⟩ := hi
  have hs : s.length ≤ 1099511627776 := by unfold OkV at ho; omega
  obtain ⟨va, vc, rfl, -, -⟩ := h2.shape
  rw [strTrs_len] at *
  have H1 := Lib.hid h1
  have H2 := Lib.hid h2
  have H5 := Lib.hid h5
  have H6 := Lib.hid h6
  have HN := Lib.hid hn
  simp only [List.cons_append, List.nil_append] at *
  have c1 := h1.cell 0
  have l1 := h1.lt
  have hbw : base ≤ w.heap.size := by omega
  clear hr hw ho h1 h2 h5 h6 hn
  go_enter Try.func126, Try.ntmps126
  go_wp2_with (first
    | (go_at_call 127; refine (strContains_impl s n _ _ (H2.out.ext (.alloc (.refl w) _)).rep).mono ?_; rintro e w' ⟨rfl, rfl⟩)
    | (refine wpList_append_acc rfl (.tmp 13) (.tmp 16) 24 rfl 9 1 16 Try.underlying24 iszc9 (by omega) (by omega) base (strTrs s) s.length (strTrs_len s) (.slice va s.length vc) U rfl ((H2.out.ext (.alloc (.refl w) _)).ext (.alloc (.refl _) _)) [.leaf (.string n)] [.string n] (fun _ => False) rfl (OwnL.cons_leaf HN.out (OwnL.nil _ _)) (fun _ _ h => h) (fun _ h => h.elim) (fun _ _ h => h) (w.heap.size + 1) 1 _ rfl (Two.new w _ _ _ _).o1 hs (by simp only [World.size_alloc]; omega) ?_; intro g gc wb hacc hgb hgg hgl; rw [strTrs_snocV] at hacc; have HACC := Lib.hid hacc; have HGB := Lib.hid hgb; have HGG := Lib.hid hgg; clear hacc hgb hgg)
    | (refine wpList_store_cell rfl 24 (.tmp 1) (.tmp 17) rfl Bo 0 rfl (.slice (some ⟨g, 0, none⟩) (s.length + 1) gc) rfl rfl 24 _ ((H1.out.ext (.alloc (.alloc (.refl w) _) _)).grown_own HGB.out H5.out) isz24 (by simp) rfl ?_; intro wc hoc hgc hzc; have HOC := Lib.hid hoc; have HGC := Lib.hid hgc; clear hoc hgc hzc))
  · rename_i hk hh
    have hz : hasS s n = false := by simpa using hh
    go_end0
    have hob := HOC.out
    rw [splice_whole (by rfl)] at hob
    have hgg := HGG.out
    have hx : Chg (fun b => b = Bo ∨ (Value.slice va s.length vc).ownBlock = some b) w wb := (Chg.of_ext (.alloc (.alloc (.refl w) _) _)).trans ((Chg.of_grown_own HGB.out).mono fun x h => .inr h)
    simp only [World.size_alloc] at hgg
    have hgo : ∀ b, g = b → (b = Bo ∨ (Value.slice va s.length vc).ownBlock = some b) ∨ w.heap.size ≤ b := by
      rintro b rfl
      rcases hgg with h | h
      · exact .inl (.inr h)
      · exact .inr (by omega)
    have hgB : g ≠ Bo := by
      rintro rfl
      rcases hgg with h | h
      · exact H5.out h
      · omega
    refine ⟨⟨_, rfl⟩, (fun b => b = Bo ∨ (Value.slice (some ⟨g, 0, none⟩) (s.length + 1) gc).ownBlock = some b), ⟨_, (fun x => U x ∨ False ∨ x = g), hob, ?_, rfl, h4, ?_, ?_⟩, hx.trans ((Chg.of_grown HGC.out rfl).mono fun x h => .inl h.symm), ?_⟩
    · first | rw [varStep_yes hz] | rw [hk, varStep_yes hz]
      refine HACC.out.keep HGC.out.size fun b hb hbl => HGC.out.block b hbl ?_; intro h
      injection h with h
      subst h
      rcases hb with (hb | hb | hb) | hb
      · exact H6.out hb
      · exact hb
      · exact hgB hb.symm
      · simp [Value.ownBlock] at hb; exact hgB hb
    · simp [Value.ownBlock]; exact hgB
    · rintro (hb | hb | hb)
      · exact H6.out hb
      · exact hb
      · exact hgB hb.symm
    · rintro b (rfl | h)
      · exact .inl (.inl rfl)
      · simp [Value.ownBlock] at h; exact hgo b h
  · rename_i hk hh
    have hz : hasS s n = true := by simpa using hh
    go_end0
    first | rw [varStep_no hz] | rw [hk, varStep_no hz]
    exact ⟨⟨_, rfl⟩, _, ⟨_, U, H1.out.ext (.alloc (.refl w) _), H2.out.ext (.alloc (.refl w) _), rfl, h4, H5.out, H6.out⟩, Chg.of_ext (.alloc (.refl w) _), fun b h => .inl h⟩
  · rename_i hk
    go_end0
    rw [varStep_kind hk]
    exact ⟨⟨_, rfl⟩, _, ⟨_, U, H1.out.ext (.alloc (.refl w) _), H2.out.ext (.alloc (.refl w) _), rfl, h4, H5.out, H6.out⟩, Chg.of_ext (.alloc (.refl w) _), fun b h => .inl h⟩

set_option maxRecDepth 100000 in
set_option maxHeartbeats 1000000 in
theorem variablesOf_impl (xs : List GType) (v : Value) (w : World) (h : Rep w (.row 3 (GType.trs xs)) v) (hsz : GType.sizes xs ≤ 1099511627776) :
    Calls Try.prog 95 #[v] w fun e w' => ∃ u, e = .returned u ∧ Ext w w' ∧ Own w' (.row 1 (strTrs ((GType.pres xs).foldl varStep []))) u (Between w w') := by
  obtain ⟨a, c, rfl, hl, hm⟩ := h.shape
  rw [GType.trs_len] at *
  unfold maxLen at hm
  have HS := Lib.hid h
  have HZ : Hid (OkV [] (GType.pres xs)) := by show OkV _ _; unfold OkV; rw [GType.pres_length]; simpa using hsz
  clear h hsz
  go_enter Try.func95, Try.ntmps95
  go_wp2_with fail
  have h2 := Two.new w 9 24 #[] #[.slice (some ⟨w.heap.size, 0, none⟩) 0 0]
  have hi0 : InvV w.heap.size (w.heap.size + 1) [] (fun b => b = w.heap.size + 1 ∨ b = w.heap.size) ((w.alloc (.cells #[] 9)).alloc (.cells #[.slice (some ⟨w.heap.size, 0, none⟩) 0 0] 24)) := by
    refine ⟨_, fun _ => False, h2.o1, Acc.empty (Nat.le_refl _) h2.o0 (by unfold maxLen; omega) rfl, ?_, by omega, by simp [Value.ownBlock], fun h => h⟩
    funext b
    simp only [Value.ownBlock, Option.some.injEq, eq_iff_iff]
    exact ⟨fun h => h.imp id Eq.symm, fun h => h.imp id Eq.symm⟩
  have HI0 := Lib.hid hi0
  clear h2 hi0
  go_loopw [9] (fun i wr => ∃ (k : Nat) (s : List ByteArray) (S : Nat → Prop), k ≤ xs.length ∧ i = .int .i64 k ∧ Hid (InvV w.heap.size (w.heap.size + 1) s S wr) ∧ Hid (Ext w wr) ∧ Hid (OkV s (GType.pres (xs.drop k))) ∧ Hid ((GType.pres (xs.drop k)).foldl varStep s = (GType.pres xs).foldl varStep [])) (fun i _ => xs.length - (intOf i).toNat)
  case atStart => exact ⟨0, [], _, Nat.zero_le _, rfl, HI0.out, .alloc (.alloc (.refl _) _) _, HZ.out, by rfl⟩
  case round =>
    obtain ⟨k, s, S, hk, rfl, HV, HW, HOk, HEk⟩ := hrel
    by_cases hlt : k < xs.length
    · obtain ⟨b, off, cs, rfl, hb, hcs, hc⟩ := HS.out.at2 (k := k) (GType.trs_get hlt)
      have HM := Lib.hid (List.getElem_mem hlt)
      have HCS := Lib.hid hcs
      have HC := Lib.hid (cells_ext HW.out hb hc)
      have HI : Hid ((Try.prog.info? 27).map (·.size) = some cs.length) := by rw [← hcs.length, GType.tr_len]; exact isz27
      have HCL : Hid (cs.length = 3) := by rw [← hcs.length, GType.tr_len]; rfl
      clear hcs hc
      have HPS := Lib.hid (GType.pres_step hlt)
      go_wp2_with (first
        | (refine wpList_load_rep rfl 27 (.tmp 11) rfl b (off + k * 3) rfl cs _ Try.underlying27 HI.out HC.out ?_)
        | (refine wpList_store_rep rfl 27 (.tmp 5) (.tmp 12) rfl wr.heap.size 0 rfl cs rfl 27 _ (OB.new wr _ _) HI.out (by rw [HCL.out]; exact Nat.le_refl _) HCS.out.one ?_; intro wb hob hgb hzb; rw [splice_whole (by rw [HCL.out]; rfl)] at hob; have HOB := Lib.hid hob; have HXB := Lib.hid (grown_ext (.alloc (.refl wr) _) hgb (Nat.le_refl _)); clear hob hgb hzb)
        | (refine wpList_load_rep rfl 27 (.tmp 5) rfl wr.heap.size 0 rfl cs _ Try.underlying27 HI.out HOB.out.cells0 ?_))
      have hok : OkV s (xs[k].pre ++ GType.pres (xs.drop (k + 1))) := by rw [← HPS.out]; exact HOk.out
      refine (eachType_of 126 _ (run_callFunc_body Try.func126 (by kernel_rfl) (by kernel_rfl)) w (InvV w.heap.size (w.heap.size + 1)) varStep OkV (InvV.ok w _ _ (Nat.le_refl _)) OkV.step (vars_step w _ _ (Nat.le_refl _)) xs[k] s S (GType.pres (xs.drop (k + 1))) cs _ HCS.out (HW.out.trans HXB.out) ((InvV.ok w _ _ (Nat.le_refl _)).ext _ _ _ _ HV.out HXB.out) hok).mono ?_; rintro e w1 ⟨⟨r, rfl⟩, ⟨S', hi, hc, -⟩, hok'⟩
      have HV1 := Lib.hid hi
      have HW1 := Lib.hid ((HW.out.trans HXB.out).chg hc (fun b hb => (InvV.ok w _ _ (Nat.le_refl _)).ge _ _ _ b HV.out hb))
      have HOk1 := Lib.hid hok'
      clear hi hc hok' hok
      go_wp2_with fail
      go_roundw
      case rel => exact ⟨k + 1, _, S', by omega, by go_num, HV1.out, HW1.out, HOk1.out, by have := HEk.out; rw [HPS.out, List.foldl_append] at this; exact this⟩
      case measure => simp [intOf]; omega
    · have hkl : k = xs.length := by omega
      obtain ⟨v, U, h1, h2, -, -, -⟩ := HV.out
      have hce := h1.cell 0
      have HA := Lib.hid h2
      obtain ⟨va, vc, rfl, -, -⟩ := h2.shape
      clear h1 h2
      go_wp2_with fail
      go_ret
      have h5 := HEk.out
      rw [hkl, List.drop_length] at h5
      simp only [GType.pres, List.foldl_nil] at h5
      rw [← h5]
      exact ⟨_, rfl, HW.out, HA.out.wide.own⟩

end Go.Proofs.Ytmpepccpnnldoaa

namespace Go.Proofs.Ytmpepccpnnldoaa
open Go.RowKit Go.Proofs

theorem GType.trs_one (x : GType) : GType.trs [x] = [x.tr] := by rw [GType.trs_map]; rfl
/-- A slice of one struct that has just been made. -/
theorem Rep.single {w : World} {e : List Tr} {cs : List Value} {B : Nat} {E : TypeId} {sz cap : Nat} (h : RepL w e cs) (hB : OB w B E ⟨cs⟩) (hc : 1 ≤ cap) (hm : cap ≤ maxLen) : Rep w (.row sz [e]) (.slice (some ⟨B, 0, none⟩) 1 cap) := by
  refine Rep.row (es := [e]) (fun _ j => (cs[j]?).getD undef) hc hm ?_ ?_
  · intro _
    refine ⟨B, 0, rfl, hB.lt, ?_⟩
    intro i e' he j d hd
    cases i with
    | zero =>
      simp at he; subst he
      obtain ⟨v, hv, -⟩ := h.get hd
      rw [hB.cell]
      simp [hv]
    | succ i => simp at he
  · intro i e' he j d hd
    cases i with
    | zero =>
      simp at he; subst he
      obtain ⟨v, hv, hr⟩ := h.get hd
      simpa [hv] using hr
    | succ i => simp at he

set_option maxRecDepth 100000 in
set_option maxHeartbeats 1000000 in
theorem typeVars_impl (x : GType) (cs : List Value) (w : World) (hr : RepL w x.tr cs) (hsz : GType.size x ≤ 1099511627776) :
    Calls Try.prog 60 #[.agg ⟨cs⟩] w fun e w' => ∃ u, e = .returned u ∧ Ext w w' ∧ Own w' (.row 1 (strTrs x.vars)) u (Between w w') := by
  obtain ⟨c0, c1, c2, rfl⟩ := list3 (hr.length.symm.trans (GType.tr_len x))
  have HR := Lib.hid hr
  clear hr
  go_enter Try.func60, Try.ntmps60
  go_wp2_with (refine wpList_load_rep rfl 27 (.tmp 1) rfl w.heap.size 0 rfl [c0, c1, c2] _ Try.underlying27 isz27 (OB.cells0 (OB.new w _ _)) ?_)
  have h2 := Two.new w 27 27 #[c0, c1, c2] #[c0, c1, c2]
  refine (variablesOf_impl [x] _ _ (by rw [GType.trs_one]; exact Rep.single (HR.out.ext (.alloc (.alloc (.refl _) _) _)) h2.o1 (Nat.le_refl _) (by unfold maxLen; omega)) (by simp only [GType.sizes]; omega)).mono ?_; rintro e w1 ⟨u, rfl, hw1, ho⟩
  have HW1 := Lib.hid hw1
  have HO := Lib.hid ho
  clear hw1 ho h2
  obtain ⟨ua, uc, rfl, -, -⟩ := HO.out.rep.shape
  go_wp2_with fail
  go_ret
  have hv : (GType.pres [x]).foldl varStep [] = x.vars := by simp [GType.pres, GType.vars]
  have ho := HO.out
  rw [hv] at ho
  refine ⟨_, rfl, .trans (.alloc (.alloc (.refl _) _) _) HW1.out, ?_⟩
  rw [hv]
  exact ho.mono fun b hb => ⟨by have := hb.1; simp only [World.size_alloc] at this; omega, hb.2⟩

set_option maxRecDepth 100000 in
set_option maxHeartbeats 1000000 in
theorem vars_spec (w0 : World) (base : Nat) (h0 : w0.heap.size ≤ base) : ∀ (x : GType) (out : List ByteArray) (v : Value) (U : Nat → Prop) (l : List GType) (cs : List Value) (w : World), RepL w0 x.tr cs → Ext w0 w → Acc 9 base 1 w (strTrs out) v U → base ≤ w.heap.size → OkV out (x.pre ++ l) →
    Calls Try.prog 98 #[.agg ⟨cs⟩, v] w fun e w' => ∃ v', e = .returned v' ∧ AccRun 9 base 1 w v w' (strTrs (x.pre.foldl varStep out)) v' ∧ OkV (x.pre.foldl varStep out) l := by
  refine GType.ind fun v0 v1 xs ih => ?_; intro out v U l cs w hr hw hacc hbw ho
  obtain ⟨a, c, rfl, -, hn, h3⟩ := GType.opened hr
  obtain ⟨hl, hm, -⟩ := h3.lens
  obtain ⟨va, vc, rfl, -, -⟩ := hacc.shape
  rw [strTrs_len] at *
  have HS := Lib.hid h3
  have IH := Lib.hid ih
  have HA := Lib.hid hacc
  have HW := Lib.hid hw
  have HN := Lib.hid hn
  have ho1 : OkV out (.mk v0 v1 xs :: (GType.pres xs ++ l)) := by simpa only [GType.pre, List.cons_append] using ho
  have HO := Lib.hid ho1
  have hol : out.length ≤ 1099511627776 := by unfold OkV at ho1; omega
  clear hr h3 ih hacc hw hn ho ho1
  simp only [List.cons_append, List.nil_append] at *
  go_enter Try.func98, Try.ntmps98
  go_upto_region 3 with (first
    | (go_at_call 128; refine (l1Has_spec out v1 _ _ (HA.out.ext (.alloc (.refl w) _)).rep).mono ?_; rintro e w' ⟨rfl, rfl⟩)
    | (refine wpList_append_acc rfl (.tmp 16) (.tmp 19) 24 rfl 9 1 16 Try.underlying24 iszc9 (by omega) (by omega) base (strTrs out) out.length (strTrs_len out) (.slice va out.length vc) U rfl ((HA.out.ext (.alloc (.refl w) _)).ext (.alloc (.refl _) _)) [.leaf (.string v1)] [.string v1] (fun _ => False) rfl (OwnL.cons_leaf HN.out (OwnL.nil _ _)) (fun _ _ h => h) (fun _ h => h.elim) (fun _ _ h => h) (w.heap.size + 1) 1 _ rfl (Two.new w _ _ _ _).o1 hol (by simp only [World.size_alloc]; omega) ?_; intro g gc wb hacc hgb hgg hgl; rw [strTrs_snocV] at hacc; have HACC := Lib.hid hacc; have HGB := Lib.hid hgb; have HGG := Lib.hid hgg; clear hacc hgb hgg))
  all_goals first
    | (have hacc := HACC.out; rename_i h1 h2 K1 hK1 K2 hK2; subst h1
       have hz : hasS out v1 = false := by simpa using h2
       have hrun : AccRun 9 base 1 w (.slice va out.length vc) wb (strTrs (out ++ [v1])) (.slice (some ⟨g, 0, none⟩) (out.length + 1) gc) := AccRun.extL (.alloc (.alloc (.refl w) _) _) (fun b hb => (HA.out.blk hb).2) (AccRun.snoc rfl HACC.out HGB.out HGG.out)
       have hne : (Value.slice va out.length vc).ownBlock ≠ some w.heap.size := fun h => by have := (HA.out.blk h).2; omega
       have hbx : OB wb w.heap.size 27 #[.int .i64 1, .string v1, .slice a xs.length c] := ((OB.new w 27 #[.int .i64 1, .string v1, .slice a xs.length c]).ext (.alloc (.refl _) (.cells #[.string v1] 9))).grown_own HGB.out hne
       have hnb : (Value.slice (some ⟨g, 0, none⟩) (out.length + 1) gc).ownBlock ≠ some w.heap.size := by
         intro h
         simp only [Value.ownBlock, Option.some.injEq] at h
         rcases HGG.out with h2 | h2
         · rw [h] at h2; exact hne h2
         · simp only [World.size_alloc] at h2; omega
       have hlen : out.length + 1 = (out ++ [v1]).length := by simp
       have HF : Hid ((GType.pre (.mk 1 v1 xs)).foldl varStep out = (GType.pres xs).foldl varStep (out ++ [v1])) := by show _ = _; rw [GType.pre, List.foldl_cons, varStep_yes hz]
       have HOK : Hid (OkV (out ++ [v1]) (GType.pres xs ++ l)) := by have := OkV.step _ _ _ HO.out; rw [varStep_yes hz] at this; exact this
       rw [hlen] at hrun hnb ⊢
       clear hlen hacc
       generalize out ++ [v1] = o1 at *
       have HJ : Hid (∃ arr, OB wb w.heap.size 27 arr ∧ arr[2]? = some (.slice a xs.length c)) := ⟨_, hbx, rfl⟩
       have HRUN := Lib.hid hrun
       have HNB := Lib.hid hnb
       have hc2 := hbx.cell 2
       clear hrun hbx hnb hz h2 HACC HGB HGG hne hgl)
    | (rename_i h1 h2 K1 hK1 K2 hK2; subst h1
       have hz : hasS out v1 = true := by simpa using h2
       have hrun : AccRun 9 base 1 w (.slice va out.length vc) (w.alloc (.cells #[.int .i64 1, .string v1, .slice a xs.length c] 27)) (strTrs out) (.slice va out.length vc) := (AccRun.refl HA.out).ext (.alloc (.refl w) _)
       have hnb : (Value.slice va out.length vc).ownBlock ≠ some w.heap.size := fun h => by have := (HA.out.blk h).2; omega
       have HF : Hid ((GType.pre (.mk 1 v1 xs)).foldl varStep out = (GType.pres xs).foldl varStep out) := by show _ = _; rw [GType.pre, List.foldl_cons, varStep_no hz]
       have HOK : Hid (OkV out (GType.pres xs ++ l)) := by have := OkV.step _ _ _ HO.out; rw [varStep_no hz] at this; exact this
       have HJ : Hid (∃ arr, OB (w.alloc (.cells #[.int .i64 1, .string v1, .slice a xs.length c] 27)) w.heap.size 27 arr ∧ arr[2]? = some (.slice a xs.length c)) := ⟨_, OB.new w _ _, rfl⟩
       have HRUN := Lib.hid hrun
       have HNB := Lib.hid hnb
       clear hrun hnb hz h2)
    | (rename_i h1 K1 hK1 K2 hK2
       have hrun : AccRun 9 base 1 w (.slice va out.length vc) (w.alloc (.cells #[.int .i64 v0, .string v1, .slice a xs.length c] 27)) (strTrs out) (.slice va out.length vc) := (AccRun.refl HA.out).ext (.alloc (.refl w) _)
       have hnb : (Value.slice va out.length vc).ownBlock ≠ some w.heap.size := fun h => by have := (HA.out.blk h).2; omega
       have HF : Hid ((GType.pre (.mk v0 v1 xs)).foldl varStep out = (GType.pres xs).foldl varStep out) := by show _ = _; rw [GType.pre, List.foldl_cons, varStep_kind h1]
       have HOK : Hid (OkV out (GType.pres xs ++ l)) := by have := OkV.step _ _ _ HO.out; rw [varStep_kind h1] at this; exact this
       have HJ : Hid (∃ arr, OB (w.alloc (.cells #[.int .i64 v0, .string v1, .slice a xs.length c] 27)) w.heap.size 27 arr ∧ arr[2]? = some (.slice a xs.length c)) := ⟨_, OB.new w _ _, rfl⟩
       have HRUN := Lib.hid hrun
       have HNB := Lib.hid hnb
       clear hrun hnb h1)
  all_goals
    have HVB : Hid (∀ b, (Value.slice va out.length vc).ownBlock = some b → w0.heap.size ≤ b) := fun b hb => by have := (HA.out.blk hb).1; omega
    go_wp2_with fail
    go_loopw [1, 5] (fun v i wr => ∃ (k : Nat) (o : List ByteArray) (a' : Option Addr) (c' : Nat), k ≤ xs.length ∧ i = .int .i64 k ∧ v = .slice a' o.length c' ∧ Hid (AccRun 9 base 1 w (.slice va out.length vc) wr (strTrs o) (.slice a' o.length c')) ∧ Hid (∃ arr, OB wr w.heap.size 27 arr ∧ arr[2]? = some (.slice a xs.length c)) ∧ Hid ((Value.slice a' o.length c').ownBlock ≠ some w.heap.size) ∧ Hid ((GType.pres (xs.drop k)).foldl varStep o = (GType.pre (.mk _ v1 xs)).foldl varStep out) ∧ Hid (OkV o (GType.pres (xs.drop k) ++ l))) (fun _ i _ => xs.length - (intOf i).toNat)
    case atStart => exact ⟨0, _, _, _, Nat.zero_le _, rfl, rfl, HRUN.out, HJ.out, HNB.out, HF.out.symm, HOK.out⟩
    case round =>
      obtain ⟨k, o, a', c', hk, rfl, rfl, HR1, HJ1, HN1, HF1, HO1⟩ := hrel
      obtain ⟨arr, hob, harr⟩ := HJ1.out
      have hce := (hob.cell 2).trans harr
      have HOB := Lib.hid hob
      have hwr : Ext w0 wr := HR1.out.old HW.out HVB.out
      clear hob
      by_cases hlt : k < xs.length
      · obtain ⟨b, off, cs, rfl, hb, hcs, hc⟩ := HS.out.at2 (k := k) (GType.trs_get hlt)
        have HM := Lib.hid (List.getElem_mem hlt)
        have HCS := Lib.hid hcs
        have HC := Lib.hid (cells_ext hwr hb hc)
        have HI : Hid ((Try.prog.info? 27).map (·.size) = some cs.length) := by rw [← hcs.length, GType.tr_len]; exact isz27
        have HCL : Hid (cs.length = 3) := by rw [← hcs.length, GType.tr_len]; rfl
        clear hcs hc
        have HPS := Lib.hid (GType.pres_step hlt)
        have HWR := Lib.hid hwr
        obtain ⟨U1, hu1⟩ := HR1.out.acc
        have HU1 := Lib.hid hu1
        clear hwr hu1
        go_wp2_with (refine wpList_load_rep rfl 27 (.tmp 31) rfl b (off + k * 3) rfl cs _ Try.underlying27 HI.out HC.out ?_)
        refine (IH.out _ HM.out o _ U1 (GType.pres (xs.drop (k + 1)) ++ l) cs wr HCS.out HWR.out HU1.out (Nat.le_trans hbw HR1.out.chg.size) (by have := HO1.out; rw [HPS.out, List.append_assoc] at this; exact this)).mono ?_; rintro e w1 ⟨v', rfl, hrun', hok'⟩
        obtain ⟨hob', hnb'⟩ := hrun'.ob HOB.out HN1.out
        obtain ⟨U2, hu2⟩ := hrun'.acc
        obtain ⟨a2, c2, rfl, -, -⟩ := hu2.shape
        have HR2 := Lib.hid (HR1.out.trans hrun')
        have HOB2 := Lib.hid hob'
        have HNB2 := Lib.hid hnb'
        have HOK2 := Lib.hid hok'
        clear hrun' hok' hob' hnb' hu2
        rw [strTrs_len] at *
        go_wp2_with fail
        go_roundw
        case rel => exact ⟨k + 1, _, _, _, by omega, by go_num, rfl, HR2.out, ⟨arr, HOB2.out, harr⟩, HNB2.out, by have := HF1.out; rw [HPS.out, List.foldl_append] at this; exact this, HOK2.out⟩
        case measure => simp [intOf]; omega
      · have hkl : k = xs.length := by omega
        go_wp2_with fail
        go_ret
        have h5 := HF1.out
        have h6 := HO1.out
        rw [hkl, List.drop_length] at h5 h6
        simp only [GType.pres, List.foldl_nil, List.nil_append] at h5 h6
        rw [← h5]
        exact ⟨_, rfl, HR1.out, h6⟩

set_option maxRecDepth 100000 in
set_option maxHeartbeats 1000000 in
theorem typeVars_spec (x : GType) (cs : List Value) (w : World) (hr : RepL w x.tr cs) (hsz : GType.size x ≤ 1099511627776) :
    Calls Try.prog 62 #[.agg ⟨cs⟩] w fun e w' => ∃ u, e = .returned u ∧ Ext w w' ∧ Own w' (.row 1 (strTrs x.vars)) u (Between w w') := by
  have HR := Lib.hid hr
  have HL : Hid (cs.length = 3) := by rw [← hr.length, GType.tr_len]; rfl
  have HI : Hid ((Try.prog.info? 27).map (·.size) = some cs.length) := by rw [HL.out]; exact isz27
  clear hr
  go_enter Try.func62, Try.ntmps62
  go_wp2_with (refine wpList_load_rep rfl 27 (.tmp 1) rfl w.heap.size 0 rfl cs _ Try.underlying27 HI.out (OB.cells0 (OB.new w _ _)) ?_)
  have hacc : Acc 9 w.heap.size 1 ((w.alloc (.cells ⟨cs⟩ 27)).alloc (.cells #[] 9)) (strTrs []) (.slice (some ⟨w.heap.size + 1, 0, none⟩) 0 0) (fun _ => False) := Acc.empty (by omega) (Two.new w 27 9 ⟨cs⟩ #[]).o1 (by unfold maxLen; omega) rfl
  have hok : OkV [] (x.pre ++ []) := by unfold OkV; rw [List.append_nil, GType.pre_length]; simpa using hsz
  refine (vars_spec w w.heap.size (Nat.le_refl _) x [] _ _ [] cs _ HR.out (.alloc (.alloc (.refl w) _) _) hacc (by simp only [World.size_alloc]; omega) hok).mono ?_; rintro e w1 ⟨v', rfl, hrun, -⟩
  obtain ⟨U, hu⟩ := hrun.acc
  obtain ⟨a2, c2, rfl, -, -⟩ := hu.shape
  have HX := Lib.hid (hrun.old (.alloc (.alloc (.refl w) _) _) (fun b hb => (hacc.blk hb).1))
  have HU := Lib.hid hu
  clear hrun hu hacc hok
  go_wp2_with fail
  go_ret
  exact ⟨_, rfl, HX.out, HU.out.wide.own⟩

end Go.Proofs.Ytmpepccpnnldoaa

namespace Go.Proofs.Ytmpepccpnnldoaa
open Go.RowKit Go.Proofs

def InvC (w0 : World) (Bv Bn : Nat) (v : ByteArray) (s : Nat) (S : Nat → Prop) (w : World) : Prop :=
  OB w Bn 3 #[.int .i64 (s : Int)] ∧ OB w Bv 9 #[.string v] ∧ (S = fun b => b = Bn ∨ b = Bv) ∧ w0.heap.size ≤ Bn ∧ w0.heap.size ≤ Bv ∧ Bn ≠ Bv
theorem InvC.ok (w0 : World) (Bv Bn : Nat) (v : ByteArray) : InvOk w0 (InvC w0 Bv Bn v) where
  ext := fun _ _ _ _ h hx => ⟨h.1.ext hx, h.2.1.ext hx, h.2.2⟩
  lt := fun _ _ _ b h hb => by
    obtain ⟨h1, h2, rfl, -⟩ := h
    rcases hb with rfl | rfl
    · exact h1.lt
    · exact h2.lt
  ge := fun _ _ _ b h hb => by
    obtain ⟨-, -, rfl, h3, h4, -⟩ := h
    rcases hb with rfl | rfl <;> assumption
def OkC (n : Nat) (l : List GType) : Prop := n + l.length ≤ 1099511627777

set_option maxRecDepth 100000 in
set_option maxHeartbeats 1000000 in
theorem count_step (w0 : World) (Bv Bn : Nat) (v : ByteArray) : StepC 97 #[.pointer (some ⟨Bv, 0, none⟩), .pointer (some ⟨Bn, 0, none⟩)] w0 (InvC w0 Bv Bn v) (countStep v) OkC := by
  intro x s S l cs w hr hw hi ho
  obtain ⟨k, n, xs⟩ := x
  obtain ⟨a, c, rfl, -, -, -⟩ := GType.opened hr
  obtain ⟨h1, h2, rfl, h3, h4, h5⟩ := hi
  have hs : s ≤ 1099511627777 := by unfold OkC at ho; omega
  have H1 := Lib.hid h1
  have H2 := Lib.hid h2
  simp only [List.cons_append, List.nil_append] at *
  have c1 := h1.cell 0
  have c2 := h2.cell 0
  have l1 := h1.lt
  have l2 := h2.lt
  clear hr hw ho h1 h2
  go_enter Try.func97, Try.ntmps97
  go_wp2_with (refine wpList_store_cell rfl 3 (.tmp 2) (.tmp 14) rfl Bn 0 rfl (.int .i64 ((s : Int) + 1)) rfl rfl 3 _ (H1.out.ext (.alloc (.refl w) _)) isz3 (by simp) rfl ?_; intro wb hob hgb hzb; have HOB := Lib.hid hob; have HGB := Lib.hid hgb; clear hob hgb hzb)
  · rename_i hk hh
    have hz : n = v := bytes_inj (by simpa using hh)
    go_end0
    have hob := HOB.out
    rw [splice_whole (by rfl)] at hob
    have hc : countStep v s (GType.mk 1 n xs) = s + 1 := by simp [countStep, hz]
    refine ⟨⟨_, rfl⟩, (fun b => b = Bn ∨ b = Bv), ⟨?_, (H2.out.ext (.alloc (.refl w) _)).grown HGB.out (Ne.symm h5), rfl, h3, h4, h5⟩, (Chg.of_ext (.alloc (.refl w) _)).trans (Chg.of_grown HGB.out (.inl rfl)), fun b h => .inl h⟩
    rw [hc]
    simpa using hob
  · rename_i hk hh
    have hz : ¬ n = v := fun h => by simp [h] at hh
    go_end0
    have hc : countStep v s (GType.mk k n xs) = s := by simp [countStep, hz]
    refine ⟨⟨_, rfl⟩, (fun b => b = Bn ∨ b = Bv), ⟨?_, H2.out.ext (.alloc (.refl w) _), rfl, h3, h4, h5⟩, Chg.of_ext (.alloc (.refl w) _), fun b h => .inl h⟩
    rw [hc]
    exact H1.out.ext (.alloc (.refl w) _)
  · rename_i hk
    go_end0
    have hc : countStep v s (GType.mk k n xs) = s := by simp [countStep, hk]
    refine ⟨⟨_, rfl⟩, (fun b => b = Bn ∨ b = Bv), ⟨?_, H2.out.ext (.alloc (.refl w) _), rfl, h3, h4, h5⟩, Chg.of_ext (.alloc (.refl w) _), fun b h => .inl h⟩
    rw [hc]
    exact H1.out.ext (.alloc (.refl w) _)

set_option maxRecDepth 100000 in
set_option maxHeartbeats 1000000 in
theorem typeCount_impl (v : ByteArray) (x : GType) (cs : List Value) (w : World) (hr : RepL w x.tr cs) (hsz : GType.size x ≤ 1099511627776) :
    Calls Try.prog 61 #[.agg ⟨cs⟩, .string v] w fun e w' => e = .returned (.int .i64 (GType.count v x)) ∧ Ext w w' := by
  have HR := Lib.hid hr
  have HL : Hid (cs.length = 3) := by rw [← hr.length, GType.tr_len]; rfl
  have HI : Hid ((Try.prog.info? 27).map (·.size) = some cs.length) := by rw [HL.out]; exact isz27
  clear hr
  go_enter Try.func61, Try.ntmps61
  go_wp2_with (refine wpList_load_rep rfl 27 (.tmp 2) rfl w.heap.size 0 rfl cs _ Try.underlying27 HI.out (OB.cells0 (((OB.new w _ _).ext (.alloc (.refl _) _)).ext (.alloc (.refl _) _))) ?_)
  have hx : Ext w (((w.alloc (Obj.cells ⟨cs⟩ 27)).alloc (Obj.cells #[.string v] 9)).alloc (Obj.cells #[.int .i64 0] 3)) := .alloc (.alloc (.alloc (.refl _) _) _) _
  have h3 := Three.new w 27 9 3 ⟨cs⟩ #[.string v] #[.int .i64 0]
  have hok : ∀ s (y : GType) l, OkC s (y :: l) → OkC (countStep v s y) l := by
    intro s y l h
    unfold OkC countStep at *
    rw [List.length_cons] at h
    split <;> omega
  have hok0 : OkC 0 (x.pre ++ []) := by
    unfold OkC
    rw [List.append_nil, GType.pre_length]
    omega
  refine (eachType_of 97 _ (run_callFunc_body Try.func97 (by kernel_rfl) (by kernel_rfl)) w (InvC w (w.heap.size + 1) (w.heap.size + 1 + 1) v) (countStep v) OkC (InvC.ok _ _ _ _) hok (count_step _ _ _ _) x 0 _ [] cs _ HR.out hx ⟨h3.o2, h3.o1, rfl, by omega, by omega, by omega⟩ hok0).mono ?_; rintro e w1 ⟨⟨r, rfl⟩, ⟨S', hi, hc, -⟩, -⟩
  have hce := hi.1.cell 0
  have HX := Lib.hid (hx.chg hc (by rintro b (rfl | rfl) <;> omega))
  have hcnt : (x.pre).foldl (countStep v) 0 = GType.count v x := rfl
  rw [hcnt] at hce
  clear hi hc h3 hx hok hok0 hcnt
  go_wp2_with fail
  go_ret
  exact ⟨rfl, HX.out⟩
end Go.Proofs.Ytmpepccpnnldoaa

namespace Go.Proofs.Ytmpepccpnnldoaa
open Go.RowKit Go.Proofs

theorem all_drop_step {α : Type} {p : α → Bool} {l : List α} {k : Nat} (h : k < l.length) : (l.drop k).all p = (p l[k] && (l.drop (k + 1)).all p) := by rw [List.drop_eq_getElem_cons h, List.all_cons]

set_option maxRecDepth 100000 in
set_option maxHeartbeats 1000000 in
theorem smaller_impl (x : GBound) (y : GType) (cs ds : List Value) (w : World) (hr : RepL w x.tr cs) (hr' : RepL w y.tr ds) (hsz : GType.size x.gType ≤ 1099511627776) (hsz' : GType.size y ≤ 1099511627776) :
    Calls Try.prog 27 #[.agg ⟨cs⟩, .agg ⟨ds⟩] w fun e w' => e = .returned (.bool (GBound.smaller x y)) ∧ Ext w w' := by
  obtain ⟨bt, b⟩ := x
  obtain ⟨xs, rfl, -, ht⟩ := GBound.opened hr
  simp only [GBound.gType_mk] at hsz
  have HT := Lib.hid ht
  have HY := Lib.hid hr'
  have HL : Hid (xs.length = 3) := by rw [← ht.length, GType.tr_len]; rfl
  have HL' : Hid (ds.length = 3) := by rw [← hr'.length, GType.tr_len]; rfl
  have HI : Hid ((Try.prog.info? 27).map (·.size) = some xs.length) := by rw [HL.out]; exact isz27
  have HI' : Hid ((Try.prog.info? 27).map (·.size) = some ds.length) := by rw [HL'.out]; exact isz27
  clear hr hr' ht
  simp only [List.append_nil, List.cons_append, List.nil_append]
  have h2 := Two.new w 41 27 ⟨(.string bt) :: xs⟩ ⟨ds⟩
  have hc1 : ∀ W, Ext ((w.alloc (.cells ⟨(.string bt) :: xs⟩ 41)).alloc (.cells ⟨ds⟩ 27)) W → ∀ (j : Nat) (v : Value), xs[j]? = some v → W.cell? ⟨w.heap.size, 1 + j, none⟩ = some v := by
    intro W hW j v hv
    rw [(h2.o0.ext hW).cell]
    rw [Nat.add_comm 1 j]
    simpa using hv
  have hc2 : ∀ W, Ext ((w.alloc (.cells ⟨(.string bt) :: xs⟩ 41)).alloc (.cells ⟨ds⟩ 27)) W → ∀ (j : Nat) (v : Value), ds[j]? = some v → W.cell? ⟨w.heap.size + 1, 0 + j, none⟩ = some v := fun W hW => (h2.o1.ext hW).cells0
  have HC1 := Lib.hid hc1
  have HC2 := Lib.hid hc2
  clear h2 hc1 hc2
  go_enter Try.func27, Try.ntmps27
  go_wp2_with (refine wpList_load_rep rfl 27 (.tmp 7) rfl w.heap.size 1 rfl xs _ Try.underlying27 HI.out (HC1.out _ (.refl _)) ?_)
  refine (typeVars_impl b xs _ (HT.out.ext (.alloc (.alloc (.refl _) _) _)) hsz).mono ?_; rintro e w1 ⟨u, rfl, hw1, ho⟩
  have HW1 := Lib.hid hw1
  have HO := Lib.hid ho.rep
  obtain ⟨ua, uc, rfl, huc, hum⟩ := ho.rep.shape
  rw [strTrs_len] at *
  unfold maxLen at hum
  have hs : GBound.smaller (.mk bt b) y = (b.vars.all (fun v => decide (GType.count v b ≤ GType.count v y)) && decide (GType.size b < GType.size y)) := rfl
  have HSM := Lib.hid hs
  clear hw1 ho hs
  generalize b.vars = vs at *
  go_wp2_with fail
  go_loopw [11] (fun i wr => ∃ k : Nat, k ≤ vs.length ∧ i = .int .i64 k ∧ Ext w1 wr ∧ Hid (GBound.smaller (.mk bt b) y = ((vs.drop k).all (fun v => decide (GType.count v b ≤ GType.count v y)) && decide (GType.size b < GType.size y)))) (fun i _ => vs.length - (intOf i).toNat)
  case atStart => exact ⟨0, Nat.zero_le _, rfl, .refl _, HSM.out⟩
  case round =>
    obtain ⟨k, hk, rfl, hw, HE⟩ := hrel
    have HWR := Lib.hid (HW1.out.trans hw)
    have HW0 : Hid (Ext w wr) := Ext.trans (.alloc (.alloc (.refl _) _) _) HWR.out
    by_cases hlt : k < vs.length
    · obtain ⟨b', off', rfl, hb', -, hcell⟩ := (HO.out.ext hw).str hlt
      have HST := Lib.hid (all_drop_step (p := fun v => decide (GType.count v b ≤ GType.count v y)) hlt)
      have hki : k < vs.length := hlt
      generalize vs[k] = z at *
      go_wp2_with fail
      refine wp_region_held_drew (S := Ext wr) (by kernel_rfl) ?_ (fun hHeld => ?_)
      · exact .drew (.refl _)
      refine wpAnyH_take (i := 0) rfl (by kernel_rfl) (by kernel_rfl) (by kernel_rfl) (fun _ _ _ h => h) (.inl ⟨rfl, fun _ _ => rfl⟩) (by assumption) ?_
      simp only [Act.put, List.getElem_toArray, List.getElem_cons_zero, List.setIfInBounds_toArray, List.set_cons_zero, List.set_cons_succ]
      refine wpAnyH_load_rep (i := 1) rfl (by kernel_rfl) (by kernel_rfl) (by kernel_rfl) (fun _ _ _ h => h) rfl 27 (.tmp 15) rfl (w.heap.size) (1) rfl xs _ Try.underlying27 HI.out (fun W hW => HC1.out W (HWR.out.trans hW)) (by assumption) (fun _ _ _ _ h => h) ?_
      simp only [Act.put, List.getElem_toArray, List.getElem_cons_zero, List.getElem_cons_succ, List.setIfInBounds_toArray, List.set_cons_zero, List.set_cons_succ]
      refine wpAnyH_take (i := 2) rfl (by kernel_rfl) (by kernel_rfl) (by kernel_rfl) (fun _ _ _ h => h) (.inl ⟨rfl, fun _ _ => rfl⟩) (by assumption) ?_
      simp only [Act.put, List.getElem_toArray, List.getElem_cons_zero, List.getElem_cons_succ, List.setIfInBounds_toArray, List.set_cons_zero, List.set_cons_succ]
      refine wpAnyH_load_rep (i := 4) rfl (by kernel_rfl) (by kernel_rfl) (by kernel_rfl) (fun _ _ _ h => h) rfl 27 (.tmp 3) rfl (w.heap.size + 1) (0) rfl ds _ Try.underlying27 HI'.out (fun W hW => HC2.out W (HWR.out.trans hW)) (by assumption) (fun _ _ _ _ h => h) ?_
      simp only [Act.put, List.getElem_toArray, List.getElem_cons_zero, List.getElem_cons_succ, List.setIfInBounds_toArray, List.set_cons_zero, List.set_cons_succ]
      refine wpAnyH_take (i := 5) rfl (by kernel_rfl) (by kernel_rfl) (by kernel_rfl) (fun _ _ _ h => h) (.inl ⟨rfl, fun _ _ => rfl⟩) (by assumption) ?_
      simp only [Act.put, List.getElem_toArray, List.getElem_cons_zero, List.getElem_cons_succ, List.setIfInBounds_toArray, List.set_cons_zero, List.set_cons_succ]
      refine wpAnyH_call (i := 3) (by kernel_rfl) rfl rfl (run_call_func rfl rfl #[.agg ⟨xs⟩, .string z] (by simp only [List.map_toArray, List.map_cons, List.map_nil, Act.eval]; rfl) Try.func61 (by kernel_rfl) (by kernel_rfl) _) (typeCount_impl z b xs _ (HT.out.ext (HW0.out.trans hHeld)) hsz) ?_; rintro e w2 ⟨rfl, hw2⟩
      have hs1 := Ext.trans hHeld hw2
      refine ⟨_, rfl, hs1, ?_⟩
      simp only [Act.put, List.getElem_toArray, List.getElem_cons_zero, List.getElem_cons_succ, List.setIfInBounds_toArray, List.set_cons_zero, List.set_cons_succ]
      refine wpAnyH_call (i := 6) (by kernel_rfl) rfl rfl (run_call_func rfl rfl #[.agg ⟨ds⟩, .string z] (by simp only [List.map_toArray, List.map_cons, List.map_nil, Act.eval]; rfl) Try.func61 (by kernel_rfl) (by kernel_rfl) _) (typeCount_impl z y ds _ (HY.out.ext (HW0.out.trans hs1)) hsz') ?_; rintro e w3 ⟨rfl, hw3⟩
      have hs2 := Ext.trans hs1 hw3
      refine ⟨_, rfl, hs2, ?_⟩
      simp only [Act.put, List.getElem_toArray, List.getElem_cons_zero, List.getElem_cons_succ, List.setIfInBounds_toArray, List.set_cons_zero, List.set_cons_succ]
      refine wpAnyH_take (i := 7) rfl (by kernel_rfl) (by kernel_rfl) (by kernel_rfl) (fun _ _ _ h => h) (.inl ⟨rfl, fun _ _ => rfl⟩) (by assumption) ?_
      simp only [Act.put, List.getElem_toArray, List.getElem_cons_zero, List.getElem_cons_succ, List.setIfInBounds_toArray, List.set_cons_zero, List.set_cons_succ]
      refine wpAnyH_done (by kernel_rfl) ?_ _
      clear hHeld hs1
      have HW3 := Lib.hid (hw.trans hs2)
      clear hs2 hw3 hw2
      by_cases hcnt : GType.count z b ≤ GType.count z y
      · have hd : ¬ ((GType.count z y : Int) < (GType.count z b : Int)) := by omega
        have HD : Hid (decide (GType.count z b ≤ GType.count z y) = true) := by show _ = _; simpa using hcnt
        generalize GType.count z y = q1 at *
        generalize GType.count z b = q2 at *
        clear hcnt
        go_wp2_with fail
        go_roundw
        case rel => exact ⟨k + 1, by omega, by go_num, HW3.out, by show _ = _; rw [HE.out, HST.out, HD.out]; rfl⟩
        case measure => simp [intOf]; omega
      · have hd : (GType.count z y : Int) < (GType.count z b : Int) := by omega
        have HD : Hid (decide (GType.count z b ≤ GType.count z y) = false) := by show _ = _; simpa using hcnt
        generalize GType.count z y = q1 at *
        generalize GType.count z b = q2 at *
        clear hcnt
        go_wp2_with fail
        go_ret
        exact ⟨ret_bool (by rw [HE.out, HST.out, HD.out]; rfl), .trans (.alloc (.alloc (.refl _) _) _) (HW1.out.trans HW3.out)⟩
    · have hkl : k = vs.length := by omega
      go_wp2_with fail
      refine wp_region_held_drew (S := Ext wr) (by kernel_rfl) ?_ (fun hHeld => ?_)
      · exact .drew (.refl _)
      refine wpAnyH_take (i := 0) rfl (by kernel_rfl) (by kernel_rfl) (by kernel_rfl) (fun _ _ _ h => h) (.inl ⟨rfl, fun _ _ => rfl⟩) (by assumption) ?_
      simp only [Act.put, List.getElem_toArray, List.getElem_cons_zero, List.setIfInBounds_toArray, List.set_cons_zero, List.set_cons_succ]
      refine wpAnyH_load_rep (i := 1) rfl (by kernel_rfl) (by kernel_rfl) (by kernel_rfl) (fun _ _ _ h => h) rfl 27 (.tmp 24) rfl (w.heap.size) (1) rfl xs _ Try.underlying27 HI.out (fun W hW => HC1.out W (HWR.out.trans hW)) (by assumption) (fun _ _ _ _ h => h) ?_
      simp only [Act.put, List.getElem_toArray, List.getElem_cons_zero, List.getElem_cons_succ, List.setIfInBounds_toArray, List.set_cons_zero, List.set_cons_succ]
      refine wpAnyH_load_rep (i := 3) rfl (by kernel_rfl) (by kernel_rfl) (by kernel_rfl) (fun _ _ _ h => h) rfl 27 (.tmp 3) rfl (w.heap.size + 1) (0) rfl ds _ Try.underlying27 HI'.out (fun W hW => HC2.out W (HWR.out.trans hW)) (by assumption) (fun _ _ _ _ h => h) ?_
      simp only [Act.put, List.getElem_toArray, List.getElem_cons_zero, List.getElem_cons_succ, List.setIfInBounds_toArray, List.set_cons_zero, List.set_cons_succ]
      refine wpAnyH_call (i := 2) (by kernel_rfl) rfl rfl (run_call_func rfl rfl #[.agg ⟨xs⟩] (by simp only [List.map_toArray, List.map_cons, List.map_nil, Act.eval]; rfl) Try.func12 (by kernel_rfl) (by kernel_rfl) _) (typeSize_impl b xs _ (HT.out.ext (HW0.out.trans hHeld)) hsz) ?_; rintro e w2 ⟨rfl, hw2⟩
      have hs1 := Ext.trans hHeld hw2
      refine ⟨_, rfl, hs1, ?_⟩
      simp only [Act.put, List.getElem_toArray, List.getElem_cons_zero, List.getElem_cons_succ, List.setIfInBounds_toArray, List.set_cons_zero, List.set_cons_succ]
      refine wpAnyH_call (i := 4) (by kernel_rfl) rfl rfl (run_call_func rfl rfl #[.agg ⟨ds⟩] (by simp only [List.map_toArray, List.map_cons, List.map_nil, Act.eval]; rfl) Try.func12 (by kernel_rfl) (by kernel_rfl) _) (typeSize_impl y ds _ (HY.out.ext (HW0.out.trans hs1)) hsz') ?_; rintro e w3 ⟨rfl, hw3⟩
      have hs2 := Ext.trans hs1 hw3
      refine ⟨_, rfl, hs2, ?_⟩
      simp only [Act.put, List.getElem_toArray, List.getElem_cons_zero, List.getElem_cons_succ, List.setIfInBounds_toArray, List.set_cons_zero, List.set_cons_succ]
      refine wpAnyH_take (i := 5) rfl (by kernel_rfl) (by kernel_rfl) (by kernel_rfl) (fun _ _ _ h => h) (.inl ⟨rfl, fun _ _ => rfl⟩) (by assumption) ?_
      simp only [Act.put, List.getElem_toArray, List.getElem_cons_zero, List.getElem_cons_succ, List.setIfInBounds_toArray, List.set_cons_zero, List.set_cons_succ]
      refine wpAnyH_take (i := 6) rfl (by kernel_rfl) (by kernel_rfl) (by kernel_rfl) (fun _ _ _ h => h) (.inl ⟨rfl, fun _ _ => rfl⟩) (by assumption) ?_
      simp only [Act.put, List.getElem_toArray, List.getElem_cons_zero, List.getElem_cons_succ, List.setIfInBounds_toArray, List.set_cons_zero, List.set_cons_succ]
      refine wpAnyH_done (by kernel_rfl) ?_ _
      clear hHeld hs1
      have HW3 := Lib.hid (hw.trans hs2)
      clear hs2 hw3 hw2
      go_wp2_with fail
      go_ret
      refine ⟨ret_bool ?_, .trans (.alloc (.alloc (.refl _) _) _) (HW1.out.trans HW3.out)⟩
      rw [HE.out, hkl, List.drop_length]
      simp

set_option maxRecDepth 100000 in
set_option maxHeartbeats 1000000 in
theorem smaller_spec (x : GBound) (y : GType) (cs ds : List Value) (w : World) (hr : RepL w x.tr cs) (hr' : RepL w y.tr ds) (hsz : GType.size x.gType ≤ 1099511627776) (hsz' : GType.size y ≤ 1099511627776) :
    Calls Try.prog 28 #[.agg ⟨cs⟩, .agg ⟨ds⟩] w fun e w' => e = .returned (.bool (GBound.smaller x y)) ∧ Ext w w' := by
  obtain ⟨bt, b⟩ := x
  obtain ⟨xs, rfl, -, ht⟩ := GBound.opened hr
  simp only [GBound.gType_mk] at hsz
  have HT := Lib.hid ht
  have HY := Lib.hid hr'
  have HL : Hid (xs.length = 3) := by rw [← ht.length, GType.tr_len]; rfl
  have HL' : Hid (ds.length = 3) := by rw [← hr'.length, GType.tr_len]; rfl
  have HI : Hid ((Try.prog.info? 27).map (·.size) = some xs.length) := by rw [HL.out]; exact isz27
  have HI' : Hid ((Try.prog.info? 27).map (·.size) = some ds.length) := by rw [HL'.out]; exact isz27
  clear hr hr' ht
  simp only [List.append_nil, List.cons_append, List.nil_append]
  have h2 := Two.new w 41 27 ⟨(.string bt) :: xs⟩ ⟨ds⟩
  have hc1 : ∀ W, Ext ((w.alloc (.cells ⟨(.string bt) :: xs⟩ 41)).alloc (.cells ⟨ds⟩ 27)) W → ∀ (j : Nat) (v : Value), xs[j]? = some v → W.cell? ⟨w.heap.size, 1 + j, none⟩ = some v := by
    intro W hW j v hv
    rw [(h2.o0.ext hW).cell]
    rw [Nat.add_comm 1 j]
    simpa using hv
  have hc2 : ∀ W, Ext ((w.alloc (.cells ⟨(.string bt) :: xs⟩ 41)).alloc (.cells ⟨ds⟩ 27)) W → ∀ (j : Nat) (v : Value), ds[j]? = some v → W.cell? ⟨w.heap.size + 1, 0 + j, none⟩ = some v := fun W hW => (h2.o1.ext hW).cells0
  have HC1 := Lib.hid hc1
  have HC2 := Lib.hid hc2
  clear h2 hc1 hc2
  go_enter Try.func28, Try.ntmps28
  go_wp2_with (refine wpList_load_rep rfl 27 (.tmp 7) rfl w.heap.size 1 rfl xs _ Try.underlying27 HI.out (HC1.out _ (.refl _)) ?_)
  refine (typeVars_spec b xs _ (HT.out.ext (.alloc (.alloc (.refl _) _) _)) hsz).mono ?_; rintro e w1 ⟨u, rfl, hw1, ho⟩
  have HW1 := Lib.hid hw1
  have HO := Lib.hid ho.rep
  obtain ⟨ua, uc, rfl, huc, hum⟩ := ho.rep.shape
  rw [strTrs_len] at *
  unfold maxLen at hum
  have hs : GBound.smaller (.mk bt b) y = (b.vars.all (fun v => decide (GType.count v b ≤ GType.count v y)) && decide (GType.size b < GType.size y)) := rfl
  have HSM := Lib.hid hs
  clear hw1 ho hs
  generalize b.vars = vs at *
  go_wp2_with fail
  go_loopw [6] (fun i wr => ∃ k : Nat, k ≤ vs.length ∧ i = .int .i64 k ∧ Ext w1 wr ∧ Hid (GBound.smaller (.mk bt b) y = ((vs.drop k).all (fun v => decide (GType.count v b ≤ GType.count v y)) && decide (GType.size b < GType.size y)))) (fun i _ => vs.length - (intOf i).toNat)
  case atStart => exact ⟨0, Nat.zero_le _, rfl, .refl _, HSM.out⟩
  case round =>
    obtain ⟨k, hk, rfl, hw, HE⟩ := hrel
    have HWR := Lib.hid (HW1.out.trans hw)
    have HW0 : Hid (Ext w wr) := Ext.trans (.alloc (.alloc (.refl _) _) _) HWR.out
    by_cases hlt : k < vs.length
    · obtain ⟨b', off', rfl, hb', -, hcell⟩ := (HO.out.ext hw).str hlt
      have HST := Lib.hid (all_drop_step (p := fun v => decide (GType.count v b ≤ GType.count v y)) hlt)
      have hki : k < vs.length := hlt
      generalize vs[k] = z at *
      have HCELL : Hid (∀ W, Ext wr W → W.cell? ⟨b', off' + k * 1, none⟩ = some (.string z)) := fun W hW => by rw [Nat.mul_one]; exact (hW.cell (p := ⟨b', off' + k, none⟩) hb').trans hcell
      go_wp2_with fail
      refine wp_region_held_drew (S := Ext wr) (by kernel_rfl) ?_ (fun hHeld => ?_)
      · exact .drew (.refl _)
      refine wpAnyH_take (i := 0) rfl (by kernel_rfl) (by kernel_rfl) (by kernel_rfl) (fun _ _ _ h => h) (.inl ⟨rfl, fun _ _ => rfl⟩) (by assumption) ?_
      simp only [Act.put, List.getElem_toArray, List.getElem_cons_zero, List.setIfInBounds_toArray, List.set_cons_zero, List.set_cons_succ]
      refine wpAnyH_load_rep (i := 1) rfl (by kernel_rfl) (by kernel_rfl) (by kernel_rfl) (fun _ _ _ h => h) rfl 27 (.tmp 16) rfl (w.heap.size) (1) rfl xs _ Try.underlying27 HI.out (fun W hW => HC1.out W (HWR.out.trans hW)) (by assumption) (fun _ _ _ _ h => h) ?_
      simp only [Act.put, List.getElem_toArray, List.getElem_cons_zero, List.getElem_cons_succ, List.setIfInBounds_toArray, List.set_cons_zero, List.set_cons_succ]
      refine wpAnyH_take (i := 2) rfl (by kernel_rfl) (by kernel_rfl) (by kernel_rfl) (fun _ _ _ h => h) (.inl ⟨rfl, fun _ _ => rfl⟩) (by assumption) ?_
      simp only [Act.put, List.getElem_toArray, List.getElem_cons_zero, List.getElem_cons_succ, List.setIfInBounds_toArray, List.set_cons_zero, List.set_cons_succ]
      refine wpAnyH_take (i := 3) rfl (by kernel_rfl) (by kernel_rfl) (by kernel_rfl) (fun _ _ _ h => h) (.inl ⟨rfl, fun _ _ => rfl⟩) (by assumption) ?_
      simp only [Act.put, List.getElem_toArray, List.getElem_cons_zero, List.getElem_cons_succ, List.setIfInBounds_toArray, List.set_cons_zero, List.set_cons_succ]
      refine wpAnyH_index (i := 4) rfl (by kernel_rfl) (by kernel_rfl) (by kernel_rfl) rfl 24 (.tmp 18) (.tmp 19) rfl (b') (off') (vs.length) (uc) (k) (1) rfl rfl (hki) Try.underlying24 (by kernel_rfl) (by assumption) (fun _ _ _ _ h => h) ?_
      simp only [Act.put, List.getElem_toArray, List.getElem_cons_zero, List.getElem_cons_succ, List.setIfInBounds_toArray, List.set_cons_zero, List.set_cons_succ]
      refine wpAnyH_cell (i := 5) rfl (by kernel_rfl) (by kernel_rfl) (by kernel_rfl) rfl 9 (.tmp 20) rfl (b') (off' + k * 1) rfl (.string z) _ Try.underlying9 rfl (fun W hW => HCELL.out W hW) (by assumption) (fun _ _ _ _ h => h) ?_
      simp only [Act.put, List.getElem_toArray, List.getElem_cons_zero, List.getElem_cons_succ, List.setIfInBounds_toArray, List.set_cons_zero, List.set_cons_succ]
      refine wpAnyH_load_rep (i := 7) rfl (by kernel_rfl) (by kernel_rfl) (by kernel_rfl) (fun _ _ _ h => h) rfl 27 (.tmp 3) rfl (w.heap.size + 1) (0) rfl ds _ Try.underlying27 HI'.out (fun W hW => HC2.out W (HWR.out.trans hW)) (by assumption) (fun _ _ _ _ h => h) ?_
      simp only [Act.put, List.getElem_toArray, List.getElem_cons_zero, List.getElem_cons_succ, List.setIfInBounds_toArray, List.set_cons_zero, List.set_cons_succ]
      refine wpAnyH_take (i := 8) rfl (by kernel_rfl) (by kernel_rfl) (by kernel_rfl) (fun _ _ _ h => h) (.inl ⟨rfl, fun _ _ => rfl⟩) (by assumption) ?_
      simp only [Act.put, List.getElem_toArray, List.getElem_cons_zero, List.getElem_cons_succ, List.setIfInBounds_toArray, List.set_cons_zero, List.set_cons_succ]
      refine wpAnyH_take (i := 9) rfl (by kernel_rfl) (by kernel_rfl) (by kernel_rfl) (fun _ _ _ h => h) (.inl ⟨rfl, fun _ _ => rfl⟩) (by assumption) ?_
      simp only [Act.put, List.getElem_toArray, List.getElem_cons_zero, List.getElem_cons_succ, List.setIfInBounds_toArray, List.set_cons_zero, List.set_cons_succ]
      refine wpAnyH_index (i := 10) rfl (by kernel_rfl) (by kernel_rfl) (by kernel_rfl) rfl 24 (.tmp 24) (.tmp 25) rfl (b') (off') (vs.length) (uc) (k) (1) rfl rfl (hki) Try.underlying24 (by kernel_rfl) (by assumption) (fun _ _ _ _ h => h) ?_
      simp only [Act.put, List.getElem_toArray, List.getElem_cons_zero, List.getElem_cons_succ, List.setIfInBounds_toArray, List.set_cons_zero, List.set_cons_succ]
      refine wpAnyH_cell (i := 11) rfl (by kernel_rfl) (by kernel_rfl) (by kernel_rfl) rfl 9 (.tmp 26) rfl (b') (off' + k * 1) rfl (.string z) _ Try.underlying9 rfl (fun W hW => HCELL.out W hW) (by assumption) (fun _ _ _ _ h => h) ?_
      simp only [Act.put, List.getElem_toArray, List.getElem_cons_zero, List.getElem_cons_succ, List.setIfInBounds_toArray, List.set_cons_zero, List.set_cons_succ]
      refine wpAnyH_call (i := 6) (by kernel_rfl) rfl rfl (run_call_func rfl rfl #[.agg ⟨xs⟩, .string z] (by simp only [List.map_toArray, List.map_cons, List.map_nil, Act.eval]; rfl) Try.func63 (by kernel_rfl) (by kernel_rfl) _) (typeCount_spec z b xs _ (HT.out.ext (HW0.out.trans hHeld)) hsz) ?_; rintro e w2 ⟨rfl, hw2⟩
      have hs1 := Ext.trans hHeld hw2
      refine ⟨_, rfl, hs1, ?_⟩
      simp only [Act.put, List.getElem_toArray, List.getElem_cons_zero, List.getElem_cons_succ, List.setIfInBounds_toArray, List.set_cons_zero, List.set_cons_succ]
      refine wpAnyH_call (i := 12) (by kernel_rfl) rfl rfl (run_call_func rfl rfl #[.agg ⟨ds⟩, .string z] (by simp only [List.map_toArray, List.map_cons, List.map_nil, Act.eval]; rfl) Try.func63 (by kernel_rfl) (by kernel_rfl) _) (typeCount_spec z y ds _ (HY.out.ext (HW0.out.trans hs1)) hsz') ?_; rintro e w3 ⟨rfl, hw3⟩
      have hs2 := Ext.trans hs1 hw3
      refine ⟨_, rfl, hs2, ?_⟩
      simp only [Act.put, List.getElem_toArray, List.getElem_cons_zero, List.getElem_cons_succ, List.setIfInBounds_toArray, List.set_cons_zero, List.set_cons_succ]
      refine wpAnyH_take (i := 13) rfl (by kernel_rfl) (by kernel_rfl) (by kernel_rfl) (fun _ _ _ h => h) (.inl ⟨rfl, fun _ _ => rfl⟩) (by assumption) ?_
      simp only [Act.put, List.getElem_toArray, List.getElem_cons_zero, List.getElem_cons_succ, List.setIfInBounds_toArray, List.set_cons_zero, List.set_cons_succ]
      refine wpAnyH_done (by kernel_rfl) ?_ _
      clear hHeld hs1
      have HW3 := Lib.hid (hw.trans hs2)
      clear hs2 hw3 hw2
      by_cases hcnt : GType.count z b ≤ GType.count z y
      · have hd : ¬ ((GType.count z y : Int) < (GType.count z b : Int)) := by omega
        have HD : Hid (decide (GType.count z b ≤ GType.count z y) = true) := by show _ = _; simpa using hcnt
        generalize GType.count z y = q1 at *
        generalize GType.count z b = q2 at *
        clear hcnt
        go_wp2_with fail
        go_roundw
        case rel => exact ⟨k + 1, by omega, by go_num, HW3.out, by show _ = _; rw [HE.out, HST.out, HD.out]; rfl⟩
        case measure => simp [intOf]; omega
      · have hd : (GType.count z y : Int) < (GType.count z b : Int) := by omega
        have HD : Hid (decide (GType.count z b ≤ GType.count z y) = false) := by show _ = _; simpa using hcnt
        generalize GType.count z y = q1 at *
        generalize GType.count z b = q2 at *
        clear hcnt
        go_wp2_with fail
        go_ret
        exact ⟨ret_bool (by rw [HE.out, HST.out, HD.out]; rfl), .trans (.alloc (.alloc (.refl _) _) _) (HW1.out.trans HW3.out)⟩
    · have hkl : k = vs.length := by omega
      go_wp2_with fail
      refine wp_region_held_drew (S := Ext wr) (by kernel_rfl) ?_ (fun hHeld => ?_)
      · exact .drew (.refl _)
      refine wpAnyH_take (i := 0) rfl (by kernel_rfl) (by kernel_rfl) (by kernel_rfl) (fun _ _ _ h => h) (.inl ⟨rfl, fun _ _ => rfl⟩) (by assumption) ?_
      simp only [Act.put, List.getElem_toArray, List.getElem_cons_zero, List.setIfInBounds_toArray, List.set_cons_zero, List.set_cons_succ]
      refine wpAnyH_load_rep (i := 1) rfl (by kernel_rfl) (by kernel_rfl) (by kernel_rfl) (fun _ _ _ h => h) rfl 27 (.tmp 30) rfl (w.heap.size) (1) rfl xs _ Try.underlying27 HI.out (fun W hW => HC1.out W (HWR.out.trans hW)) (by assumption) (fun _ _ _ _ h => h) ?_
      simp only [Act.put, List.getElem_toArray, List.getElem_cons_zero, List.getElem_cons_succ, List.setIfInBounds_toArray, List.set_cons_zero, List.set_cons_succ]
      refine wpAnyH_load_rep (i := 3) rfl (by kernel_rfl) (by kernel_rfl) (by kernel_rfl) (fun _ _ _ h => h) rfl 27 (.tmp 3) rfl (w.heap.size + 1) (0) rfl ds _ Try.underlying27 HI'.out (fun W hW => HC2.out W (HWR.out.trans hW)) (by assumption) (fun _ _ _ _ h => h) ?_
      simp only [Act.put, List.getElem_toArray, List.getElem_cons_zero, List.getElem_cons_succ, List.setIfInBounds_toArray, List.set_cons_zero, List.set_cons_succ]
      refine wpAnyH_call (i := 2) (by kernel_rfl) rfl rfl (run_call_func rfl rfl #[.agg ⟨xs⟩] (by simp only [List.map_toArray, List.map_cons, List.map_nil, Act.eval]; rfl) Try.func64 (by kernel_rfl) (by kernel_rfl) _) (typeSize_spec b xs _ (HT.out.ext (HW0.out.trans hHeld)) hsz) ?_; rintro e w2 ⟨rfl, hw2⟩
      have hs1 := Ext.trans hHeld hw2
      refine ⟨_, rfl, hs1, ?_⟩
      simp only [Act.put, List.getElem_toArray, List.getElem_cons_zero, List.getElem_cons_succ, List.setIfInBounds_toArray, List.set_cons_zero, List.set_cons_succ]
      refine wpAnyH_call (i := 4) (by kernel_rfl) rfl rfl (run_call_func rfl rfl #[.agg ⟨ds⟩] (by simp only [List.map_toArray, List.map_cons, List.map_nil, Act.eval]; rfl) Try.func64 (by kernel_rfl) (by kernel_rfl) _) (typeSize_spec y ds _ (HY.out.ext (HW0.out.trans hs1)) hsz') ?_; rintro e w3 ⟨rfl, hw3⟩
      have hs2 := Ext.trans hs1 hw3
      refine ⟨_, rfl, hs2, ?_⟩
      simp only [Act.put, List.getElem_toArray, List.getElem_cons_zero, List.getElem_cons_succ, List.setIfInBounds_toArray, List.set_cons_zero, List.set_cons_succ]
      refine wpAnyH_take (i := 5) rfl (by kernel_rfl) (by kernel_rfl) (by kernel_rfl) (fun _ _ _ h => h) (.inl ⟨rfl, fun _ _ => rfl⟩) (by assumption) ?_
      simp only [Act.put, List.getElem_toArray, List.getElem_cons_zero, List.getElem_cons_succ, List.setIfInBounds_toArray, List.set_cons_zero, List.set_cons_succ]
      refine wpAnyH_take (i := 6) rfl (by kernel_rfl) (by kernel_rfl) (by kernel_rfl) (fun _ _ _ h => h) (.inl ⟨rfl, fun _ _ => rfl⟩) (by assumption) ?_
      simp only [Act.put, List.getElem_toArray, List.getElem_cons_zero, List.getElem_cons_succ, List.setIfInBounds_toArray, List.set_cons_zero, List.set_cons_succ]
      refine wpAnyH_done (by kernel_rfl) ?_ _
      clear hHeld hs1
      have HW3 := Lib.hid (hw.trans hs2)
      clear hs2 hw3 hw2
      go_wp2_with fail
      go_ret
      refine ⟨ret_bool ?_, .trans (.alloc (.alloc (.refl _) _) _) (HW1.out.trans HW3.out)⟩
      rw [HE.out, hkl, List.drop_length]
      simp

end Go.Proofs.Ytmpepccpnnldoaa

namespace Go.Proofs.Ytmpepccpnnldoaa
open Go.RowKit Go.Proofs

/-- A part of a block that is known whole. -/
theorem OB.part {w : World} {B : Nat} {T : TypeId} {pre cs post : List Value} (h : OB w B T ⟨pre ++ (cs ++ post)⟩) : ∀ (j : Nat) (v : Value), cs[j]? = some v → w.cell? ⟨B, pre.length + j, none⟩ = some v := by
  intro j v hv
  rw [h.cell]
  have hj : j < cs.length := (List.getElem?_eq_some_iff.1 hv).1
  change (List.toArray (pre ++ (cs ++ post)))[pre.length + j]? = some v
  rw [List.getElem?_toArray, List.getElem?_append_right (by omega), Nat.add_sub_cancel_left, List.getElem?_append_left hj, hv]

end Go.Proofs.Ytmpepccpnnldoaa

namespace Go.Proofs.Ytmpepccpnnldoaa
open Go.RowKit Go.Proofs

def GInstance.term (x : GInstance) : Bool := x.gWhere.all (fun b => GBound.smaller b x.gHead)
def GInstance.small (x : GInstance) : Prop := GType.size x.gHead ≤ 1099511627776 ∧ ∀ b ∈ x.gWhere, GType.size b.gType ≤ 1099511627776
theorem not_any_not {α : Type} (p : α → Bool) (l : List α) : (!(l.any fun x => !p x)) = l.all p := by
  induction l with
  | nil => rfl
  | cons a l ih => simp [List.any_cons, List.all_cons, ← ih]

set_option maxRecDepth 100000 in
set_option maxHeartbeats 1000000 in
theorem term_c (y : GType) (pre ys post : List Value) (B : Nat) (x : GBound) (cs : List Value) (w : World) (hpre : pre.length = 2) (hr : RepL w x.tr cs) (hB : OB w B 31 ⟨pre ++ (ys ++ post)⟩) (hg : RepL w y.tr ys)
    (hs : GType.size x.gType ≤ 1099511627776) (hs' : GType.size y ≤ 1099511627776) :
    Calls Try.prog 26 (#[.agg ⟨cs⟩] ++ #[.pointer (some ⟨B, 0, none⟩)]) w fun e w' => e = .returned (.bool (!GBound.smaller x y)) ∧ Ext w w' := by
  have HR := Lib.hid hr
  have HG := Lib.hid hg
  have HI : Hid ((Try.prog.info? 41).map (·.size) = some cs.length) := by rw [← hr.length, GBound.tr_len]; exact isz41
  have HI' : Hid ((Try.prog.info? 27).map (·.size) = some ys.length) := by rw [← hg.length, GType.tr_len]; exact isz27
  have HP : Hid (∀ (j : Nat) (v : Value), ys[j]? = some v → (w.alloc (.cells ⟨cs⟩ 41)).cell? ⟨B, 2 + j, none⟩ = some v) := by
    have := OB.part (hB.ext (.alloc (.refl w) (.cells ⟨cs⟩ 41)))
    rw [hpre] at this
    exact this
  clear hr hg hB
  go_enter Try.func26, Try.ntmps26
  go_wp2_with (first
    | (refine wpList_load_rep rfl 41 (.tmp 2) rfl w.heap.size 0 rfl cs _ Try.underlying41 HI.out (OB.cells0 (OB.new w _ _)) ?_)
    | (refine wpList_load_rep rfl 27 (.tmp 5) rfl B 2 rfl ys _ Try.underlying27 HI'.out HP.out ?_))
  refine (smaller_impl x y _ _ _ (HR.out.ext (.alloc (.refl _) _)) (HG.out.ext (.alloc (.refl _) _)) hs hs').mono ?_; rintro e w1 ⟨rfl, hw1⟩
  have HW1 := Lib.hid hw1
  clear hw1
  go_wp2_with fail
  go_ret
  exact ⟨rfl, .trans (.alloc (.refl _) _) HW1.out⟩

set_option maxRecDepth 100000 in
set_option maxHeartbeats 1000000 in
theorem term_impl (x : GInstance) (cs : List Value) (w : World) (hr : RepL w x.tr cs) (hs : x.small) :
    Calls Try.prog 8 #[.agg ⟨cs⟩] w fun e w' => e = .returned (.bool x.term) ∧ Ext w w' := by
  obtain ⟨v0, v1, v2, v3, v4, v5, v6, v7⟩ := x
  obtain ⟨a1, c1, x2, a3, c3, x6, a7, c7, rfl, -, -, h2, h3, -, -, h6, -⟩ := GInstance.opened hr
  obtain ⟨p0, p1, p2, rfl⟩ := list3 (h2.length.symm.trans (GType.tr_len v2))
  obtain ⟨q0, q1, q2, rfl⟩ := list3 (h6.length.symm.trans (GType.tr_len v6))
  rw [GBound.trs_map] at h3
  have HT : Hid (GInstance.term (.mk v0 v1 v2 v3 v4 v5 v6 v7) = !(v3.any fun b => !GBound.smaller b v2)) := (not_any_not _ _).symm
  have HH := Lib.hid h2
  have HS := Lib.hid h3
  obtain ⟨hz1, hs2⟩ := hs
  have HS2 := Lib.hid hs2
  simp only [GInstance.gHead_mk, GInstance.gWhere_mk] at hz1 HS2
  clear hr h2 h3 h6 hs2
  simp only [List.cons_append, List.nil_append]
  go_enter Try.func8, Try.ntmps8
  go_wp2_with fail
  refine (containsFunc_25 GBound.tr (fun b => !GBound.smaller b v2) v3 26 #[.pointer (some ⟨w.heap.size, 0, none⟩)] (run_callFunc_body Try.func26 (by kernel_rfl) (by kernel_rfl)) GBound.tr_len _ _
    (fun x hx cs w' hw' hr => term_c v2 [.string v0, .slice a1 v1.length c1] [p0, p1, p2] [.slice a3 v3.length c3, .bool v4, .bool v5, q0, q1, q2, .slice a7 v7.length c7] w.heap.size x cs w' rfl hr ((OB.new w _ _).ext hw') (HH.out.ext (.trans (.alloc (.refl _) _) hw')) (HS2.out x hx) hz1) (HS.out.ext (.alloc (.refl _) _))).mono ?_
  rintro e w1 ⟨rfl, hw1⟩
  have HW1 := Lib.hid hw1
  clear hw1
  go_wp2_with fail
  go_ret
  exact ⟨ret_bool HT.out.symm, .trans (.alloc (.refl _) _) HW1.out⟩

set_option maxRecDepth 100000 in
set_option maxHeartbeats 1000000 in
theorem term_spec (x : GInstance) (cs : List Value) (w : World) (hr : RepL w x.tr cs) (hs : x.small) :
    Calls Try.prog 9 #[.agg ⟨cs⟩] w fun e w' => e = .returned (.bool x.term) ∧ Ext w w' := by
  obtain ⟨v0, v1, v2, xs, v4, v5, v6, v7⟩ := x
  obtain ⟨a1, c1, x2, a, c, x6, a7, c7, rfl, -, -, h2, h3, -, -, h6, -⟩ := GInstance.opened hr
  obtain ⟨p0, p1, p2, rfl⟩ := list3 (h2.length.symm.trans (GType.tr_len v2))
  obtain ⟨q0, q1, q2, rfl⟩ := list3 (h6.length.symm.trans (GType.tr_len v6))
  obtain ⟨hl, hm, -⟩ := h3.lens
  have HT : Hid (GInstance.term (.mk v0 v1 v2 xs v4 v5 v6 v7) = xs.all (fun b => GBound.smaller b v2)) := rfl
  have HH := Lib.hid h2
  have HS := Lib.hid h3
  obtain ⟨hz1, hs2⟩ := hs
  have HS2 := Lib.hid hs2
  simp only [GInstance.gHead_mk, GInstance.gWhere_mk] at hz1 HS2
  clear hr h2 h3 h6 hs2
  simp only [List.cons_append, List.nil_append]
  go_enter Try.func9, Try.ntmps9
  go_wp2_with fail
  go_loopw [3] (fun i wr => ∃ k : Nat, k ≤ xs.length ∧ i = .int .i64 k ∧ Ext w wr ∧ Hid (OB wr w.heap.size 31 ⟨[.string v0, .slice a1 v1.length c1] ++ ([p0, p1, p2] ++ [.slice a xs.length c, .bool v4, .bool v5, q0, q1, q2, .slice a7 v7.length c7])⟩) ∧ Hid (GInstance.term (.mk v0 v1 v2 xs v4 v5 v6 v7) = (xs.drop k).all (fun b => GBound.smaller b v2))) (fun i _ => xs.length - (intOf i).toNat)
  case atStart => exact ⟨0, Nat.zero_le _, rfl, .alloc (.refl _) _, OB.new w _ _, HT.out⟩
  case round =>
    obtain ⟨k, hk, rfl, hw, HB, HE⟩ := hrel
    have hce : wr.cell? ⟨w.heap.size, 5, none⟩ = some (.slice a xs.length c) := HB.out.cell 5
    by_cases hlt : k < xs.length
    · obtain ⟨b, off, cs, rfl, hb, hcs, hc⟩ := (HS.out.ext hw).at2 (k := k) (GBound.trs_get hlt)
      have HST := Lib.hid (all_drop_step (p := fun b => GBound.smaller b v2) hlt)
      have hki := hlt
      have hsz := HS2.out _ (List.getElem_mem hlt)
      generalize xs[k] = z at *
      have HI : Hid ((Try.prog.info? 41).map (·.size) = some cs.length) := by rw [← hcs.length, GBound.tr_len]; exact isz41
      have HC : Hid (∀ W, Ext wr W → ∀ (j : Nat) (v : Value), cs[j]? = some v → W.cell? ⟨b, off + k * 4 + j, none⟩ = some v) := fun W hW j v hv => (hW.cell (p := ⟨b, off + k * 4 + j, none⟩) hb).trans (hc j v hv)
      have HCE : Hid (∀ W, Ext wr W → W.cell? ⟨w.heap.size, 5, none⟩ = some (.slice (some ⟨b, off, none⟩) xs.length c)) := fun W hW => (HB.out.ext hW).cell 5
      have HR := Lib.hid hcs
      clear hcs hc
      go_wp2_with fail
      refine wp_region_held_drew (S := Ext wr) (by kernel_rfl) ?_ (fun hHeld => ?_)
      · exact .drew (.refl _)
      refine wpAnyH_take (i := 0) rfl (by kernel_rfl) (by kernel_rfl) (by kernel_rfl) (fun _ _ _ h => h) (.inl ⟨rfl, fun _ _ => rfl⟩) (by assumption) ?_
      simp only [Act.put, List.getElem_toArray, List.getElem_cons_zero, List.setIfInBounds_toArray, List.set_cons_zero, List.set_cons_succ]
      refine wpAnyH_cell (i := 1) rfl (by kernel_rfl) (by kernel_rfl) (by kernel_rfl) rfl 28 (.tmp 11) rfl (w.heap.size) (5) rfl (.slice (some ⟨b, off, none⟩) xs.length c) _ Try.underlying28 rfl (fun W hW => HCE.out W hW) (by assumption) (fun _ _ _ _ h => h) ?_
      simp only [Act.put, List.getElem_toArray, List.getElem_cons_zero, List.getElem_cons_succ, List.setIfInBounds_toArray, List.set_cons_zero, List.set_cons_succ]
      refine wpAnyH_take (i := 2) rfl (by kernel_rfl) (by kernel_rfl) (by kernel_rfl) (fun _ _ _ h => h) (.inl ⟨rfl, fun _ _ => rfl⟩) (by assumption) ?_
      simp only [Act.put, List.getElem_toArray, List.getElem_cons_zero, List.getElem_cons_succ, List.setIfInBounds_toArray, List.set_cons_zero, List.set_cons_succ]
      refine wpAnyH_index (i := 3) rfl (by kernel_rfl) (by kernel_rfl) (by kernel_rfl) rfl 28 (.tmp 12) (.tmp 13) rfl (b) (off) (xs.length) (c) (k) (4) rfl rfl (hki) Try.underlying28 (by kernel_rfl) (by assumption) (fun _ _ _ _ h => h) ?_
      simp only [Act.put, List.getElem_toArray, List.getElem_cons_zero, List.getElem_cons_succ, List.setIfInBounds_toArray, List.set_cons_zero, List.set_cons_succ]
      refine wpAnyH_load_rep (i := 4) rfl (by kernel_rfl) (by kernel_rfl) (by kernel_rfl) (fun _ _ _ h => h) rfl 41 (.tmp 14) rfl (b) (off + k * 4) rfl cs _ Try.underlying41 HI.out (fun W hW => HC.out W hW) (by assumption) (fun _ _ _ _ h => h) ?_
      simp only [Act.put, List.getElem_toArray, List.getElem_cons_zero, List.getElem_cons_succ, List.setIfInBounds_toArray, List.set_cons_zero, List.set_cons_succ]
      refine wpAnyH_take (i := 5) rfl (by kernel_rfl) (by kernel_rfl) (by kernel_rfl) (fun _ _ _ h => h) (.inl ⟨rfl, fun _ _ => rfl⟩) (by assumption) ?_
      simp only [Act.put, List.getElem_toArray, List.getElem_cons_zero, List.getElem_cons_succ, List.setIfInBounds_toArray, List.set_cons_zero, List.set_cons_succ]
      refine wpAnyH_load_rep (i := 6) rfl (by kernel_rfl) (by kernel_rfl) (by kernel_rfl) (fun _ _ _ h => h) rfl 27 (.tmp 16) rfl (w.heap.size) (2) rfl [p0, p1, p2] _ Try.underlying27 isz27 (fun W hW => OB.part (HB.out.ext hW)) (by assumption) (fun _ _ _ _ h => h) ?_
      simp only [Act.put, List.getElem_toArray, List.getElem_cons_zero, List.getElem_cons_succ, List.setIfInBounds_toArray, List.set_cons_zero, List.set_cons_succ]
      refine wpAnyH_call (i := 7) (by kernel_rfl) rfl rfl (run_call_func rfl rfl #[.agg ⟨cs⟩, .agg ⟨[p0, p1, p2]⟩] (by simp only [List.map_toArray, List.map_cons, List.map_nil, Act.eval]; rfl) Try.func28 (by kernel_rfl) (by kernel_rfl) _) (smaller_spec z v2 _ _ _ (HR.out.ext hHeld) (HH.out.ext (hw.trans hHeld)) hsz hz1) ?_; rintro e w1 ⟨rfl, hw1⟩
      have hs1 := Ext.trans hHeld hw1
      refine ⟨_, rfl, hs1, ?_⟩
      simp only [Act.put, List.getElem_toArray, List.getElem_cons_zero, List.getElem_cons_succ, List.setIfInBounds_toArray, List.set_cons_zero, List.set_cons_succ]
      refine wpAnyH_take (i := 8) rfl (by kernel_rfl) (by kernel_rfl) (by kernel_rfl) (fun _ _ _ h => h) (.inl ⟨rfl, fun _ _ => rfl⟩) (by assumption) ?_
      simp only [Act.put, List.getElem_toArray, List.getElem_cons_zero, List.getElem_cons_succ, List.setIfInBounds_toArray, List.set_cons_zero, List.set_cons_succ]
      refine wpAnyH_done (by kernel_rfl) ?_ _
      clear hHeld
      have HW1 := Lib.hid (hw.trans hs1)
      have HB1 := Lib.hid (HB.out.ext hs1)
      clear hs1 hw1 hce
      cases hq : GBound.smaller z v2
      · have HQ := Lib.hid hq
        clear hq
        go_wp2_with fail
        go_ret
        exact ⟨ret_bool (by rw [HE.out, HST.out, HQ.out]; rfl), HW1.out⟩
      · have HQ := Lib.hid hq
        clear hq
        go_wp2_with fail
        go_roundw
        case rel => exact ⟨k + 1, by omega, by go_num, HW1.out, HB1.out, by show _ = _; rw [HE.out, HST.out, HQ.out]; rfl⟩
        case measure => simp [intOf]; omega
    · have hkl : k = xs.length := by omega
      go_wp2_with fail
      go_ret
      exact ⟨ret_bool (by rw [HE.out, hkl, List.drop_length]; rfl), hw⟩

end Go.Proofs.Ytmpepccpnnldoaa

namespace Go.Proofs.Ytmpepccpnnldoaa
open Go.RowKit Go.Proofs

set_option maxRecDepth 100000 in
set_option maxHeartbeats 1000000 in
theorem copiesType_impl_of (l : List GType) (H : ∀ x ∈ l, ToC 67 x.tr) : ToSC 100 3 (GType.trs l) := by
  intro s w hs hbk
  obtain ⟨a, cap, rfl, hl, hm⟩ := hs.shape
  rw [GType.trs_len] at *
  unfold maxLen at hm
  have HS := Lib.hid hs
  have HH := Lib.hid H
  have n0 : (0 : Int) ≤ l.length := by omega
  clear hs H
  go_enter Try.func100, Try.ntmps100
  go_wp2_with (refine wpList_make_rep rfl 25 (.tmp 7) rfl l.length rfl 27 Try.underlying25 3 48 iszb27 (by omega) (by omega) ?_; intro wm arr0 ha0 hob0 hx0 hz0; have HA0 := Lib.hid ha0; have HOB0 := Lib.hid hob0; have HX0 := Lib.hid hx0; have HZ0 := Lib.hid hz0; clear ha0 hob0 hx0 hz0)
  go_loopw [11] (fun i wr => ∃ (k : Nat) (arr : Array Value), k ≤ l.length ∧ i = .int .i64 k ∧ Ext w wr ∧ w.heap.size < wr.heap.size ∧ Hid (OB wr w.heap.size 27 arr) ∧ Hid (arr.size = (GType.trs l).length * 3) ∧ Hid (Part wr w.heap.size arr 3 (GType.trs l) k)) (fun i _ => l.length - (intOf i).toNat)
  case atStart => exact ⟨0, arr0, Nat.zero_le _, rfl, HX0.out, by rw [HZ0.out]; omega, HOB0.out, by show _ = _; rw [GType.trs_len]; exact HA0.out, Part.zero _ _ _ _ _⟩
  case round =>
    obtain ⟨k, arr, hk, rfl, hw, hgt, HOB, HAS, HP⟩ := hrel
    by_cases hlt : k < l.length
    · obtain ⟨b, off, cs, rfl, hb, hcs, hc⟩ := (HS.out.ext hw).at2 (k := k) (GType.trs_get hlt)
      have HM := Lib.hid (List.getElem_mem hlt)
      have HCS := Lib.hid hcs
      have HC := Lib.hid hc
      have HI : Hid ((Try.prog.info? 27).map (·.size) = some cs.length) := by rw [← hcs.length, GType.tr_len]; exact isz27
      have HCL : Hid (cs.length = 3) := by rw [← hcs.length, GType.tr_len]; rfl
      clear hcs hc
      have hbe : Tr.bulkL (l[k]).tr ≤ Tr.bulkAll (GType.trs l) := by
        have h1 : k < (GType.trs l).length := by rw [GType.trs_len]; exact hlt
        have h2 := Tr.bulkAll_le h1
        have h3 : (GType.trs l)[k] = (l[k]).tr := by have h4 := GType.trs_get hlt; rw [List.getElem?_eq_getElem h1] at h4; exact Option.some.inj h4
        rwa [h3] at h2
      have hbs : Tr.bulkL (l[k]).tr ≤ 68719476736 := by omega
      clear hbe
      go_wp2_with (first
        | (refine wpList_load_rep rfl 27 (.tmp 14) rfl b (off + k * 3) rfl cs _ Try.underlying27 HI.out HC.out ?_)
        | (refine wpList_store_rep rfl 27 (.tmp 5) (.tmp 15) rfl wr.heap.size 0 rfl cs rfl 27 _ (OB.new wr _ _) HI.out (by rw [HCL.out]; exact Nat.le_refl _) HCS.out.one ?_; intro wb hob hgb hzb; rw [splice_whole (by rw [HCL.out]; rfl)] at hob; have HOBV := Lib.hid hob; have HXBV := Lib.hid (grown_ext (.alloc (.refl wr) _) hgb (Nat.le_refl _)); clear hob hgb hzb)
        | (refine wpList_load_rep rfl 27 (.tmp 5) rfl wr.heap.size 0 rfl cs _ Try.underlying27 HI.out HOBV.out.cells0 ?_))
      refine (HH.out _ HM.out _ _ (HCS.out.ext HXBV.out) hbs).mono ?_; rintro e w1 ⟨cs1, rfl, hw1, ho1⟩
      have HW1 := Lib.hid (HXBV.out.trans hw1)
      have HO1 := Lib.hid (ho1.mono (S' := Between wr w1) fun x hx => ⟨Nat.le_trans HXBV.out.size hx.1, hx.2⟩)
      have HCL1 : Hid (cs1.length = 3) := ho1.1.trans (GType.tr_len _)
      have HF : Hid (0 + k * 3 + cs1.length ≤ arr.size) := by have h1 := HAS.out; have h2 := HCL1.out; rw [GType.trs_len] at h1; show _ ≤ _; omega
      clear hw1 ho1
      go_wp2_with (refine wpList_store_rep rfl 27 (.tmp 20) (.tmp 19) rfl w.heap.size (k * 3) rfl cs1 rfl 27 arr (HOB.out.ext HW1.out) (by rw [HCL1.out]; exact isz27) (by have := HF.out; omega) (HO1.out.rep.one) ?_; intro w2 hob2 hg2 hz2; have HOB2 := Lib.hid hob2; have HG2 := Lib.hid hg2; have HZ2 := Lib.hid hz2; clear hob2 hg2 hz2)
      go_roundw
      case rel =>
        have hfit : k * 3 + cs1.length ≤ arr.size := by have := HF.out; omega
        refine ⟨k + 1, _, by omega, by go_num, ?_, ?_, HOB2.out, by show _ = _; rw [splice_size hfit]; exact HAS.out, HP.out.step hgt HW1.out (GType.trs_get hlt) HO1.out HCL1.out HAS.out HG2.out HOB2.out⟩
        · exact grown_ext (hw.trans HW1.out) HG2.out (Nat.le_refl _)
        · have := HW1.out.size
          have := HZ2.out
          omega
      case measure => simp [intOf]; omega
    · have hkl : k = (GType.trs l).length := by rw [GType.trs_len]; omega
      go_wp2_with fail
      go_ret
      subst hkl
      have := (HP.out.done HOB.out (GType.sz l) (Nat.le_refl _) (by rw [GType.trs_len]; unfold maxLen; omega) (Nat.le_refl _)).mono (S' := Between w wr) fun x hx => ⟨hx.1, hx.2⟩
      rw [GType.trs_len] at this
      exact ⟨_, rfl, hw, this⟩

set_option maxRecDepth 100000 in
set_option maxHeartbeats 1000000 in
theorem copyType_impl : ∀ x : GType, ToC 67 x.tr := by
  refine GType.ind fun v0 v1 xs ih => ?_; intro cs w hr hbk
  obtain ⟨a, c, rfl, k0, k1, h3⟩ := GType.opened hr
  have hbk2 : xs.length + Tr.bulkAll (GType.trs xs) ≤ 68719476736 := by
    simp only [GType.tr, Tr.bulkL_append, Tr.bulkL, Tr.bulk, GType.trs_len] at hbk
    omega
  have HCC := Lib.hid (copiesType_impl_of xs ih)
  have HS := Lib.hid h3
  have K0 := Lib.hid k0
  have K1 := Lib.hid k1
  have HL : Hid (Tr.bulkAll (GType.trs xs) + (GType.trs xs).length ≤ 68719476736) := by show _ ≤ _; rw [GType.trs_len]; omega
  clear hr h3 ih hbk hbk2 k0 k1
  simp only [List.cons_append, List.nil_append] at *
  go_enter Try.func67, Try.ntmps67
  go_wp2_with fail
  refine (HCC.out _ _ (HS.out.ext (.alloc (.alloc (.refl _) _) _)) (by have := HL.out; omega)).mono ?_; rintro e w1 ⟨s', rfl, hw1, ho1⟩
  obtain ⟨da, dc, rfl, -, -⟩ := ho1.rep.shape
  rw [GType.trs_len] at *
  have h2w := (Two.new w 27 27 #[.int .i64 v0, .string v1, .slice a xs.length c] #[.int .i64 0, .string ⟨#[]⟩, .slice none 0 0]).ext hw1
  have H2 := Lib.hid h2w
  have HW1 := Lib.hid hw1
  have HO1 := Lib.hid ho1
  have hzz : w.heap.size + 1 < w1.heap.size := h2w.o1.lt
  clear h2w hw1 ho1
  have hone : Hid (∀ v ∈ ([.int .i64 v0, .string v1, .slice da xs.length dc] : List Value), v.oneCell' = true) := by
    intro v hv
    simp only [List.mem_cons, List.not_mem_nil, or_false] at hv
    rcases hv with rfl | rfl | rfl <;> rfl
  go_wp2_with (first
    | (refine wpList_store_cell rfl 25 (.tmp 6) (.tmp 5) rfl w.heap.size 2 rfl (.slice da xs.length dc) rfl rfl 27 _ H2.out.o0 isz25 (by simp) rfl ?_; intro w2 hob hg hz; have HOB := Lib.hid (show OB w2 w.heap.size 27 ⟨[.int .i64 v0, .string v1, .slice da xs.length dc]⟩ from hob); have HR2 := Lib.hid (H2.out.o1.grown hg (by omega)); have HG2 := Lib.hid hg; have hq2 : w1.heap.size = w2.heap.size := hz.symm; clear hob hg hz)
    | (refine wpList_load_rep rfl 27 (.tmp 1) rfl w.heap.size 0 rfl [.int .i64 v0, .string v1, .slice da xs.length dc] _ Try.underlying27 isz27 (OB.cells0 HOB.out) ?_)
    | (refine wpList_store_rep rfl 27 (.tmp 2) (.tmp 7) rfl (w.heap.size + 1) 0 rfl [.int .i64 v0, .string v1, .slice da xs.length dc] rfl 27 _ HR2.out isz27 (by simp) hone.out ?_; intro w3 hob hg hz; have HOB3 := Lib.hid (show OB w3 (w.heap.size + 1) 27 ⟨[.int .i64 v0, .string v1, .slice da xs.length dc]⟩ from hob); have HG3 := Lib.hid hg; have hq3 : w2.heap.size = w3.heap.size := hz.symm; clear hob hg hz))
  have hx3 : Ext w w3 := grown_ext (grown_ext (Ext.trans (.alloc (.alloc (.refl _) _) _) HW1.out) HG2.out (by omega)) HG3.out (by omega)
  refine bodyPost_ret (results_cell_row Try.results67 _ _ (w.heap.size + 1) 27 ⟨[.int .i64 v0, .string v1, .slice da xs.length dc]⟩ _ _ rfl HOB3.out Try.underlying27 rfl isz27) rfl ⟨[.int .i64 v0, .string v1, .slice da xs.length dc], rfl, hx3, ?_⟩
  have ow := HO1.out.keeps (lo := w.heap.size + 1 + 1) (Keeps.trans (Keeps.of_grown HG2.out (by omega)) (Keeps.of_grown HG3.out (by omega))) (by intro x hx; have := hx.1; simp only [World.size_alloc] at this; omega)
  have hall := OwnL.cons_leaf K0.out (OwnL.cons_leaf K1.out (OwnL.one ow))
  exact hall.mono (by intro x hx; have h1 := hx.1; have h2 := hx.2; simp only [World.size_alloc] at h1; exact ⟨by omega, by omega⟩)
end Go.Proofs.Ytmpepccpnnldoaa

namespace Go.Proofs.Ytmpepccpnnldoaa
open Go.RowKit Go.Proofs

theorem results_cell_row_tmp {P : Program} {fn : Func} {p q : Tmp} {ty : TypeId} (h : fn.results = #[.cell p ty, .tmp q]) (tmps : Array Value) (w : World) (g : Nat) (t : TypeId) (cs : Array Value) (fr : Nat × Nat) (d : TypeDesc) (v : Value)
    (hp : tmps.getD p undef = .pointer (some ⟨g, 0, none⟩)) (hv : tmps.getD q undef = v) (hg : w.heap[g]? = some (.cells cs t fr))
    (hu : P.underlying ty = some d) (hd : (match d with | .struct _ | .array _ _ => true | _ => false) = true) (hi : (P.info? ty).map (·.size) = some cs.size) :
    (results fn tmps).run P w = .ok (.tuple #[.agg cs, v]) w := by
  have hp' : tmps[p]?.getD undef = .pointer (some ⟨g, 0, none⟩) := by simpa using hp
  have hv' : tmps[q]?.getD undef = v := by simpa using hv
  simp [results, h, hp', hv', asAddr, run_loadVar_row w g t ty cs fr d hg hu hd hi]
theorem find_at {α : Type} {p : α → Bool} : ∀ {l : List α} {k : Nat} (hk : k < l.length), (∀ j (hj : j < l.length), j < k → p l[j] = false) → p l[k] = true → l.find? p = some l[k]
  | a :: l, 0, _, _, h => by simp only [List.getElem_cons_zero] at h ⊢; rw [List.find?_cons, h]
  | a :: l, k + 1, hk, hn, h => by
    have h0 := hn 0 (by simp) (by omega)
    simp only [List.getElem_cons_zero] at h0
    simp only [List.getElem_cons_succ] at h ⊢
    rw [List.find?_cons, h0]
    exact find_at (by simpa using hk) (fun j hj hlt => by have := hn (j + 1) (by simp; omega) (by omega); simpa using this) h
theorem find_not {α : Type} {p : α → Bool} {l : List α} (hn : ∀ j (hj : j < l.length), p l[j] = false) : l.find? p = none := by
  rw [List.find?_eq_none]
  intro x hx
  obtain ⟨j, hj, rfl⟩ := List.mem_iff_getElem.1 hx
  rw [hn j hj]
  simp
def zeroTy : List Value := [.int .i64 0, .string ⟨#[]⟩, .slice none 0 0]
def LookPost (l : List GBinding) (v : ByteArray) (w : World) (e : Ending) (w' : World) : Prop :=
  match l.find? (fun b => decide (b.gVar = v)) with
  | some b => ∃ cs, e = .returned (.tuple #[.agg ⟨cs⟩, .bool true]) ∧ Ext w w' ∧ OwnL w' b.gType.tr cs (Between w w')
  | none => e = .returned (.tuple #[.agg ⟨zeroTy⟩, .bool false]) ∧ Ext w w'

set_option maxRecDepth 100000 in
set_option maxHeartbeats 2000000 in
theorem lookP (l : List GBinding) (v : ByteArray) (s : Value) (w : World) (hs : Rep w (.row 4 (GBinding.trs l)) s) (hb : ∀ b ∈ l, Tr.bulkL b.gType.tr ≤ 68719476735) :
    Calls Try.prog 31 #[s, .string v] w (LookPost l v w) := by
  obtain ⟨a, cap, rfl, hl, hm⟩ := hs.shape
  rw [GBinding.trs_len] at *
  unfold maxLen at hm
  have isz104 : (Try.prog.info? 104).map (·.size) = some 4 := by kernel_rfl
  have HS := Lib.hid hs
  have HBB := Lib.hid hb
  have HSB := Lib.hid isz104
  clear hs hb
  go_enter Try.func31, Try.ntmps31
  go_wp2_with fail
  go_loopw [10] (fun i wr => ∃ k : Nat, k ≤ l.length ∧ i = .int .i64 k ∧ Hid (Ext w wr) ∧ w.heap.size < wr.heap.size ∧ Hid (OB wr w.heap.size 27 ⟨zeroTy⟩) ∧ Hid (∀ j (hj : j < l.length), j < k → decide (l[j].gVar = v) = false)) (fun i _ => l.length - (intOf i).toNat)
  case atStart => exact ⟨0, Nat.zero_le _, rfl, .alloc (.refl _) _, by simp only [World.size_alloc]; omega, OB.new w _ _, fun j hj h => by omega⟩
  case round =>
    obtain ⟨k, hk, rfl, HW, hgt, HOB, HNF⟩ := hrel
    by_cases hlt : k < l.length
    · obtain ⟨b, off, cs, rfl, hb, hcs, hc⟩ := (HS.out.ext HW.out).at2 (k := k) (GBinding.trs_get hlt)
      have HBK : Hid (Tr.bulkL (l[k]).gType.tr ≤ 68719476735) := HBB.out _ (List.getElem_mem hlt)
      have HFA : Hid (decide ((l[k]).gVar = v) = true → l.find? (fun b => decide (b.gVar = v)) = some l[k]) := find_at (p := fun b => decide (GBinding.gVar b = v)) hlt HNF.out
      have HNX : Hid (decide ((l[k]).gVar = v) = false → ∀ j (hj : j < l.length), j < k + 1 → decide (l[j].gVar = v) = false) := fun h j hj hjk => by
        rcases Nat.lt_or_ge j k with h1 | h1
        · exact HNF.out j hj h1
        · obtain rfl : j = k := by omega
          exact h
      clear HNF
      generalize l[k] = x at *
      obtain ⟨bv, bt⟩ := x
      simp only [GBinding.gVar_mk, GBinding.gType_mk] at *
      have HCS := Lib.hid hcs
      have HC := Lib.hid hc
      have HCL : Hid (cs.length = 4) := by rw [← hcs.length, GBinding.tr_len]; rfl
      have HI : Hid ((Try.prog.info? 104).map (·.size) = some cs.length) := by rw [HCL.out]; exact HSB.out
      clear hcs hc
      by_cases hv : bv = v
      · subst hv
        go_wp2_with (first
          | (refine wpList_load_rep rfl 104 (.tmp 12) rfl b (off + k * 4) rfl cs _ Try.underlying104 HI.out HC.out ?_)
          | (refine wpList_store_rep rfl 104 (.tmp 7) (.tmp 13) rfl wr.heap.size 0 rfl cs rfl 104 _ (OB.new wr _ _) HI.out (by rw [HCL.out]; exact Nat.le_refl _) HCS.out.one ?_; intro wb hob hgb hzb; rw [splice_whole (by rw [HCL.out]; rfl)] at hob; obtain ⟨x1, rfl, -, h1⟩ := GBinding.opened HCS.out; have HX1 := Lib.hid h1; obtain ⟨d0, d1, d2, rfl⟩ := list3 (h1.length.symm.trans (GType.tr_len bt)); clear h1; have HOBV := Lib.hid hob; have HXB := Lib.hid (grown_ext (.alloc (.refl wr) _) hgb (Nat.le_refl _)); have hcv : wb.cell? ⟨wr.heap.size, 0, none⟩ = some (.string bv) := (by rw [hob.cell]; rfl); clear hob hgb hzb)
          | (refine wpList_load_rep rfl 27 (.tmp 18) rfl wr.heap.size 1 rfl [d0, d1, d2] _ Try.underlying27 isz27 (fun j u hu => by rw [HOBV.out.cell]; rcases j with _ | _ | _ | j <;> first | (simp at hu; done) | simpa using hu) ?_))
        refine (copyType_impl bt _ _ (HX1.out.ext HXB.out) (by have := HBK.out; omega)).mono ?_; rintro e w1 ⟨cs1, rfl, hw1, ho1⟩
        have HCL1 : Hid (cs1.length = 3) := ho1.1.trans (GType.tr_len bt)
        have HI1 : Hid ((Try.prog.info? 27).map (·.size) = some cs1.length) := by rw [HCL1.out]; exact isz27
        have HW1 := Lib.hid (HXB.out.trans hw1)
        have hgb : wr.heap.size ≤ wb.heap.size := HXB.out.size
        have HO1 := Lib.hid ho1
        clear hw1 ho1
        go_wp2_with (refine wpList_store_rep rfl 27 (.tmp 4) (.tmp 20) rfl w.heap.size 0 rfl cs1 rfl 27 _ (HOB.out.ext HW1.out) HI1.out (by rw [HCL1.out]; exact Nat.le_refl _) HO1.out.rep.one ?_; intro w2 hob hg hz; rw [splice_whole (by rw [HCL1.out]; rfl)] at hob; have HOB2 := Lib.hid hob; have HG2 := Lib.hid hg; clear hob hg hz)
        have hx2 : Ext w w2 := grown_ext (HW.out.trans HW1.out) HG2.out (Nat.le_refl _)
        refine bodyPost_ret (results_cell_row_tmp Try.results31 _ _ w.heap.size 27 ⟨cs1⟩ _ _ _ rfl rfl HOB2.out Try.underlying27 rfl HI1.out) rfl ?_
        show LookPost l bv w _ w2
        unfold LookPost
        rw [HFA.out (by simp)]
        exact ⟨cs1, rfl, hx2, (HO1.out.keep fun b' hb' hbl => HG2.out.block b' hbl (by intro h; injection h with h; have := hb'.1; omega)).mono fun b' hb' => ⟨by have := hb'.1; omega, Nat.lt_of_lt_of_le hb'.2 HG2.out.size⟩⟩
      · have hne : ¬ bv.toList = v.toList := fun h => hv (bytes_inj h)
        have HD : Hid (decide (bv = v) = false) := decide_eq_false hv
        clear hv
        go_wp2_with (first
          | (refine wpList_load_rep rfl 104 (.tmp 12) rfl b (off + k * 4) rfl cs _ Try.underlying104 HI.out HC.out ?_)
          | (refine wpList_store_rep rfl 104 (.tmp 7) (.tmp 13) rfl wr.heap.size 0 rfl cs rfl 104 _ (OB.new wr _ _) HI.out (by rw [HCL.out]; exact Nat.le_refl _) HCS.out.one ?_; intro wb hob hgb hzb; rw [splice_whole (by rw [HCL.out]; rfl)] at hob; obtain ⟨x1, rfl, -, h1⟩ := GBinding.opened HCS.out; have HX1 := Lib.hid h1; obtain ⟨d0, d1, d2, rfl⟩ := list3 (h1.length.symm.trans (GType.tr_len bt)); clear h1; have HOBV := Lib.hid hob; have HXB := Lib.hid (grown_ext (.alloc (.refl wr) _) hgb (Nat.le_refl _)); have hcv : wb.cell? ⟨wr.heap.size, 0, none⟩ = some (.string bv) := (by rw [hob.cell]; rfl); clear hob hgb hzb)
          | (exfalso; exact hne (by simpa using (‹(bv.toList == v.toList) = true›))))
        go_roundw
        case rel => exact ⟨k + 1, by omega, by go_num, HW.out.trans HXB.out, by have := HXB.out.size; omega, HOB.out.ext HXB.out, HNX.out HD.out⟩
        case measure => simp [intOf]; omega
    · go_wp2_with (refine wpList_store_rep rfl 27 (.tmp 4) (.tmp 22) rfl w.heap.size 0 rfl zeroTy rfl 27 _ HOB.out isz27 (by exact Nat.le_refl _) (by intro v hv; simp only [zeroTy, List.mem_cons, List.not_mem_nil, or_false] at hv; rcases hv with rfl | rfl | rfl <;> rfl) ?_; intro w2 hob hg hz; rw [splice_whole rfl] at hob; have HOB2 := Lib.hid hob; have HG2 := Lib.hid hg; clear hob hg hz)
      have hx2 : Ext w w2 := grown_ext HW.out HG2.out (Nat.le_refl _)
      refine bodyPost_ret (results_cell_row_tmp Try.results31 _ _ w.heap.size 27 ⟨zeroTy⟩ _ _ _ rfl rfl HOB2.out Try.underlying27 rfl isz27) rfl ?_
      show LookPost l v w _ w2
      unfold LookPost
      rw [find_not (p := fun b => decide (GBinding.gVar b = v)) fun j hj => HNF.out j hj (by omega)]
      exact ⟨rfl, hx2⟩
end Go.Proofs.Ytmpepccpnnldoaa

namespace Go.Proofs.Ytmpepccpnnldoaa
open Go.RowKit Go.Proofs

mutual
def applyT (l : List GBinding) : GType → GType
  | .mk k n xs => if k = 1 then (match l.find? (fun b => decide (GBinding.gVar b = n)) with
      | some b => b.gType
      | none => .mk k n (applyL l xs)) else .mk k n (applyL l xs)
def applyL (l : List GBinding) : List GType → List GType
  | [] => []
  | x :: r => applyT l x :: applyL l r
end
theorem applyL_map (l : List GBinding) : ∀ xs, applyL l xs = xs.map (applyT l)
  | [] => rfl
  | x :: r => by rw [applyL, applyL_map l r, List.map_cons]
theorem applyL_len (l : List GBinding) (xs : List GType) : (applyL l xs).length = xs.length := by rw [applyL_map, List.length_map]
theorem applyL_get (l : List GBinding) {xs : List GType} {k : Nat} (h : k < xs.length) : (GType.trs (applyL l xs))[k]? = some (applyT l xs[k]).tr := by
  rw [GType.trs_map, applyL_map, List.map_map, List.getElem?_map, List.getElem?_eq_getElem h]; rfl


/-- What Apply is to do. -/
def ApC (l : List GBinding) (t : GType) : Prop := ∀ (s : Value) (cs : List Value) (w : World), Rep w (.row 4 (GBinding.trs l)) s → RepL w t.tr cs → Tr.bulkL t.tr ≤ 68719476736 →
  Calls Try.prog 13 #[s, .agg ⟨cs⟩] w fun e w' => ∃ cs', e = .returned (.agg ⟨cs'⟩) ∧ Ext w w' ∧ OwnL w' (applyT l t).tr cs' (Between w w')

set_option maxRecDepth 100000 in
set_option maxHeartbeats 2000000 in
theorem applyAllP (bs : List GBinding) (l : List GType) (H : ∀ x ∈ l, ApC bs x) (sb s : Value) (w : World) (hsb : Rep w (.row 4 (GBinding.trs bs)) sb) (hs : Rep w (.row 3 (GType.trs l)) s) (hbk : l.length + Tr.bulkAll (GType.trs l) ≤ 68719476736) :
    Calls Try.prog 32 #[sb, s] w fun e w' => ∃ s', e = .returned s' ∧ Ext w w' ∧ Own w' (.row 3 (GType.trs (applyL bs l))) s' (Between w w') := by
  obtain ⟨a, cap, rfl, hl, hm⟩ := hs.shape
  rw [GType.trs_len] at *
  unfold maxLen at hm
  have HS := Lib.hid hs
  have HSB := Lib.hid hsb
  have HH := Lib.hid H
  have n0 : (0 : Int) ≤ l.length := by omega
  have HLN : Hid ((GType.trs (applyL bs l)).length = l.length) := by show _ = _; rw [GType.trs_len, applyL_len]
  clear hs hsb H
  go_enter Try.func32, Try.ntmps32
  go_wp2_with (refine wpList_make_rep rfl 25 (.tmp 9) rfl l.length rfl 27 Try.underlying25 3 48 iszb27 (by omega) (by omega) ?_; intro wm arr0 ha0 hob0 hx0 hz0; have HA0 := Lib.hid ha0; have HOB0 := Lib.hid hob0; have HX0 := Lib.hid hx0; have HZ0 := Lib.hid hz0; clear ha0 hob0 hx0 hz0)
  go_loopw [13] (fun i wr => ∃ (k : Nat) (arr : Array Value), k ≤ l.length ∧ i = .int .i64 k ∧ Ext w wr ∧ w.heap.size < wr.heap.size ∧ Hid (OB wr w.heap.size 27 arr) ∧ Hid (arr.size = (GType.trs (applyL bs l)).length * 3) ∧ Hid (Part wr w.heap.size arr 3 (GType.trs (applyL bs l)) k)) (fun i _ => l.length - (intOf i).toNat)
  case atStart => exact ⟨0, arr0, Nat.zero_le _, rfl, HX0.out, by rw [HZ0.out]; omega, HOB0.out, by show _ = _; rw [HLN.out]; exact HA0.out, Part.zero _ _ _ _ _⟩
  case round =>
    obtain ⟨k, arr, hk, rfl, hw, hgt, HOB, HAS, HP⟩ := hrel
    by_cases hlt : k < l.length
    · obtain ⟨b, off, cs, rfl, hb, hcs, hc⟩ := (HS.out.ext hw).at2 (k := k) (GType.trs_get hlt)
      have HM := Lib.hid (List.getElem_mem hlt)
      have HCS := Lib.hid hcs
      have HC := Lib.hid hc
      have HI : Hid ((Try.prog.info? 27).map (·.size) = some cs.length) := by rw [← hcs.length, GType.tr_len]; exact isz27
      have HCL : Hid (cs.length = 3) := by rw [← hcs.length, GType.tr_len]; rfl
      clear hcs hc
      have hbe : Tr.bulkL (l[k]).tr ≤ Tr.bulkAll (GType.trs l) := by
        have h1 : k < (GType.trs l).length := by rw [GType.trs_len]; exact hlt
        have h2 := Tr.bulkAll_le h1
        have h3 : (GType.trs l)[k] = (l[k]).tr := by have h4 := GType.trs_get hlt; rw [List.getElem?_eq_getElem h1] at h4; exact Option.some.inj h4
        rwa [h3] at h2
      have hbs : Tr.bulkL (l[k]).tr ≤ 68719476736 := by omega
      clear hbe
      go_wp2_with (first
        | (refine wpList_load_rep rfl 27 (.tmp 16) rfl b (off + k * 3) rfl cs _ Try.underlying27 HI.out HC.out ?_)
        | (refine wpList_store_rep rfl 27 (.tmp 7) (.tmp 17) rfl wr.heap.size 0 rfl cs rfl 27 _ (OB.new wr _ _) HI.out (by rw [HCL.out]; exact Nat.le_refl _) HCS.out.one ?_; intro wb hob hgb hzb; rw [splice_whole (by rw [HCL.out]; rfl)] at hob; have HOBV := Lib.hid hob; have HXBV := Lib.hid (grown_ext (.alloc (.refl wr) _) hgb (Nat.le_refl _)); clear hob hgb hzb)
        | (refine wpList_load_rep rfl 27 (.tmp 7) rfl wr.heap.size 0 rfl cs _ Try.underlying27 HI.out HOBV.out.cells0 ?_))
      refine (HH.out _ HM.out _ _ _ ((HSB.out.ext hw).ext HXBV.out) (HCS.out.ext HXBV.out) hbs).mono ?_; rintro e w1 ⟨cs1, rfl, hw1, ho1⟩
      have HW1 := Lib.hid (HXBV.out.trans hw1)
      have HO1 := Lib.hid (ho1.mono (S' := Between wr w1) fun x hx => ⟨Nat.le_trans HXBV.out.size hx.1, hx.2⟩)
      have HCL1 : Hid (cs1.length = 3) := ho1.1.trans (GType.tr_len _)
      have HF : Hid (0 + k * 3 + cs1.length ≤ arr.size) := by have h1 := HAS.out; have h2 := HCL1.out; have h3 := HLN.out; rw [h3] at h1; show _ ≤ _; omega
      clear hw1 ho1
      go_wp2_with (refine wpList_store_rep rfl 27 (.tmp 23) (.tmp 22) rfl w.heap.size (k * 3) rfl cs1 rfl 27 arr (HOB.out.ext HW1.out) (by rw [HCL1.out]; exact isz27) (by have := HF.out; omega) (HO1.out.rep.one) ?_; intro w2 hob2 hg2 hz2; have HOB2 := Lib.hid hob2; have HG2 := Lib.hid hg2; have HZ2 := Lib.hid hz2; clear hob2 hg2 hz2)
      go_roundw
      case rel =>
        have hfit : k * 3 + cs1.length ≤ arr.size := by have := HF.out; omega
        refine ⟨k + 1, _, by omega, by go_num, ?_, ?_, HOB2.out, by show _ = _; rw [splice_size hfit]; exact HAS.out, HP.out.step hgt HW1.out (applyL_get bs hlt) HO1.out HCL1.out HAS.out HG2.out HOB2.out⟩
        · exact grown_ext (hw.trans HW1.out) HG2.out (Nat.le_refl _)
        · have := HW1.out.size
          have := HZ2.out
          omega
      case measure => simp [intOf]; omega
    · have hkl : k = (GType.trs (applyL bs l)).length := by have := HLN.out; omega
      go_wp2_with fail
      go_ret
      subst hkl
      have := (HP.out.done HOB.out (GType.sz (applyL bs l)) (Nat.le_refl _) (by rw [HLN.out]; unfold maxLen; omega) (Nat.le_refl _)).mono (S' := Between w wr) fun x hx => ⟨hx.1, hx.2⟩
      rw [HLN.out] at this
      exact ⟨_, rfl, hw, this⟩

set_option maxRecDepth 100000 in
set_option maxHeartbeats 2000000 in
theorem applyP (l : List GBinding) (hb : ∀ b ∈ l, Tr.bulkL b.gType.tr ≤ 68719476735) : ∀ t : GType, ApC l t := by
  refine GType.ind fun v0 v1 xs ih => ?_; intro s cs w hs hr hbk
  obtain ⟨a, c, rfl, k0, k1, h3⟩ := GType.opened hr
  have hbk2 : xs.length + Tr.bulkAll (GType.trs xs) ≤ 68719476736 := by
    simp only [GType.tr, Tr.bulkL_append, Tr.bulkL, Tr.bulk, GType.trs_len] at hbk
    omega
  have HCC := Lib.hid (applyAllP l xs ih)
  have HLK := Lib.hid (fun v s' w' h => lookP l v s' w' h hb)
  have HS := Lib.hid h3
  have HB := Lib.hid hs
  have K0 := Lib.hid k0
  have K1 := Lib.hid k1
  have HL := Lib.hid hbk2
  clear hr h3 ih hbk hbk2 k0 k1 hs hb
  simp only [List.cons_append, List.nil_append] at *
  -- the way on: the arguments are rewritten
  by_cases hk : v0 = 1
  · subst hk
    have HAT : Hid (applyT l (.mk 1 v1 xs) = match l.find? (fun b => decide (GBinding.gVar b = v1)) with | some b => b.gType | none => .mk 1 v1 (applyL l xs)) := by show _ = _; rw [applyT, if_pos rfl]
    go_enter Try.func13, Try.ntmps13
    go_wp2_with fail
    refine (HLK.out v1 s _ (HB.out.ext (.alloc (.alloc (.refl _) _) _))).mono ?_; intro e w1 hp
    unfold LookPost at hp
    cases hf : l.find? (fun b => decide (GBinding.gVar b = v1)) with
    | some b =>
      rw [hf] at hp HAT
      obtain ⟨cs1, rfl, hw1, ho1⟩ := hp
      have h2w := (Two.new w 27 27 #[.int .i64 1, .string v1, .slice a xs.length c] #[.int .i64 0, .string ⟨#[]⟩, .slice none 0 0]).ext hw1
      have HB1 := Lib.hid h2w.o1
      have HCL1 : Hid (cs1.length = 3) := ho1.1.trans (GType.tr_len _)
      have HI1 : Hid ((Try.prog.info? 27).map (·.size) = some cs1.length) := by rw [HCL1.out]; exact isz27
      have HXW : Hid (Ext w w1) := Ext.trans (.alloc (.alloc (.refl _) _) _) hw1
      have HO1 := Lib.hid (ho1.mono (S' := fun x => w.heap.size + 1 + 1 ≤ x ∧ x < w1.heap.size) fun x hx => ⟨by have h1 := hx.1; simp only [World.size_alloc] at h1; omega, hx.2⟩)
      have hz1 : w.heap.size + 1 < w1.heap.size := h2w.o1.lt
      clear h2w hw1 ho1
      go_wp2_with (first
        | (refine wpList_store_rep rfl 27 (.tmp 5) (.tmp 15) rfl w1.heap.size 0 rfl cs1 rfl 27 _ (OB.new w1 _ _) HI1.out (by rw [HCL1.out]; exact Nat.le_refl _) HO1.out.rep.one ?_; intro w2 hob hg hz; rw [splice_whole (by rw [HCL1.out]; rfl)] at hob; have HOB2 := Lib.hid hob; have HX2 := Lib.hid (grown_ext (.alloc (.refl w1) _) hg (Nat.le_refl _)); have hz2 : w1.heap.size < w2.heap.size := hob.lt; clear hob hg hz)
        | (refine wpList_load_rep rfl 27 (.tmp 5) rfl w1.heap.size 0 rfl cs1 _ Try.underlying27 HI1.out HOB2.out.cells0 ?_)
        | (refine wpList_store_rep rfl 27 (.tmp 4) (.tmp 18) rfl (w.heap.size + 1) 0 rfl cs1 rfl 27 _ (HB1.out.ext HX2.out) HI1.out (by rw [HCL1.out]; exact Nat.le_refl _) HO1.out.rep.one ?_; intro w3 hob hg hz; rw [splice_whole (by rw [HCL1.out]; rfl)] at hob; have HOB3 := Lib.hid hob; have HG3 := Lib.hid hg; clear hob hg hz))
      have hx3 : Ext w w3 := grown_ext (HXW.out.trans HX2.out) HG3.out (by omega)
      refine bodyPost_ret (results_cell_row Try.results13 _ _ (w.heap.size + 1) 27 ⟨cs1⟩ _ _ rfl HOB3.out Try.underlying27 rfl HI1.out) rfl ⟨cs1, rfl, hx3, ?_⟩
      rw [HAT.out]
      have hs3 := HG3.out.size
      exact ((HO1.out.ext HX2.out).keeps (lo := w.heap.size + 1 + 1) (Keeps.of_grown HG3.out (by omega)) (by intro x hx; exact hx.1)).mono fun x hx => ⟨by have := hx.1; omega, by have := hx.2; omega⟩
    | none =>
      rw [hf] at hp HAT
      obtain ⟨rfl, hw1⟩ := hp
      have h2w := (Two.new w 27 27 #[.int .i64 1, .string v1, .slice a xs.length c] #[.int .i64 0, .string ⟨#[]⟩, .slice none 0 0]).ext hw1
      have HB0' := Lib.hid h2w.o0
      have HB1' := Lib.hid h2w.o1
      have HXW' : Hid (Ext w w1) := Ext.trans (.alloc (.alloc (.refl _) _) _) hw1
      clear h2w hw1
      go_wp2_with (refine wpList_store_rep rfl 27 (.tmp 5) (.tmp 15) rfl w1.heap.size 0 rfl zeroTy rfl 27 _ (OB.new w1 _ _) isz27 (by exact Nat.le_refl _) (by intro v hv; simp only [zeroTy, List.mem_cons, List.not_mem_nil, or_false] at hv; rcases hv with rfl | rfl | rfl <;> rfl) ?_; intro w2 hob hg hz; have HX2 := Lib.hid (grown_ext (.alloc (.refl w1) _) hg (Nat.le_refl _)); have HXW := Lib.hid (HXW'.out.trans HX2.out); have HB0 := Lib.hid (HB0'.out.ext HX2.out); have HB1 := Lib.hid (HB1'.out.ext HX2.out); clear hob hg hz)
      have HX0 : Hid (Ext w (w2).drew) := .drew HXW.out
      have HC : Hid (∀ W : World, (Ext w W ∧ OB W w.heap.size 27 #[.int .i64 1, .string v1, .slice a xs.length c]) → ∀ q : Nat, W.cell? ⟨w.heap.size, q, none⟩ = (#[.int .i64 1, .string v1, .slice a xs.length c] : Array Value)[q]?) := fun W hW q => hW.2.cell q
      refine wp_region_held_drew (S := fun W => Ext w W ∧ OB W w.heap.size 27 #[.int .i64 1, .string v1, .slice a xs.length c]) (by kernel_rfl) ?_ (fun hHeld => ?_)
      · exact ⟨HX0.out, HB0.out.ext (.drew (.refl _))⟩
      refine wpAnyH_take (i := 0) rfl (by kernel_rfl) (by kernel_rfl) (by kernel_rfl) (fun _ _ _ h => h) (.inl ⟨rfl, fun _ _ => rfl⟩) (by assumption) ?_
      simp only [Act.put, List.getElem_toArray, List.getElem_cons_zero, List.setIfInBounds_toArray, List.set_cons_zero, List.set_cons_succ]
      refine wpAnyH_cell (i := 1) rfl (by kernel_rfl) (by kernel_rfl) (by kernel_rfl) rfl 3 (.tmp 19) rfl (w.heap.size) (0) rfl (.int .i64 1) _ Try.underlying3 rfl (fun W hW => HC.out W hW 0) (by assumption) (fun _ _ _ _ h => h) ?_
      simp only [Act.put, List.getElem_toArray, List.getElem_cons_zero, List.getElem_cons_succ, List.setIfInBounds_toArray, List.set_cons_zero, List.set_cons_succ]
      refine wpAnyH_take (i := 2) rfl (by kernel_rfl) (by kernel_rfl) (by kernel_rfl) (fun _ _ _ h => h) (.inl ⟨rfl, fun _ _ => rfl⟩) (by assumption) ?_
      simp only [Act.put, List.getElem_toArray, List.getElem_cons_zero, List.getElem_cons_succ, List.setIfInBounds_toArray, List.set_cons_zero, List.set_cons_succ]
      refine wpAnyH_cell (i := 3) rfl (by kernel_rfl) (by kernel_rfl) (by kernel_rfl) rfl 9 (.tmp 21) rfl (w.heap.size) (1) rfl (.string v1) _ Try.underlying9 rfl (fun W hW => HC.out W hW 1) (by assumption) (fun _ _ _ _ h => h) ?_
      simp only [Act.put, List.getElem_toArray, List.getElem_cons_zero, List.getElem_cons_succ, List.setIfInBounds_toArray, List.set_cons_zero, List.set_cons_succ]
      refine wpAnyH_take (i := 4) rfl (by kernel_rfl) (by kernel_rfl) (by kernel_rfl) (fun _ _ _ h => h) (.inl ⟨rfl, fun _ _ => rfl⟩) (by assumption) ?_
      simp only [Act.put, List.getElem_toArray, List.getElem_cons_zero, List.getElem_cons_succ, List.setIfInBounds_toArray, List.set_cons_zero, List.set_cons_succ]
      refine wpAnyH_take (i := 5) rfl (by kernel_rfl) (by kernel_rfl) (by kernel_rfl) (fun _ _ _ h => h) (.inl ⟨rfl, fun _ _ => rfl⟩) (by assumption) ?_
      simp only [Act.put, List.getElem_toArray, List.getElem_cons_zero, List.getElem_cons_succ, List.setIfInBounds_toArray, List.set_cons_zero, List.set_cons_succ]
      refine wpAnyH_cell (i := 6) rfl (by kernel_rfl) (by kernel_rfl) (by kernel_rfl) rfl 25 (.tmp 24) rfl (w.heap.size) (2) rfl (.slice a xs.length c) _ Try.underlying25 rfl (fun W hW => HC.out W hW 2) (by assumption) (fun _ _ _ _ h => h) ?_
      simp only [Act.put, List.getElem_toArray, List.getElem_cons_zero, List.getElem_cons_succ, List.setIfInBounds_toArray, List.set_cons_zero, List.set_cons_succ]
      refine wpAnyH_call (i := 7) (by kernel_rfl) rfl rfl (run_call_func rfl rfl #[s, .slice a xs.length c] (by simp only [List.map_toArray, List.map_cons, List.map_nil, Act.eval]; rfl) Try.func32 (by kernel_rfl) (by kernel_rfl) _) (HCC.out _ _ _ (HB.out.ext HX0.out) (HS.out.ext HX0.out) (by have := HL.out; omega)) ?_; rintro e wt ⟨s', rfl, hwt, hot⟩
      have hs1 := (⟨hHeld.1.trans hwt, hHeld.2.ext hwt⟩ : Ext w wt ∧ OB wt w.heap.size 27 #[.int .i64 1, .string v1, .slice a xs.length c])
      refine ⟨_, rfl, hs1, ?_⟩
      obtain ⟨da, dc, rfl, -, -⟩ := hot.rep.shape
      rw [GType.trs_len, applyL_len] at *
      have H2 := Lib.hid ((HB1.out.ext (.drew (.refl _))).ext hwt)
      have HWT := Lib.hid hwt
      have HOT := Lib.hid hot
      have hzz : w.heap.size + 1 < wt.heap.size := H2.out.lt
      have hone : Hid (∀ v ∈ ([.int .i64 1, .string v1, .slice da xs.length dc] : List Value), v.oneCell' = true) := by simp [Value.oneCell', Hid]
      simp only [Act.put, List.getElem_toArray, List.getElem_cons_zero, List.getElem_cons_succ, List.setIfInBounds_toArray, List.set_cons_zero, List.set_cons_succ]
      refine wpAnyH_take (i := 8) (v := .agg ⟨[.int .i64 1, .string v1, .slice da xs.length dc]⟩) rfl (by kernel_rfl) (by kernel_rfl) (by kernel_rfl) (fun _ _ _ h => h) (.inl ⟨rfl, fun _ _ => by simp [execOp, go_sem]⟩) (by assumption) ?_
      simp only [Act.put, List.getElem_toArray, List.getElem_cons_zero, List.getElem_cons_succ, List.setIfInBounds_toArray, List.set_cons_zero, List.set_cons_succ]
      refine wpAnyH_store_rep (i := 9) (by kernel_rfl) rfl rfl 27 (.tmp 4) (.tmp 27) rfl (w.heap.size + 1) (0) rfl ([.int .i64 1, .string v1, .slice da xs.length dc]) rfl 27 _ (H2.out) isz27 (by simp) (hone.out) ?_; intro w3 hob hgb hzb
      have hs2 := (⟨grown_ext hs1.1 hgb (by omega), hs1.2.grown hgb (by omega)⟩ : Ext w w3 ∧ OB w3 w.heap.size 27 #[.int .i64 1, .string v1, .slice a xs.length c])
      refine ⟨hs2, ?_⟩
      have HOB3 := Lib.hid (show OB w3 (w.heap.size + 1) 27 ⟨[.int .i64 1, .string v1, .slice da xs.length dc]⟩ from hob)
      have HG3 := Lib.hid hgb
      have hq3 : wt.heap.size = w3.heap.size := hzb.symm
      clear hob hgb hzb hwt hot
      simp only [Act.put, List.getElem_toArray, List.getElem_cons_zero, List.getElem_cons_succ, List.setIfInBounds_toArray, List.set_cons_zero, List.set_cons_succ]
      refine wpAnyH_done (by kernel_rfl) ?_ _
      clear hHeld hs1
      go_wp2_with fail
      have hx3 : Ext w w3 := grown_ext (HX0.out.trans HWT.out) HG3.out (by omega)
      refine bodyPost_ret (results_cell_row Try.results13 _ _ (w.heap.size + 1) 27 ⟨[.int .i64 1, .string v1, .slice da xs.length dc]⟩ _ _ rfl HOB3.out Try.underlying27 rfl isz27) rfl ⟨[.int .i64 1, .string v1, .slice da xs.length dc], rfl, hx3, ?_⟩
      have hzd : w.heap.size + 1 + 1 ≤ (w2).drew.heap.size := HB1.out.lt
      have ow := HOT.out.keeps (lo := w.heap.size + 1 + 1) (Keeps.of_grown HG3.out (by omega)) (by intro x hx; exact Nat.le_trans hzd hx.1)
      have hall := OwnL.cons_leaf K0.out (OwnL.cons_leaf K1.out (OwnL.one ow))
      rw [HAT.out]
      exact hall.mono (by intro x hx; have h1 := Nat.le_trans hzd hx.1; exact ⟨by omega, Nat.lt_of_lt_of_le hx.2 HG3.out.size⟩)
  · have HAT : Hid (applyT l (.mk v0 v1 xs) = .mk v0 v1 (applyL l xs)) := by show _ = _; rw [applyT, if_neg hk]
    go_enter Try.func13, Try.ntmps13
    go_wp2_with fail
    have hxw : Ext w ((w.alloc (.cells #[.int .i64 v0, .string v1, .slice a xs.length c] 27)).alloc (.cells #[.int .i64 0, .string ⟨#[]⟩, .slice none 0 0] 27)) := .alloc (.alloc (.refl _) _) _
    have HXW := Lib.hid hxw
    have h2w := Two.new w 27 27 #[.int .i64 v0, .string v1, .slice a xs.length c] #[.int .i64 0, .string ⟨#[]⟩, .slice none 0 0]
    have HB0 := Lib.hid h2w.o0
    have HB1 := Lib.hid h2w.o1
    clear h2w hxw
    have HX0 : Hid (Ext w ((w.alloc (.cells #[.int .i64 v0, .string v1, .slice a xs.length c] 27)).alloc (.cells #[.int .i64 0, .string ⟨#[]⟩, .slice none 0 0] 27)).drew) := .drew HXW.out
    have HC : Hid (∀ W : World, (Ext w W ∧ OB W w.heap.size 27 #[.int .i64 v0, .string v1, .slice a xs.length c]) → ∀ q : Nat, W.cell? ⟨w.heap.size, q, none⟩ = (#[.int .i64 v0, .string v1, .slice a xs.length c] : Array Value)[q]?) := fun W hW q => hW.2.cell q
    refine wp_region_held_drew (S := fun W => Ext w W ∧ OB W w.heap.size 27 #[.int .i64 v0, .string v1, .slice a xs.length c]) (by kernel_rfl) ?_ (fun hHeld => ?_)
    · exact ⟨HX0.out, HB0.out.ext (.drew (.refl _))⟩
    refine wpAnyH_take (i := 0) rfl (by kernel_rfl) (by kernel_rfl) (by kernel_rfl) (fun _ _ _ h => h) (.inl ⟨rfl, fun _ _ => rfl⟩) (by assumption) ?_
    simp only [Act.put, List.getElem_toArray, List.getElem_cons_zero, List.setIfInBounds_toArray, List.set_cons_zero, List.set_cons_succ]
    refine wpAnyH_cell (i := 1) rfl (by kernel_rfl) (by kernel_rfl) (by kernel_rfl) rfl 3 (.tmp 19) rfl (w.heap.size) (0) rfl (.int .i64 v0) _ Try.underlying3 rfl (fun W hW => HC.out W hW 0) (by assumption) (fun _ _ _ _ h => h) ?_
    simp only [Act.put, List.getElem_toArray, List.getElem_cons_zero, List.getElem_cons_succ, List.setIfInBounds_toArray, List.set_cons_zero, List.set_cons_succ]
    refine wpAnyH_take (i := 2) rfl (by kernel_rfl) (by kernel_rfl) (by kernel_rfl) (fun _ _ _ h => h) (.inl ⟨rfl, fun _ _ => rfl⟩) (by assumption) ?_
    simp only [Act.put, List.getElem_toArray, List.getElem_cons_zero, List.getElem_cons_succ, List.setIfInBounds_toArray, List.set_cons_zero, List.set_cons_succ]
    refine wpAnyH_cell (i := 3) rfl (by kernel_rfl) (by kernel_rfl) (by kernel_rfl) rfl 9 (.tmp 21) rfl (w.heap.size) (1) rfl (.string v1) _ Try.underlying9 rfl (fun W hW => HC.out W hW 1) (by assumption) (fun _ _ _ _ h => h) ?_
    simp only [Act.put, List.getElem_toArray, List.getElem_cons_zero, List.getElem_cons_succ, List.setIfInBounds_toArray, List.set_cons_zero, List.set_cons_succ]
    refine wpAnyH_take (i := 4) rfl (by kernel_rfl) (by kernel_rfl) (by kernel_rfl) (fun _ _ _ h => h) (.inl ⟨rfl, fun _ _ => rfl⟩) (by assumption) ?_
    simp only [Act.put, List.getElem_toArray, List.getElem_cons_zero, List.getElem_cons_succ, List.setIfInBounds_toArray, List.set_cons_zero, List.set_cons_succ]
    refine wpAnyH_take (i := 5) rfl (by kernel_rfl) (by kernel_rfl) (by kernel_rfl) (fun _ _ _ h => h) (.inl ⟨rfl, fun _ _ => rfl⟩) (by assumption) ?_
    simp only [Act.put, List.getElem_toArray, List.getElem_cons_zero, List.getElem_cons_succ, List.setIfInBounds_toArray, List.set_cons_zero, List.set_cons_succ]
    refine wpAnyH_cell (i := 6) rfl (by kernel_rfl) (by kernel_rfl) (by kernel_rfl) rfl 25 (.tmp 24) rfl (w.heap.size) (2) rfl (.slice a xs.length c) _ Try.underlying25 rfl (fun W hW => HC.out W hW 2) (by assumption) (fun _ _ _ _ h => h) ?_
    simp only [Act.put, List.getElem_toArray, List.getElem_cons_zero, List.getElem_cons_succ, List.setIfInBounds_toArray, List.set_cons_zero, List.set_cons_succ]
    refine wpAnyH_call (i := 7) (by kernel_rfl) rfl rfl (run_call_func rfl rfl #[s, .slice a xs.length c] (by simp only [List.map_toArray, List.map_cons, List.map_nil, Act.eval]; rfl) Try.func32 (by kernel_rfl) (by kernel_rfl) _) (HCC.out _ _ _ (HB.out.ext HX0.out) (HS.out.ext HX0.out) (by have := HL.out; omega)) ?_; rintro e wt ⟨s', rfl, hwt, hot⟩
    have hs1 := (⟨hHeld.1.trans hwt, hHeld.2.ext hwt⟩ : Ext w wt ∧ OB wt w.heap.size 27 #[.int .i64 v0, .string v1, .slice a xs.length c])
    refine ⟨_, rfl, hs1, ?_⟩
    obtain ⟨da, dc, rfl, -, -⟩ := hot.rep.shape
    rw [GType.trs_len, applyL_len] at *
    have H2 := Lib.hid ((HB1.out.ext (.drew (.refl _))).ext hwt)
    have HWT := Lib.hid hwt
    have HOT := Lib.hid hot
    have hzz : w.heap.size + 1 < wt.heap.size := H2.out.lt
    have hone : Hid (∀ v ∈ ([.int .i64 v0, .string v1, .slice da xs.length dc] : List Value), v.oneCell' = true) := by simp [Value.oneCell', Hid]
    simp only [Act.put, List.getElem_toArray, List.getElem_cons_zero, List.getElem_cons_succ, List.setIfInBounds_toArray, List.set_cons_zero, List.set_cons_succ]
    refine wpAnyH_take (i := 8) (v := .agg ⟨[.int .i64 v0, .string v1, .slice da xs.length dc]⟩) rfl (by kernel_rfl) (by kernel_rfl) (by kernel_rfl) (fun _ _ _ h => h) (.inl ⟨rfl, fun _ _ => by simp [execOp, go_sem]⟩) (by assumption) ?_
    simp only [Act.put, List.getElem_toArray, List.getElem_cons_zero, List.getElem_cons_succ, List.setIfInBounds_toArray, List.set_cons_zero, List.set_cons_succ]
    refine wpAnyH_store_rep (i := 9) (by kernel_rfl) rfl rfl 27 (.tmp 4) (.tmp 27) rfl (w.heap.size + 1) (0) rfl ([.int .i64 v0, .string v1, .slice da xs.length dc]) rfl 27 _ (H2.out) isz27 (by simp) (hone.out) ?_; intro w3 hob hgb hzb
    have hs2 := (⟨grown_ext hs1.1 hgb (by omega), hs1.2.grown hgb (by omega)⟩ : Ext w w3 ∧ OB w3 w.heap.size 27 #[.int .i64 v0, .string v1, .slice a xs.length c])
    refine ⟨hs2, ?_⟩
    have HOB3 := Lib.hid (show OB w3 (w.heap.size + 1) 27 ⟨[.int .i64 v0, .string v1, .slice da xs.length dc]⟩ from hob)
    have HG3 := Lib.hid hgb
    have hq3 : wt.heap.size = w3.heap.size := hzb.symm
    clear hob hgb hzb hwt hot
    simp only [Act.put, List.getElem_toArray, List.getElem_cons_zero, List.getElem_cons_succ, List.setIfInBounds_toArray, List.set_cons_zero, List.set_cons_succ]
    refine wpAnyH_done (by kernel_rfl) ?_ _
    clear hHeld hs1
    go_wp2_with fail
    have hx3 : Ext w w3 := grown_ext (HX0.out.trans HWT.out) HG3.out (by omega)
    refine bodyPost_ret (results_cell_row Try.results13 _ _ (w.heap.size + 1) 27 ⟨[.int .i64 v0, .string v1, .slice da xs.length dc]⟩ _ _ rfl HOB3.out Try.underlying27 rfl isz27) rfl ⟨[.int .i64 v0, .string v1, .slice da xs.length dc], rfl, hx3, ?_⟩
    have hzd : w.heap.size + 1 + 1 ≤ ((w.alloc (.cells #[.int .i64 v0, .string v1, .slice a xs.length c] 27)).alloc (.cells #[.int .i64 0, .string ⟨#[]⟩, .slice none 0 0] 27)).drew.heap.size := HB1.out.lt
    have ow := HOT.out.keeps (lo := w.heap.size + 1 + 1) (Keeps.of_grown HG3.out (by omega)) (by intro x hx; exact Nat.le_trans hzd hx.1)
    have hall := OwnL.cons_leaf K0.out (OwnL.cons_leaf K1.out (OwnL.one ow))
    rw [HAT.out]
    exact hall.mono (by intro x hx; have h1 := Nat.le_trans hzd hx.1; exact ⟨by omega, Nat.lt_of_lt_of_le hx.2 HG3.out.size⟩)
end Go.Proofs.Ytmpepccpnnldoaa

namespace Go.Proofs.Ytmpepccpnnldoaa
open Go.RowKit Go.Proofs

/-- What a variable's binding adds to a type's size. -/
def bindW (l : List GBinding) (v : ByteArray) : Nat := match l.find? (fun b => decide (GBinding.gVar b = v)) with
  | some b => GType.size b.gType - 1
  | none => 0
/-- The names of the variables in a list of nodes. -/
def varsIn (ts : List GType) : List ByteArray := (ts.filter fun u => decide (u.gKind = 1)).map fun u => u.gName
def sumW (l : List GBinding) (vs : List ByteArray) : Nat := (vs.map (bindW l)).sum
theorem sumW_append (l : List GBinding) (a b : List ByteArray) : sumW l (a ++ b) = sumW l a + sumW l b := by simp [sumW]
theorem varsIn_append (a b : List GType) : varsIn (a ++ b) = varsIn a ++ varsIn b := by simp [varsIn]
theorem GType.size_pos (t : GType) : 1 ≤ GType.size t := by
  cases t
  simp only [GType.size]
  omega
theorem applyL_size_le {l : List GBinding} : ∀ {xs : List GType}, (∀ x ∈ xs, GType.size (applyT l x) ≤ GType.size x + sumW l (varsIn x.pre)) → GType.sizes (applyL l xs) ≤ GType.sizes xs + sumW l (varsIn (GType.pres xs))
  | [], _ => by simp [applyL, GType.sizes]
  | x :: r, h => by
    have h1 := h x (by simp)
    have h2 := applyL_size_le (xs := r) fun y hy => h y (by simp [hy])
    simp only [applyL, GType.sizes, GType.pres, varsIn_append, sumW_append]
    omega
theorem applyL_size_eq {l : List GBinding} : ∀ {xs : List GType}, (∀ x ∈ xs, GType.size (applyT l x) = GType.size x + sumW l (varsIn x.pre)) → GType.sizes (applyL l xs) = GType.sizes xs + sumW l (varsIn (GType.pres xs))
  | [], _ => by simp [applyL, GType.sizes, sumW, varsIn, GType.pres]
  | x :: r, h => by
    have h1 := h x (by simp)
    have h2 := applyL_size_eq (xs := r) fun y hy => h y (by simp [hy])
    simp only [applyL, GType.sizes, GType.pres, varsIn_append, sumW_append]
    omega
theorem varsIn_mk (k : Int) (n : ByteArray) (xs : List GType) : varsIn (GType.pre (.mk k n xs)) = (if k = 1 then [n] else []) ++ varsIn (GType.pres xs) := by
  rw [GType.pre, varsIn, List.filter_cons]
  by_cases h : k = 1 <;> simp [h, varsIn]
theorem apply_size_le (l : List GBinding) : ∀ t : GType, GType.size (applyT l t) ≤ GType.size t + sumW l (varsIn t.pre) := by
  refine GType.ind fun k n xs ih => ?_
  have hx := applyL_size_le ih
  rw [varsIn_mk, sumW_append]
  rw [applyT]
  split
  · rename_i hk
    split
    · rename_i b hb
      have : bindW l n = GType.size b.gType - 1 := by unfold bindW; rw [hb]
      have := GType.size_pos b.gType
      simp only [if_pos hk, sumW, List.map_cons, List.map_nil, List.sum_cons, List.sum_nil, GType.size]
      omega
    · simp only [GType.size]
      omega
  · simp only [GType.size]
    omega
theorem apply_size_eq (l : List GBinding) : ∀ t : GType, (∀ u ∈ t.pre, u.gKind = 1 → u.gArgs = []) → GType.size (applyT l t) = GType.size t + sumW l (varsIn t.pre) := by
  refine GType.ind fun k n xs ih h => ?_
  have hx := applyL_size_eq (l := l) (xs := xs) fun x hx => ih x hx fun u hu => h u (by
    rw [GType.pre]
    refine List.mem_cons_of_mem _ ?_
    clear ih h
    induction xs with
    | nil => simp at hx
    | cons a r ihr =>
      rw [GType.pres, List.mem_append]
      rcases List.mem_cons.1 hx with rfl | hx
      · exact .inl hu
      · exact .inr (ihr hx))
  rw [varsIn_mk, sumW_append]
  rw [applyT]
  split
  · rename_i hk
    have h0 : xs = [] := h (.mk k n xs) (by rw [GType.pre]; simp) (by simpa using hk)
    subst h0
    split
    · rename_i b hb
      have : bindW l n = GType.size b.gType - 1 := by unfold bindW; rw [hb]
      have := GType.size_pos b.gType
      simp only [if_pos hk, sumW, List.map_cons, List.map_nil, List.sum_cons, List.sum_nil, GType.size, GType.sizes, GType.pres, varsIn, List.filter_nil]
      omega
    · rename_i hb
      have : bindW l n = 0 := by unfold bindW; rw [hb]
      simp [if_pos hk, sumW, GType.size, GType.sizes, applyL, GType.pres, varsIn, this]
  · rename_i hk
    simp only [if_neg hk, GType.size, sumW, List.map_nil, List.sum_nil]
    have := hx
    simp only [sumW] at this
    omega
def cnt (v : ByteArray) : List ByteArray → Nat
  | [] => 0
  | x :: r => (if x = v then 1 else 0) + cnt v r
theorem foldl_count (v : ByteArray) : ∀ (ts : List GType) (n : Nat), ts.foldl (countStep v) n = n + cnt v (varsIn ts)
  | [], n => by simp [varsIn, cnt]
  | u :: ts, n => by
    rw [List.foldl_cons, foldl_count v ts]
    unfold countStep varsIn
    rw [List.filter_cons]
    by_cases hk : u.gKind = 1
    · by_cases hn : u.gName = v
      · simp [hk, hn, cnt]; omega
      · simp [hk, hn, cnt]
    · simp [hk]
theorem count_varsIn (v : ByteArray) (t : GType) : GType.count v t = cnt v (varsIn t.pre) := by rw [GType.count, foldl_count]; omega
theorem vars_has : ∀ (ts : List GType) (out : List ByteArray) (v : ByteArray), v ∈ out ∨ v ∈ varsIn ts → v ∈ ts.foldl varStep out
  | [], out, v, h => by simpa [varsIn] using h
  | u :: ts, out, v, h => by
    rw [List.foldl_cons]
    refine vars_has ts _ v ?_
    unfold varsIn at h ⊢
    rw [List.filter_cons] at h
    by_cases hk : u.gKind = 1
    · simp only [hk, decide_true, if_true, List.map_cons, List.mem_cons] at h
      have hm : v ∈ out ∨ v = u.gName → v ∈ varStep out u := by
        intro h
        unfold varStep hasS
        split
        · rcases h with h | h
          · simp [h]
          · simp [h]
        · rename_i hc
          rcases h with h | rfl
          · exact h
          · simp only [hk, true_and, Bool.not_eq_false, List.any_eq_true, decide_eq_true_eq] at hc
            obtain ⟨x, hx, rfl⟩ := hc
            exact hx
      rcases h with h | h | h
      · exact .inl (hm (.inl h))
      · exact .inl (hm (.inr h))
      · exact .inr h
    · simp only [hk, decide_false, Bool.false_eq_true, if_false] at h
      rcases h with h | h
      · refine .inl ?_
        unfold varStep
        rw [if_neg (fun hc => hk hc.1)]
        exact h
      · exact .inr h
theorem cnt_out (f : ByteArray → Nat) {x : ByteArray} : ∀ {b : List ByteArray}, 1 ≤ cnt x b → ∃ c : List ByteArray, (∀ v, cnt v b = (if x = v then 1 else 0) + cnt v c) ∧ (b.map f).sum = f x + (c.map f).sum
  | [], h => by simp [cnt] at h
  | a :: r, h => by
    by_cases e : a = x
    · subst e
      exact ⟨r, fun v => rfl, by simp⟩
    · simp only [cnt, if_neg e, Nat.zero_add] at h
      obtain ⟨c, h1, h2⟩ := cnt_out f h
      refine ⟨a :: c, fun v => ?_, ?_⟩
      · simp only [cnt, h1 v]
        omega
      · simp only [List.map_cons, List.sum_cons, h2]
        omega
theorem sum_le_of_count (f : ByteArray → Nat) : ∀ (a b : List ByteArray), (∀ v ∈ a, cnt v a ≤ cnt v b) → (a.map f).sum ≤ (b.map f).sum
  | [], b, _ => by simp
  | x :: r, b, h => by
    have hx := h x (by simp)
    simp only [cnt, if_pos] at hx
    obtain ⟨c, h1, h2⟩ := cnt_out f (x := x) (b := b) (by omega)
    have ih := sum_le_of_count f r c fun v hv => by
      have h3 := h v (by simp [hv])
      rw [h1 v] at h3
      simp only [cnt] at h3
      omega
    rw [List.map_cons, List.sum_cons, h2]
    omega
/-- A bound that is smaller than the head stays smaller, whatever is put for the variables. -/
theorem smaller_apply {b : GBound} {head : GType} (h : GBound.smaller b head = true) (hn : ∀ u ∈ head.pre, u.gKind = 1 → u.gArgs = []) (l : List GBinding) : GType.size (applyT l b.gType) < GType.size (applyT l head) := by
  unfold GBound.smaller at h
  simp only [Bool.and_eq_true, List.all_eq_true, decide_eq_true_eq] at h
  have h1 := apply_size_le l b.gType
  have h2 := apply_size_eq l head hn
  have h3 : sumW l (varsIn b.gType.pre) ≤ sumW l (varsIn head.pre) := by
    refine sum_le_of_count _ _ _ fun v hv => ?_
    have := h.1 v (vars_has _ _ v (.inr hv))
    rwa [count_varsIn, count_varsIn] at this
  omega
end Go.Proofs.Ytmpepccpnnldoaa

namespace Go.Proofs.Ytmpepccpnnldoaa
set_option linter.unusedSimpArgs false
set_option linter.unusedVariables false
open Go.RowKit Go.Proofs

theorem ty_rep {w : World} {x : GType} {v : Value} (h : RV0 w (GType.pv x) v) : ∃ cs, v = .agg ⟨cs⟩ ∧ RepL w x.tr cs := by
  obtain ⟨c, rfl, h0⟩ := h
  exact ⟨c, rfl, RVL.ofTr (by rw [GType.tr_cs]; exact h0)⟩
theorem in_rep {w : World} {x : GInstance} {v : Value} (h : RV0 w (GInstance.pv x) v) : ∃ cs, v = .agg ⟨cs⟩ ∧ RepL w x.tr cs := by
  obtain ⟨c, rfl, h0⟩ := h
  exact ⟨c, rfl, RVL.ofTr (by rw [GInstance.tr_cs]; exact h0)⟩
theorem sTerm_fn (x : GInstance) (hs : GInstance.small x) : AFun Try.prog 9 [GInstance.pv x] (.t (.leaf (.bool (GInstance.term x)))) :=
  AFun.ofLeaf rfl trivial fun w vals hv => by
    match vals, hv with
    | [v0], hv =>
      obtain ⟨c0, rfl, h0⟩ := in_rep hv.1
      exact term_spec x _ _ h0 hs
theorem iTerm_fn (x : GInstance) (hs : GInstance.small x) : AFun Try.prog 8 [GInstance.pv x] (.t (.leaf (.bool (GInstance.term x)))) :=
  AFun.ofLeaf rfl trivial fun w vals hv => by
    match vals, hv with
    | [v0], hv =>
      obtain ⟨c0, rfl, h0⟩ := in_rep hv.1
      exact term_impl x _ _ h0 hs
theorem iTySize_fn (x : GType) (hb : Tr.bulkL (GType.tr x) ≤ 68719476735) : AFun Try.prog 12 [GType.pv x] (.t (.leaf (.int .i64 ((GType.size x : Nat) : Int)))) :=
  AFun.ofLeaf rfl (i64_leaf (by omega) (by have := GType.size_bulk x; omega)) fun w vals hv => by
    match vals, hv with
    | [v0], hv =>
      obtain ⟨c0, rfl, h0⟩ := ty_rep hv.1
      exact typeSize_impl x _ _ h0 (by have := GType.size_bulk x; omega)
/-- The types that are put in are not too great. -/
def BdSmall (l : List GBinding) : Prop := ∀ b ∈ l, Tr.bulkL (GType.tr b.gType) ≤ 68719476735
theorem iApplyTy_fn (l : List GBinding) (x : GType) (hl : BdSmall l) (hb : Tr.bulkL (GType.tr x) ≤ 68719476735) : AFun Try.prog 13 [.t (.row 4 (GBinding.trs l)), GType.pv x] (GType.pv (applyT l x)) := by
  have h := AFun.ofFreshL (P := Try.prog) (f := 13) (args := [.t (.row 4 (GBinding.trs l)), GType.pv x]) (ts := (applyT l x).tr) rfl fun w vals hv => by
    match vals, hv with
    | [v0, v1], hv =>
      obtain ⟨c0, rfl, h0⟩ := ty_rep hv.2.1
      exact applyP l hl x _ _ _ (RepM.rep hv.1) h0 (by omega)
  rw [GType.tr_cs] at h
  exact h
end Go.Proofs.Ytmpepccpnnldoaa

namespace Go.Proofs.Ytmpepccpnnldoaa
set_option maxRecDepth 100000
set_option maxHeartbeats 40000000
noncomputable section
open Go.RowKit Go.Proofs
set_option linter.unusedSimpArgs false
set_option linter.unusedVariables false

attribute [local irreducible] lt

def lbig_T (m : (List UInt8) → Option Bool) : Prop := ∀ (pcode : List UInt8) (r : Bool), m pcode = some r → AFun Try.prog 6 [rU pcode] (pB r : PV)
def lbig_M (fu : Nat) (pcode : List UInt8) : Option Bool :=
 some (decide ((((pcode.length : Nat) : Int) : Int) > 1048576))
theorem lbig_ok (fu : Nat)   : lbig_T (lbig_M fu) := by
  intro pcode r H
  have H := hd0 H
  refine qI Try.func6 (fun C hC => ?_)
  refine qS (qR (q1 rMv (qN (qS (qR (q1 rMv (q1 (rLn el22 (byteTrs_len _)) (q1 rGt (q1 rMv (qN (AWP.ret ?_)))))))))))
  obtain rfl : _ = r := (smI H :)
  exact qe1

def sDrawSatisfiesTermination_T (m : (List UInt8) → Option GInstance) : Prop := ∀ (pcode : List UInt8) (r : GInstance), m pcode = some r → AFun Try.prog 7 [rU pcode] ((GInstance.pv r) : PV)
def sDrawSatisfiesTermination_M (fu : Nat) (pcode : List UInt8) : Option GInstance :=
 gd ((pcode).length ≤ 1048576)
 (bd (sl13Inst_M fu (DS.start pcode)) (fun (x3, x4) =>
 some x3))
theorem sDrawSatisfiesTermination_ok (fu : Nat)   : sDrawSatisfiesTermination_T (sDrawSatisfiesTermination_M fu) := by
  intro pcode r H
  have H := hd0 H
  refine qI Try.func7 (fun C hC => ?_)
  refine qS (qR (q1 (rAl zr31) (qN (qS (qR (q1 rMv (gdE H fun z1 H => (q1 (AOp.callNew (ps := [_]) rfl rfl Try.func24 (by kernel_rfl) rfl rfl leA rfl rfl (new_ok pcode z1)) (bdE2 H fun x3 x4 z2 H => (q1 (rCp [1] [] Try.func23 (sl13Inst_ok fu (DS.start pcode) _ z2)) (q1 (rSu sz31) (qN (AWP.ret ?_)))))))))))))
  obtain rfl : _ = r := (smI H :)
  exact qe1 (hr := ⟨⟨_, _, _, rfl, rfl, sh31, rfl, rfl⟩, trivial⟩)

def ltail_T (m : (List UInt8) → Option ((List UInt8))) : Prop := ∀ (pcode : List UInt8) (r : (List UInt8)), m pcode = some r → AFun Try.prog 11 [rU pcode] (rU r : PV)
def ltail_M (fu : Nat) (pcode : List UInt8) : Option ((List UInt8)) :=
 sw (decide ((((pcode.length : Nat) : Int) : Int) = 0))
 (some pcode)
 (gd ((0 : Int) ≤ 1 ∧ (1 : Int) ≤ ((pcode.length : Nat) : Int) ∧ (((pcode.length : Nat) : Int) : Int) ≤ ((pcode.length : Nat) : Int))
 (some (List.drop (1 : Int).toNat (List.take (((pcode.length : Nat) : Int) : Int).toNat pcode))))
theorem ltail_ok (fu : Nat)   : ltail_T (ltail_M fu) := by
  intro pcode r H
  have H := hd0 H
  refine qI Try.func11 (fun C hC => ?_)
  refine qS (qR (q1 rMv (qN ?_)))
  iterate 2 refine qS ?_
  refine qR (q1 rMv (q1 (rLn el22 (byteTrs_len _)) (q1 rEq (qN ?_))))
  refine cndB H (fun h1 H => ?_) (fun h1 H => ?_)
  · refine qS (qR ?_)
    iterate 2 refine q1 rMv ?_
    refine qN (AWP.ret ?_)
    obtain rfl : _ = r := (smI H :)
    exact qe1
  refine AWP.skip (qS (qR (q1 rMv (gdE H fun z2 H => ?_))))
  refine q1 (AOp.congrP (AOp.sliceR (es := byteTrs (pcode)) (l := 1) (k := ((pcode.length : Nat) : Int)) rfl rfl rfl rfl rfl (by rw [byteTrs_len]; exact rfl) (by rw [byteTrs_len]; exact z2) el22) (byteTrs_part _ _ _)) ?_; refine q1 rMv (qN (AWP.ret ?_))
  obtain rfl : _ = r := (smI H :)
  exact qe1

def sDrawApply_T (m : (List UInt8) → Option ((List GBinding) × GType)) : Prop := ∀ (pcode : List UInt8) (r : (List GBinding) × GType), m pcode = some r → AFun Try.prog 10 [rU pcode] (.tup [rBinding r.1, (GType.pv r.2)] : PV)
def sDrawApply_M (fu : Nat) (pcode : List UInt8) : Option ((List GBinding) × GType) :=
 gd ((pcode).length ≤ 1048576)
 (bd (sl6Binds_M fu (DS.start pcode)) (fun (x3, x4) =>
 bd (sl4Bent_M fu x4) (fun (x6, x7) =>
 some (x3, x6))))
theorem sDrawApply_ok (fu : Nat)   : sDrawApply_T (sDrawApply_M fu) := by
  intro pcode r H
  have H := hd0 H
  refine qI Try.func10 (fun C hC => ?_)
  refine qS (qR (q1 rMv (q1 (rAl zr27) (qN (qS (qR (q1 rMv (gdE H fun z1 H => (q1 (AOp.callNew (ps := [_]) rfl rfl Try.func24 (by kernel_rfl) rfl rfl leA rfl rfl (new_ok pcode z1)) (q1 rMv (qN (qS (qR ?_)))))))))))))
  refine q1 rMv (bdE2 H fun x3 x4 z2 H => (q1 (rCp [1] [] Try.func29 (sl6Binds_ok fu (DS.start pcode) _ z2)) (q1 rMv (bdE2 H fun x6 x7 z5 H => (q1 (rCp [1] [] Try.func30 (sl4Bent_ok fu x4 _ z5)) (q1 rMv (q1 (rSu sz27) (qN (AWP.ret ?_)))))))))
  obtain rfl : _ = r := (smI H :)
  exact qe2 (hr := ⟨rfl, ⟨_, _, _, rfl, rfl, sh27, rfl, rfl⟩, trivial⟩)

def lFnEnds_T (m : (List UInt8) → Option Bool) : Prop := ∀ (pcode : List UInt8) (r : Bool), m pcode = some r → AFun Try.prog 3 [rU pcode] (pB r : PV)
def lFnEnds_F1 (fu : Nat) (pcode : List UInt8) (x2 : Bool) (x5 : GInstance) (x10 : List UInt8) (x12 : List GBinding) (x13 : GType) : Nat → Unit → Option (LR Unit Bool) :=
 fun i15 _ => gd (BdSmall x12)
 (gd (Tr.bulkL (GType.tr ((atD x5.gWhere i15).gType)) ≤ 68719476735)
 (gd (Tr.bulkL (GType.tr (applyT x12 ((atD x5.gWhere i15).gType))) ≤ 68719476735)
 (gd (Tr.bulkL (GType.tr x5.gHead) ≤ 68719476735)
 (gd (Tr.bulkL (GType.tr (applyT x12 x5.gHead)) ≤ 68719476735)
 (sw (decide ((((GType.size (applyT x12 ((atD x5.gWhere i15).gType)) : Nat) : Int) : Int) ≥ ((GType.size (applyT x12 x5.gHead) : Nat) : Int)))
 (some (.ret false))
 (some (.next ())))))))
def lFnEnds_R1 (fu : Nat) (pcode : List UInt8) (x2 : Bool) (x5 : GInstance) (x10 : List UInt8) (x12 : List GBinding) (x13 : GType) : Option (Bool ⊕ Unit) :=
 loopN (lFnEnds_F1 fu pcode x2 x5 x10 x12 x13) (x5.gWhere.length - 0) 0 ()
def lFnEnds_M (fu : Nat) (pcode : List UInt8) : Option Bool :=
 bd (lbig_M fu pcode) (fun x2 =>
 sw (x2)
 (some true)
 (bd (sDrawSatisfiesTermination_M fu pcode) (fun x5 =>
 gd (GInstance.small x5)
 (sw (!decide ((GInstance.term x5 : Bool) = (GInstance.term x5)))
 (some (decide ((GInstance.term x5 : Bool) = (GInstance.term x5))))
 (sw (!(GInstance.term x5))
 (some (decide ((GInstance.term x5 : Bool) = (GInstance.term x5))))
 (bd (ltail_M fu pcode) (fun x10 =>
 bd (sDrawApply_M fu x10) (fun (x12, x13) =>
 sw (decide ((x13.gKind : Int) = 0))
 (some true)
 (so (lFnEnds_R1 fu pcode x2 x5 x10 x12 x13) (fun _ =>
 some true))))))))))
theorem lFnEnds_ok (fu : Nat)   : lFnEnds_T (lFnEnds_M fu) := by
  intro pcode r H
  have H := hd0 H
  refine qI Try.func3 (fun C hC => ?_)
  refine qS (qR (q1 rMv (qN ?_)))
  iterate 2 refine qS ?_
  refine qR (q1 rMv (bdE H fun x2 z1 H => (q1 (rCf Try.func6 (lbig_ok fu pcode _ z1)) (qN ?_))))
  refine cndB H (fun h3 H => ?_) (fun h3 H => ?_)
  · refine qS (qR (q1 rMv (qN (AWP.ret ?_))))
    obtain rfl : _ = r := (smI H :)
    exact qe1
  refine AWP.skip (qS (qR (q1 rMv (bdE H fun x5 z4 H => (q1 (rCf Try.func7 (sDrawSatisfiesTermination_ok fu pcode _ z4)) (q1 (rAl zr31) (q1 (rSu sz31) (qN ?_))))))))
  iterate 2 refine qS ?_
  refine gdE H fun z6 H => ?_
  rcases bool2 (!decide ((GInstance.term x5 : Bool) = (GInstance.term x5))) with g7 | g7
  · have H := swI1 H g7
    refine dW (dD [3] (rLp [pS x5.gTrait, rS x5.gVars, pI x5.gHead.gKind, pS x5.gHead.gName, rType x5.gHead.gArgs, rBound x5.gWhere, pB x5.gDefault, pB x5.gHasAssoc, pI x5.gAssoc.gKind, pS x5.gAssoc.gName, rType x5.gAssoc.gArgs, rMethod x5.gMethods] sh31) (dI [11] (rCf Try.func8 (iTerm_fn x5 z6)) (dD [3] (rLp [pS x5.gTrait, rS x5.gVars, pI x5.gHead.gKind, pS x5.gHead.gName, rType x5.gHead.gArgs, rBound x5.gWhere, pB x5.gDefault, pB x5.gHasAssoc, pI x5.gAssoc.gKind, pS x5.gAssoc.gName, rType x5.gAssoc.gArgs, rMethod x5.gMethods] sh31) (dI [13] (rCf Try.func9 (sTerm_fn x5 z6)) (dI [12, 14] (AOp.neqB rfl rfl rfl rfl Try.underlying4) (dI [15] rMv ?_))))))
    iterate 3 refine dSk g7 ?_
    refine dI [16] (rPt g7) (dN (cndT rfl (qS (dW (dD [3] (rLp [pS x5.gTrait, rS x5.gVars, pI x5.gHead.gKind, pS x5.gHead.gName, rType x5.gHead.gArgs, rBound x5.gWhere, pB x5.gDefault, pB x5.gHasAssoc, pI x5.gAssoc.gKind, pS x5.gAssoc.gName, rType x5.gAssoc.gArgs, rMethod x5.gMethods] sh31) (dI [21] (rCf Try.func8 (iTerm_fn x5 z6)) (dD [3] (rLp [pS x5.gTrait, rS x5.gVars, pI x5.gHead.gKind, pS x5.gHead.gName, rType x5.gHead.gArgs, rBound x5.gWhere, pB x5.gDefault, pB x5.gHasAssoc, pI x5.gAssoc.gKind, pS x5.gAssoc.gName, rType x5.gAssoc.gArgs, rMethod x5.gMethods] sh31) (dI [23] (rCf Try.func9 (sTerm_fn x5 z6)) (dI [22, 24] (AOp.eqlB rfl rfl rfl rfl Try.underlying4) (dI [25] rMv (dN (AWP.ret ?_))))))))))))
    obtain rfl : _ = r := (smI H :)
    exact qe1
  have H := swI0 H g7
  refine dW (dD [3] (rLp [pS x5.gTrait, rS x5.gVars, pI x5.gHead.gKind, pS x5.gHead.gName, rType x5.gHead.gArgs, rBound x5.gWhere, pB x5.gDefault, pB x5.gHasAssoc, pI x5.gAssoc.gKind, pS x5.gAssoc.gName, rType x5.gAssoc.gArgs, rMethod x5.gMethods] sh31) (dI [11] (rCf Try.func8 (iTerm_fn x5 z6)) (dD [3] (rLp [pS x5.gTrait, rS x5.gVars, pI x5.gHead.gKind, pS x5.gHead.gName, rType x5.gHead.gArgs, rBound x5.gWhere, pB x5.gDefault, pB x5.gHasAssoc, pI x5.gAssoc.gKind, pS x5.gAssoc.gName, rType x5.gAssoc.gArgs, rMethod x5.gMethods] sh31) (dI [13] (rCf Try.func9 (sTerm_fn x5 z6)) (dI [12, 14] (AOp.neqB rfl rfl rfl rfl Try.underlying4) (dI [15] rMv (dD (hg := wantT g7) [3] (rLp [pS x5.gTrait, rS x5.gVars, pI x5.gHead.gKind, pS x5.gHead.gName, rType x5.gHead.gArgs, rBound x5.gWhere, pB x5.gDefault, pB x5.gHasAssoc, pI x5.gAssoc.gKind, pS x5.gAssoc.gName, rType x5.gAssoc.gArgs, rMethod x5.gMethods] sh31) (dI (hg := wantT g7) [17] (rCf Try.func8 (iTerm_fn x5 z6)) (dI (hg := wantT g7) [18] rNo (dI [16, 19] (rPf g7) (dN ?_)))))))))))
  refine cndB H (fun h8 H => ?_) (fun h8 H => ?_)
  · refine qS (dW (dD [3] (rLp [pS x5.gTrait, rS x5.gVars, pI x5.gHead.gKind, pS x5.gHead.gName, rType x5.gHead.gArgs, rBound x5.gWhere, pB x5.gDefault, pB x5.gHasAssoc, pI x5.gAssoc.gKind, pS x5.gAssoc.gName, rType x5.gAssoc.gArgs, rMethod x5.gMethods] sh31) (dI [21] (rCf Try.func8 (iTerm_fn x5 z6)) (dD [3] (rLp [pS x5.gTrait, rS x5.gVars, pI x5.gHead.gKind, pS x5.gHead.gName, rType x5.gHead.gArgs, rBound x5.gWhere, pB x5.gDefault, pB x5.gHasAssoc, pI x5.gAssoc.gKind, pS x5.gAssoc.gName, rType x5.gAssoc.gArgs, rMethod x5.gMethods] sh31) (dI [23] (rCf Try.func9 (sTerm_fn x5 z6)) (dI [22, 24] (AOp.eqlB rfl rfl rfl rfl Try.underlying4) (dI [25] rMv (dN (AWP.ret ?_)))))))))
    obtain rfl : _ = r := (smI H :)
    exact qe1
  refine AWP.skip (qS (qR (q1 rMv (bdE H fun x10 z9 H => (q1 (rCf Try.func11 (ltail_ok fu pcode _ z9)) (bdE2 H fun x12 x13 z11 H => (q1 (rCf Try.func10 (sDrawApply_ok fu x10 _ z11)) (q1 rMv ?_))))))))
  iterate 2 refine q1 rEx ?_
  refine q1 (rAl zr27) (q1 rMv (q1 (rSu sz27) (qN ?_)))
  iterate 2 refine qS ?_
  refine qR (q1 (rFp fo27_0) (q1 (rL1 sh3) (q1 rEq (qN ?_))))
  refine cndB H (fun h14 H => ?_) (fun h14 H => ?_)
  · refine qS (qR (q1 rMv (qN (AWP.ret ?_))))
    obtain rfl : _ = r := (smI H :)
    exact qe1
  refine AWP.skip ?_
  iterate 2 refine qS ?_
  refine qR (q1 rMv (qN ?_))
  refine AWP.fact (box_lenN 0 5 rfl rfl rfl (GBound.trs_len _)) (fun hl16 => ?_)
  refine loopB (σ := Unit) (fun i15 _ => ⟨[(2, pB false), (3, .ptr 0 0), (4, rBinding x12), (6, pN i15)], ⟨[some ⟨31, cInstance x5⟩, some ⟨27, cType x13⟩], []⟩⟩) (fun _ => ⟨[(2, pB false)], ⟨[some ⟨31, cInstance x5⟩, some ⟨27, cType x13⟩], []⟩⟩) (soI H) ?_ ?_
  · rintro i15 ⟨⟩ H
    iterate 2 refine qS ?_
    refine qR (q1 rMv (q1 (rFp fo31_3) (q1 (rL1 sh28) (q1 (rLn el28 (GBound.trs_len _)) (q1 rLt (qN ?_))))))
    refine cndL H (fun h17 h17l H => ?_) (fun h17 H => ?_)
    · have h17n := nat_lt_of h17
      refine AWP.skip (qS (AWP.block (qS (gdE H fun z18 H => (gdE H fun z19 H => (gdE H fun z20 H => (gdE H fun z21 H => (gdE H fun z22 H => (dW (dI [4] rMv (dI [3] (rFp fo31_3) (dD [43] (rL1 sh28) (dI [6] rMv ?_)))))))))))))
      refine dI [44, 45] (rIx h17n el28) (dI [46] (rFe fo41_1) (dI [47] (rKe (GType.cs ((atD x5.gWhere i15).gType)) sh27) (dI [42, 48] (rCf Try.func13 (iApplyTy_fn x12 ((atD x5.gWhere i15).gType) z18 z19)) (dI [49] (rCf Try.func12 (iTySize_fn (applyT x12 ((atD x5.gWhere i15).gType)) z20)) (dI [4] rMv (dI [3] (rFp fo31_2) (dD [52] (rLp [pI x5.gHead.gKind, pS x5.gHead.gName, rType x5.gHead.gArgs] sh27) (dI [51, 53] (rCf Try.func13 (iApplyTy_fn x12 x5.gHead z18 z21)) (dI [54] (rCf Try.func12 (iTySize_fn (applyT x12 x5.gHead) z22)) (dI [50, 55] rGe (dN ?_)))))))))))
      refine cndB H (fun h23 H => ?_) (fun h23 H => ?_)
      · refine qS (qR (q1 rMv (qN (AWP.ret ?_))))
        obtain rfl : _ = r := (lkR (smI H) :)
        exact qe1
      refine AWP.skip (qR (q1 rMv (q1 (AOp.addI rfl rfl rfl rfl (c := ((i15 + 1 : Nat) : Int)) (by omega) (by omega)) (q1 rMv (qN ?_)))))
      exact lpN h17l ⟨_, (smI H :), wkA⟩
    refine AWP.exit ?_; exact lpX ⟨_, H, wkA⟩
  rintro ⟨⟩ H
  refine qS (qR (q1 rMv (qN (AWP.ret ?_))))
  obtain rfl : _ = r := (smI H :)
  exact qe1

end
end Go.Proofs.Ytmpepccpnnldoaa

namespace Go.Proofs.Ytmpepccpnnldoaa
set_option linter.unusedSimpArgs false
set_option linter.unusedVariables false

/-- It holds of all great enough numbers. -/
def Evt (P : Nat → Prop) : Prop := ∃ N, ∀ n, N ≤ n → P n
theorem Evt.all {P : Nat → Prop} (h : ∀ n, P n) : Evt P := ⟨0, fun n _ => h n⟩
theorem Evt.and {P Q : Nat → Prop} (h : Evt P) (k : Evt Q) : Evt fun n => P n ∧ Q n := by
  obtain ⟨a, h⟩ := h
  obtain ⟨b, k⟩ := k
  exact ⟨max a b, fun n hn => ⟨h n (by omega), k n (by omega)⟩⟩
theorem Evt.imp {P Q : Nat → Prop} (h : Evt P) (k : ∀ n, P n → Q n) : Evt Q := by
  obtain ⟨a, h⟩ := h
  exact ⟨a, fun n hn => k n (h n hn)⟩
theorem Evt.succ {P : Nat → Prop} (h : Evt fun n => P (n + 1)) : Evt P := by
  obtain ⟨a, h⟩ := h
  exact ⟨a + 1, fun n hn => by
    obtain ⟨m, rfl⟩ : ∃ m, n = m + 1 := ⟨n - 1, by omega⟩
    exact h m (by omega)⟩
/-- .. of each index below n. -/
theorem Evt.below {P : Nat → Nat → Prop} : ∀ {k : Nat}, (∀ i, i < k → Evt (P i)) → Evt fun n => ∀ i, i < k → P i n
  | 0, _ => .all fun n i hi => by omega
  | k + 1, h => ((h k (by omega)).and (Evt.below (k := k) fun i hi => h i (Nat.lt_succ_of_lt hi))).imp fun n hn i hi => by
    rcases Nat.lt_or_ge i k with h1 | h1
    · exact hn.2 i h1
    · obtain rfl : i = k := by omega
      exact hn.1
theorem Evt.get {P : Nat → Prop} (h : Evt P) : ∃ n, P n := by
  obtain ⟨a, h⟩ := h
  exact ⟨a, h a (Nat.le_refl _)⟩

section
variable {α σ β : Type} [Inhabited α] {f : Nat → σ → Option (LR σ β)}
theorem atD_mem {l : List α} {i : Nat} (h : i < l.length) : atD l i ∈ l := by rw [atD_eq h]; exact List.getElem_mem h
/-- One round that goes on. -/
theorem loopN_step {n i : Nat} {s s' : σ} (h : i < n) (e : f i s = some (.next s')) : loopN f (n - i) i s = loopN f (n - (i + 1)) (i + 1) s' := loopN_next h rfl e
theorem loopN_out {n i : Nat} {s : σ} {x : β} (h : i < n) (e : f i s = some (.ret x)) : loopN f (n - i) i s = some (.inl x) := loopN_ret h rfl e
theorem loopN_off {n i : Nat} {s s' : σ} (h : i < n) (e : f i s = some (.brk s')) : loopN f (n - i) i s = some (.inr s') := loopN_brk h rfl e
theorem loopN_all {n i : Nat} {s : σ} (h : n ≤ i) : loopN f (n - i) i s = some (.inr s) := loopN_end h rfl
end
end Go.Proofs.Ytmpepccpnnldoaa

namespace Go.Proofs.Ytmpepccpnnldoaa
set_option linter.unusedSimpArgs false
set_option linter.unusedVariables false
open Go.RowKit Go.WalkArith Go.IntWalk

def Ok {α : Type} (o : Option α) (P : α → Prop) : Prop := ∃ a, o = some a ∧ P a
theorem Ok.some {α : Type} {P : α → Prop} {a : α} (h : P a) : Ok (Option.some a) P := ⟨a, rfl, h⟩
theorem Ok.mono {α : Type} {P Q : α → Prop} {o : Option α} (h : Ok o P) (k : ∀ a, P a → Q a) : Ok o Q := by
  obtain ⟨a, e, h⟩ := h
  exact ⟨a, e, k a h⟩
theorem Ok.bd {α β : Type} {o : Option α} {f : α → Option β} {Q : α → Prop} {P : β → Prop} (h : Ok o Q) (k : ∀ a, Q a → Ok (f a) P) : Ok (bd o f) P := by
  obtain ⟨a, rfl, h⟩ := h
  exact k a h
theorem Ok.sw {α : Type} {c : Bool} {a b : Option α} {P : α → Prop} (ht : c = true → Ok a P) (hf : c = false → Ok b P) : Ok (sw c a b) P := by
  cases c
  · exact hf rfl
  · exact ht rfl
theorem Ok.gd {α : Type} {g : Prop} {a : Option α} {P : α → Prop} (h : g) (k : Ok a P) : Ok (gd g a) P := by
  rw [gdT h rfl]
  exact k
theorem Ok.so {σ β : Type} {o : Option (β ⊕ σ)} {f : σ → Option β} {Q : β ⊕ σ → Prop} {P : β → Prop} (h : Ok o Q) (k1 : ∀ x, Q (.inl x) → P x) (k2 : ∀ s, Q (.inr s) → Ok (f s) P) : Ok (so o f) P := by
  obtain ⟨a, rfl, h⟩ := h
  cases a with
  | inl x => exact ⟨x, rfl, k1 x h⟩
  | inr s => exact k2 s h
theorem Ok.lt {α β : Type} {x : α} {f : α → Option β} {P : β → Prop} (k : ∀ y, y = x → Ok (f y) P) : Ok (lt x f) P := k x rfl
theorem DS.pick_mem (d : DS) {l : List ByteArray} (h : 0 < l.length) : d.pick l ∈ l := by
  rw [DS.pick_eq (d.below_lt h)]
  exact List.getElem_mem _
theorem DS.pick_size (d : DS) {l : List ByteArray} {k : Nat} (h : 0 < l.length) (hs : ∀ v ∈ l, v.size ≤ k) : (d.pick l).size ≤ k := hs _ (d.pick_mem h)
theorem wrap_pred {n : Nat} (h : n ≤ 1000) : wrap64 (((n + 1 : Nat) : Int) - 1) = (n : Int) := by
  unfold wrap64 IntKind.wrap
  simp [IntKind.bits, IntKind.signed]
  omega
def PS {σ β : Type} (Q : β → Prop) (E : σ → Prop) : β ⊕ σ → Prop
  | .inl x => Q x
  | .inr s => E s
def PL {σ β : Type} (Q : β → Prop) (N E : σ → Prop) : LR σ β → Prop
  | .next s => N s
  | .brk s => E s
  | .ret x => Q x
theorem Ok.gdk {α : Type} {g : Prop} {a : Option α} {P : α → Prop} (h : g) (k : g → Ok a P) : Ok (Go.Proofs.Ytmpepccpnnldoaa.gd g a) P := Ok.gd h (k h)
theorem Ok.sok {σ β : Type} {o : Option (β ⊕ σ)} {f : σ → Option β} {P : β → Prop} {E : σ → Prop} (h : Ok o (PS P E)) (k : ∀ s, E s → Ok (f s) P) : Ok (Go.Proofs.Ytmpepccpnnldoaa.so o f) P := Ok.so h (fun _ hx => hx) k
theorem Ok.loopN {σ β : Type} {f : Nat → σ → Option (LR σ β)} {n : Nat} {Q : β → Prop} {E : σ → Prop} (I : Nat → σ → Prop) (hE : ∀ i s, n ≤ i → I i s → E s) (hs : ∀ i s, i < n → I i s → Ok (f i s) (PL Q (I (i + 1)) E)) :
    ∀ (k i : Nat) (s : σ), n - i = k → I i s → Ok (Go.Proofs.Ytmpepccpnnldoaa.loopN f (n - i) i s) (PS Q E)
  | 0, i, s, hk, hi => by rw [loopN_all (by omega)]; exact Ok.some (hE i s (by omega) hi)
  | k + 1, i, s, hk, hi => by
    have hlt : i < n := by omega
    obtain ⟨r, hr, hp⟩ := hs i s hlt hi
    cases r with
    | next s' => rw [loopN_step hlt hr]; exact Ok.loopN I hE hs k (i + 1) s' (by omega) hp
    | brk s' => rw [loopN_off hlt hr]; exact Ok.some hp
    | ret x => rw [loopN_out hlt hr]; exact Ok.some hp
theorem Ok.loopN0 {σ β : Type} {f : Nat → σ → Option (LR σ β)} {n i : Nat} {s : σ} {Q : β → Prop} {E : σ → Prop} (I : Nat → σ → Prop) (h0 : I i s) (hE : ∀ i s, n ≤ i → I i s → E s) (hs : ∀ i s, i < n → I i s → Ok (f i s) (PL Q (I (i + 1)) E)) : Ok (Go.Proofs.Ytmpepccpnnldoaa.loopN f (n - i) i s) (PS Q E) :=
  Ok.loopN I hE hs (n - i) i s rfl h0
theorem Evt.ge (k : Nat) : Evt fun fu => k ≤ fu := ⟨k, fun _ h => h⟩
end Go.Proofs.Ytmpepccpnnldoaa

namespace Go.Proofs.Ytmpepccpnnldoaa
set_option linter.unusedSimpArgs false
set_option linter.unusedVariables false
open Go.RowKit

theorem bulkL_app : ∀ (a b : List Tr), Tr.bulkL (a ++ b) = Tr.bulkL a + Tr.bulkL b
  | [], b => by simp [Tr.bulkL]
  | t :: a, b => by simp [Tr.bulkL, bulkL_app a b, Nat.add_assoc]
theorem bulkAll_app : ∀ (a b : List (List Tr)), Tr.bulkAll (a ++ b) = Tr.bulkAll a + Tr.bulkAll b
  | [], b => by simp [Tr.bulkAll]
  | t :: a, b => by simp [Tr.bulkAll, bulkAll_app a b, Nat.add_assoc]
theorem str_nil : Tr.bulkAll (strTrs []) = 0 := rfl
theorem str_cons (a : ByteArray) (l : List ByteArray) : Tr.bulkAll (strTrs (a :: l)) = a.size + Tr.bulkAll (strTrs l) := by simp [strTrs, Tr.bulkAll, Tr.bulkL, Tr.bulk]
theorem str_app (a b : List ByteArray) : Tr.bulkAll (strTrs (a ++ b)) = Tr.bulkAll (strTrs a) + Tr.bulkAll (strTrs b) := by rw [← bulkAll_app]; simp [strTrs]
theorem GType.bk_mk (v0 : Int) (v1 : ByteArray) (v2 : List GType) : Tr.bulkL (GType.tr (.mk v0 v1 v2)) = v1.size + (v2.length + Tr.bulkAll (GType.trs v2)) := by
  simp only [GType.tr, bulkL_app, Tr.bulkL, Tr.bulk, strTrs_len, intTrs_len, intTrs_bulk, GType.trs_len]
  first | done | omega
theorem GType.bks_nil : Tr.bulkAll (GType.trs []) = 0 := by simp [GType.trs_map, Tr.bulkAll]
theorem GType.bks_cons (a : GType) (l : List GType) : Tr.bulkAll (GType.trs (a :: l)) = Tr.bulkL (GType.tr a) + Tr.bulkAll (GType.trs l) := by simp [GType.trs_map, Tr.bulkAll]
theorem GType.bks_app (a b : List GType) : Tr.bulkAll (GType.trs (a ++ b)) = Tr.bulkAll (GType.trs a) + Tr.bulkAll (GType.trs b) := by rw [← bulkAll_app]; simp [GType.trs_map]
theorem GBound.bk_mk (v0 : ByteArray) (v1 : GType) : Tr.bulkL (GBound.tr (.mk v0 v1)) = v0.size + Tr.bulkL (GType.tr v1) := by
  simp only [GBound.tr, bulkL_app, Tr.bulkL, Tr.bulk, strTrs_len, intTrs_len, intTrs_bulk]
  first | done | omega
theorem GBound.bks_nil : Tr.bulkAll (GBound.trs []) = 0 := by simp [GBound.trs_map, Tr.bulkAll]
theorem GBound.bks_cons (a : GBound) (l : List GBound) : Tr.bulkAll (GBound.trs (a :: l)) = Tr.bulkL (GBound.tr a) + Tr.bulkAll (GBound.trs l) := by simp [GBound.trs_map, Tr.bulkAll]
theorem GBound.bks_app (a b : List GBound) : Tr.bulkAll (GBound.trs (a ++ b)) = Tr.bulkAll (GBound.trs a) + Tr.bulkAll (GBound.trs b) := by rw [← bulkAll_app]; simp [GBound.trs_map]
theorem GExpr.bk_mk (v0 : Int) (v1 : ByteArray) (v2 : ByteArray) (v3 : Int) (v4 : GType) (v5 : List GExpr) (v6 : List GArm) : Tr.bulkL (GExpr.tr (.mk v0 v1 v2 v3 v4 v5 v6)) = v1.size + v2.size + Tr.bulkL (GType.tr v4) + (v5.length + Tr.bulkAll (GExpr.trs v5)) + (v6.length + Tr.bulkAll (GArm.trs v6)) := by
  simp only [GExpr.tr, bulkL_app, Tr.bulkL, Tr.bulk, strTrs_len, intTrs_len, intTrs_bulk, GExpr.trs_len, GArm.trs_len]
  first | done | omega
theorem GExpr.bks_nil : Tr.bulkAll (GExpr.trs []) = 0 := by simp [GExpr.trs_map, Tr.bulkAll]
theorem GExpr.bks_cons (a : GExpr) (l : List GExpr) : Tr.bulkAll (GExpr.trs (a :: l)) = Tr.bulkL (GExpr.tr a) + Tr.bulkAll (GExpr.trs l) := by simp [GExpr.trs_map, Tr.bulkAll]
theorem GArm.bk_mk (v0 : ByteArray) (v1 : List ByteArray) (v2 : GExpr) : Tr.bulkL (GArm.tr (.mk v0 v1 v2)) = v0.size + (v1.length + Tr.bulkAll (strTrs v1)) + Tr.bulkL (GExpr.tr v2) := by
  simp only [GArm.tr, bulkL_app, Tr.bulkL, Tr.bulk, strTrs_len, intTrs_len, intTrs_bulk]
  first | done | omega
theorem GArm.bks_nil : Tr.bulkAll (GArm.trs []) = 0 := by simp [GArm.trs_map, Tr.bulkAll]
theorem GArm.bks_cons (a : GArm) (l : List GArm) : Tr.bulkAll (GArm.trs (a :: l)) = Tr.bulkL (GArm.tr a) + Tr.bulkAll (GArm.trs l) := by simp [GArm.trs_map, Tr.bulkAll]
theorem GMethod.bk_mk (v0 : ByteArray) (v1 : List ByteArray) (v2 : GExpr) : Tr.bulkL (GMethod.tr (.mk v0 v1 v2)) = v0.size + (v1.length + Tr.bulkAll (strTrs v1)) + Tr.bulkL (GExpr.tr v2) := by
  simp only [GMethod.tr, bulkL_app, Tr.bulkL, Tr.bulk, strTrs_len, intTrs_len, intTrs_bulk]
  first | done | omega
theorem GMethod.bks_nil : Tr.bulkAll (GMethod.trs []) = 0 := by simp [GMethod.trs_map, Tr.bulkAll]
theorem GMethod.bks_cons (a : GMethod) (l : List GMethod) : Tr.bulkAll (GMethod.trs (a :: l)) = Tr.bulkL (GMethod.tr a) + Tr.bulkAll (GMethod.trs l) := by simp [GMethod.trs_map, Tr.bulkAll]
theorem GInstance.bk_mk (v0 : ByteArray) (v1 : List ByteArray) (v2 : GType) (v3 : List GBound) (v4 : Bool) (v5 : Bool) (v6 : GType) (v7 : List GMethod) : Tr.bulkL (GInstance.tr (.mk v0 v1 v2 v3 v4 v5 v6 v7)) = v0.size + (v1.length + Tr.bulkAll (strTrs v1)) + Tr.bulkL (GType.tr v2) + (v3.length + Tr.bulkAll (GBound.trs v3)) + Tr.bulkL (GType.tr v6) + (v7.length + Tr.bulkAll (GMethod.trs v7)) := by
  simp only [GInstance.tr, bulkL_app, Tr.bulkL, Tr.bulk, strTrs_len, intTrs_len, intTrs_bulk, GBound.trs_len, GMethod.trs_len]
  first | done | omega
end Go.Proofs.Ytmpepccpnnldoaa

namespace Go.Proofs.Ytmpepccpnnldoaa
set_option linter.unusedSimpArgs false
set_option linter.unusedVariables false
open Go.RowKit Go.WalkArith Go.IntWalk

theorem ltE2 {α β : Type} (x : α) (f : α → Option β) : lt x f = f x := rfl
theorem ty_eta (t : GType) : GType.mk t.gKind t.gName t.gArgs = t := by cases t; rfl
/-- A projection has an argument, a variable none, int and bool none. -/
def NodeOk (u : GType) : Prop := (u.gKind = 3 → u.gArgs ≠ []) ∧ (u.gKind = 1 → u.gArgs = []) ∧ (u.gKind = 2 → u.gName = ⟨#[105, 110, 116]⟩ ∨ u.gName = ⟨#[98, 111, 111, 108]⟩ → u.gArgs = [])
def GType.good (t : GType) : Prop := ∀ u ∈ t.pre, NodeOk u
theorem good_mk {k : Int} {n : ByteArray} {xs : List GType} (h : NodeOk (.mk k n xs)) (hx : ∀ x ∈ xs, x.good) : (GType.mk k n xs).good := by
  intro u hu
  rw [GType.pre] at hu
  rcases List.mem_cons.1 hu with rfl | hu
  · exact h
  · have : ∀ (xs : List GType), (∀ x ∈ xs, x.good) → u ∈ GType.pres xs → NodeOk u := by
      intro xs
      induction xs with
      | nil => intro _ h; simp [GType.pres] at h
      | cons a l ih =>
        intro hx hu
        rw [GType.pres, List.mem_append] at hu
        rcases hu with hu | hu
        · exact hx a (by simp) u hu
        · exact ih (fun x hx' => hx x (by simp [hx'])) hu
    exact this xs hx hu
theorem good0 {k : Int} {n : ByteArray} (h : k ≠ 3) : (GType.mk k n []).good := good_mk ⟨fun e => absurd e h, fun _ => rfl, fun _ _ => rfl⟩ (by simp)
theorem nodeN {k : Int} {n : ByteArray} {xs : List GType} (hx : xs ≠ []) (hk : k ≠ 1) (hn : k = 2 → n ≠ ⟨#[105, 110, 116]⟩ ∧ n ≠ ⟨#[98, 111, 111, 108]⟩) : NodeOk (.mk k n xs) :=
  ⟨fun _ => hx, fun e => absurd e hk, fun e h => by
    have := hn e
    rcases h with h | h
    · exact absurd h this.1
    · exact absurd h this.2⟩
theorem ty_bulk (k : Int) (n : ByteArray) (xs : List GType) : Tr.bulkL (GType.mk k n xs).tr = n.size + (xs.length + Tr.bulkAll (GType.trs xs)) := GType.bk_mk k n xs
/-- Not greater than b, and good. -/
def TyG (b : Nat) (t : GType) : Prop := Tr.bulkL t.tr ≤ b ∧ t.good
theorem TyG.mono {b c : Nat} {t : GType} (h : TyG b t) (hc : b ≤ c) : TyG c t := ⟨Nat.le_trans h.1 hc, h.2⟩
theorem TyG.eta {b : Nat} {t : GType} (h : TyG b t) : TyG b (.mk t.gKind t.gName t.gArgs) := by cases t; exact h
theorem tyG0 {k : Int} {n : ByteArray} {b : Nat} (h : k ≠ 3) (hn : n.size ≤ b) : TyG b (.mk k n []) := ⟨by rw [ty_bulk, GType.bks_nil]; simpa using hn, good0 h⟩
theorem tyG1 {k : Int} {n : ByteArray} {b c : Nat} {x : GType} (hx : TyG b x) (hn : n.size + 1 + b ≤ c) (hk : k ≠ 1) (h2 : k = 2 → n ≠ ⟨#[105, 110, 116]⟩ ∧ n ≠ ⟨#[98, 111, 111, 108]⟩) : TyG c (.mk k n [x]) := ⟨by
  rw [ty_bulk, GType.bks_cons, GType.bks_nil]
  have := hx.1
  simp only [List.length_cons, List.length_nil]
  omega, good_mk (nodeN (by simp) hk h2) (by simpa using hx.2)⟩
theorem tyG2 {k : Int} {n : ByteArray} {b c : Nat} {x y : GType} (hx : TyG b x) (hy : TyG b y) (hn : n.size + 2 + b + b ≤ c) (hk : k ≠ 1) (h2 : k = 2 → n ≠ ⟨#[105, 110, 116]⟩ ∧ n ≠ ⟨#[98, 111, 111, 108]⟩) : TyG c (.mk k n [x, y]) := ⟨by
  rw [ty_bulk, GType.bks_cons, GType.bks_cons, GType.bks_nil]
  have := hx.1
  have := hy.1
  simp only [List.length_cons, List.length_nil]
  omega, good_mk (nodeN (by simp) hk h2) (by
    intro z hz
    rcases List.mem_cons.1 hz with rfl | hz
    · exact hx.2
    · obtain rfl := List.mem_singleton.1 hz
      exact hy.2)⟩
theorem con_ok (fu : Nat) (n : ByteArray) (xs : List GType) (h : xs.length ≤ 68719476736) : Ok (sl4Con_M fu n xs) (fun t => t = .mk 2 n xs) := by
  unfold sl4Con_M
  try simp only [ltE2, ty_eta, s_, s_A, s_a, s_abcdefghi, s_add, s_assoc, s_b, s_bool, s_box, s_c, s_case, s_cons, s_dyn, s_eq, s_f, s_false, s_g, s_h, s_if, s_int, s_let, s_list, s_m, s_m0, s_method, s_new, s_nil, s_ord, s_pack, s_pair, s_show, s_t, s_true, s_unit, s_x, s_y, x_20, x_27, x_272d2b2a3c3d2e, x_28, x_29, x_2a, x_2b, x_2d, x_3c, x_3d]
  exact Ok.gd (by simpa using h) (Ok.some (by simp))
theorem var_ok (fu : Nat) (n : ByteArray) : Ok (sl4Var_M fu n) (fun t => t = .mk 1 n []) := Ok.some rfl
theorem int_ok (fu : Nat) : Ok (sl4Int_M fu) (fun t => t = .mk 2 ⟨#[105, 110, 116]⟩ []) := by
  unfold sl4Int_M
  try simp only [ltE2, ty_eta, s_, s_A, s_a, s_abcdefghi, s_add, s_assoc, s_b, s_bool, s_box, s_c, s_case, s_cons, s_dyn, s_eq, s_f, s_false, s_g, s_h, s_if, s_int, s_let, s_list, s_m, s_m0, s_method, s_new, s_nil, s_ord, s_pack, s_pair, s_show, s_t, s_true, s_unit, s_x, s_y, x_20, x_27, x_272d2b2a3c3d2e, x_28, x_29, x_2a, x_2b, x_2d, x_3c, x_3d]
  refine Ok.bd (con_ok fu _ _ (by simp)) ?_; rintro t rfl
  exact Ok.some rfl
theorem copy_ok : ∀ (t : GType) (fu : Nat), 2 * GType.size t ≤ fu → Tr.bulkL t.tr ≤ 68719476735 → Ok (sl4Copy_M fu t) (fun u => u = t) := by
  refine GType.ind fun k n xs ih => ?_; intro fu hf hb
  rw [ty_bulk] at hb
  simp only [GType.size] at hf
  obtain ⟨f1, rfl⟩ : ∃ f1, fu = f1 + 1 + 1 := ⟨fu - 2, by omega⟩
  simp only [sl4Copy_M]
  unfold sl4Copy_G
  refine Ok.bd (Q := fun l => l = xs) ?_ (fun l hl => by subst hl; exact Ok.some rfl)
  simp only [GType.gArgs_mk, sl4Copies_M]
  unfold sl4Copies_G
  refine Ok.sok (E := fun l => l = xs) ?_ (fun l hl => by subst hl; exact Ok.some rfl)
  unfold sl4Copies_R1
  refine Ok.loopN0 (fun i l => i ≤ xs.length ∧ l = xs.take i) ⟨Nat.zero_le _, by simp⟩ ?_ ?_
  · rintro i l hi ⟨hi2, rfl⟩
    exact List.take_of_length_le (by omega)
  · rintro i l hi ⟨hi2, rfl⟩
    have hi : i < xs.length := by omega
    unfold sl4Copies_F1
    rw [atD_eq hi]
    have hz : GType.size xs[i] ≤ GType.sizes xs := by
      have h1 := GType.sizes_step hi
      have h2 := GType.sizes_drop xs i
      omega
    have hbx : Tr.bulkL (xs[i]).tr ≤ Tr.bulkAll (GType.trs xs) := by
      have h1 : i < (GType.trs xs).length := by rw [GType.trs_len]; exact hi
      have h2 := Tr.bulkAll_le h1
      have h3 : (GType.trs xs)[i] = (xs[i]).tr := by have h4 := GType.trs_get hi; rw [List.getElem?_eq_getElem h1] at h4; exact Option.some.inj h4
      rwa [h3] at h2
    refine Ok.bd (ih _ (List.getElem_mem hi) f1 (by omega) (by omega)) ?_; rintro x rfl
    refine Ok.gdk (by simp only [List.length_take, List.length_cons, List.length_nil]; omega) (fun _ => Ok.some ⟨by omega, ?_⟩)
    rw [List.take_succ_eq_append_getElem hi]
theorem proj_ok (fu : Nat) (n : ByteArray) (t : GType) (h : Tr.bulkL t.tr ≤ 1048576) (hf : 2097154 ≤ fu) : Ok (sl4Proj_M fu n t) (fun u => u = .mk 3 n [t]) := by
  have hz := GType.size_bulk t
  unfold sl4Proj_M
  refine Ok.bd (copy_ok t fu (by omega) (by omega)) ?_; rintro u rfl
  exact Ok.some rfl
def bty : Nat → Nat
  | 0 => 20
  | n + 1 => 2 * bty n + 20
theorem bty_ge : ∀ n, 20 ≤ bty n
  | 0 => Nat.le_refl _
  | n + 1 => by unfold bty; omega
theorem names3 {a b c : ByteArray} {k : Nat} (ha : a.size ≤ k) (hb : b.size ≤ k) (hc : c.size ≤ k) : ∀ v ∈ [a, b, c], v.size ≤ k := by
  intro v hv
  simp only [List.mem_cons, List.not_mem_nil, or_false] at hv
  rcases hv with rfl | rfl | rfl <;> assumption
theorem names2 {a b : ByteArray} {k : Nat} (ha : a.size ≤ k) (hb : b.size ≤ k) : ∀ v ∈ [a, b], v.size ≤ k := by
  intro v hv
  simp only [List.mem_cons, List.not_mem_nil, or_false] at hv
  rcases hv with rfl | rfl <;> assumption
theorem lists_name (d : DS) : d.pick [⟨#[108, 105, 115, 116]⟩, ⟨#[108, 105, 115, 116]⟩, ⟨#[98, 111, 120]⟩] ≠ ⟨#[105, 110, 116]⟩ ∧ d.pick [⟨#[108, 105, 115, 116]⟩, ⟨#[108, 105, 115, 116]⟩, ⟨#[98, 111, 120]⟩] ≠ ⟨#[98, 111, 111, 108]⟩ := by
  have := d.pick_mem (l := [⟨#[108, 105, 115, 116]⟩, ⟨#[108, 105, 115, 116]⟩, ⟨#[98, 111, 120]⟩]) (by simp)
  simp only [List.mem_cons, List.not_mem_nil, or_false] at this
  rcases this with h | h | h <;> rw [h] <;> decide
theorem ty_step (fu : Nat) (r : DS → List ByteArray → Int → Option (GType × DS)) (n : Nat) (hn : n ≤ 50) (hr : ∀ m, n = m + 1 → ∀ d vs, (∀ v ∈ vs, v.size ≤ 8) → Ok (r d vs (m : Int)) (fun q => TyG (bty m) q.1)) (d : DS) (vs : List ByteArray) (hv : ∀ v ∈ vs, v.size ≤ 8) :
    Ok (sl4Ty_G fu r d vs (n : Int)) (fun q => TyG (bty n) q.1) := by
  have hB := bty_ge n
  have leaf : ∀ (x : ByteArray) (D : DS), x.size ≤ 8 → Ok (bd (sl4Con_M fu x []) (fun t => some (t, D))) (fun q => TyG (bty n) q.1) := fun x D hx => by
    refine Ok.bd (con_ok fu _ _ (by simp)) ?_; rintro t rfl
    exact Ok.some (tyG0 (by decide) (by omega))
  have hrec : ¬ ((n : Int) ≤ 0) → ∀ D, Ok (r D vs (wrap64 ((n : Int) - 1))) (fun q => 2 * bty (n - 1) + 20 = bty n ∧ TyG (bty (n - 1)) q.1) := fun h0 D => by
    obtain ⟨m, rfl⟩ : ∃ m, n = m + 1 := ⟨n - 1, by omega⟩
    rw [wrap_pred (by omega)]
    exact (hr m rfl D vs hv).mono fun q hq => ⟨rfl, hq⟩
  unfold sl4Ty_G
  try simp only [ltE2, ty_eta, s_, s_A, s_a, s_abcdefghi, s_add, s_assoc, s_b, s_bool, s_box, s_c, s_case, s_cons, s_dyn, s_eq, s_f, s_false, s_g, s_h, s_if, s_int, s_let, s_list, s_m, s_m0, s_method, s_new, s_nil, s_ord, s_pack, s_pair, s_show, s_t, s_true, s_unit, s_x, s_y, x_20, x_27, x_272d2b2a3c3d2e, x_28, x_29, x_2a, x_2b, x_2d, x_3c, x_3d]
  have mid : ∀ D : DS, Ok (sw (decide ((((D.below 8 : Nat) : Int) : Int) < 5)) (bd (sl4Con_M fu ((D.after 8).pick [⟨#[105, 110, 116]⟩, ⟨#[98, 111, 111, 108]⟩, ⟨#[117, 110, 105, 116]⟩]) []) (fun x => some (x, (D.after 8).after 3)))
      (sw (decide ((n : Int) ≤ 0)) (bd (sl4Con_M fu ((D.after 8).pick [⟨#[105, 110, 116]⟩, ⟨#[98, 111, 111, 108]⟩, ⟨#[117, 110, 105, 116]⟩]) []) (fun x => some (x, (D.after 8).after 3)))
      (sw (decide ((((D.below 8 : Nat) : Int) : Int) = 5)) (bd (r (D.after 8) vs (wrap64 ((n : Int) - 1))) (fun q => bd (r q.2 vs (wrap64 ((n : Int) - 1))) (fun q2 => bd (sl4Con_M fu ⟨#[112, 97, 105, 114]⟩ [q.1, q2.1]) (fun x => some (x, q2.2)))))
        (bd (r ((D.after 8).after 3) vs (wrap64 ((n : Int) - 1))) (fun q => bd (sl4Con_M fu ((D.after 8).pick [⟨#[108, 105, 115, 116]⟩, ⟨#[108, 105, 115, 116]⟩, ⟨#[98, 111, 120]⟩]) [q.1]) (fun x => some (x, q.2))))))) (fun q => TyG (bty n) q.1) := fun D => by
    have hp := DS.pick_size (D.after 8) (l := [⟨#[105, 110, 116]⟩, ⟨#[98, 111, 111, 108]⟩, ⟨#[117, 110, 105, 116]⟩]) (k := 8) (by simp) (names3 (by decide) (by decide) (by decide))
    refine Ok.sw (fun _ => leaf _ _ hp) fun _ => Ok.sw (fun _ => leaf _ _ hp) fun h0 => Ok.sw (fun _ => ?_) fun _ => ?_
    · have h0 := of_decide_eq_false h0
      refine Ok.bd (hrec h0 _) fun q hq => Ok.bd (hrec h0 _) fun q2 hq2 => Ok.bd (con_ok fu _ _ (by simp)) ?_; rintro t rfl
      exact Ok.some (tyG2 hq.2 hq2.2 (by have := hq.1; show 4 + _ + _ + _ ≤ _; omega) (by decide) (fun _ => by decide))
    · have h0 := of_decide_eq_false h0
      refine Ok.bd (hrec h0 _) fun q hq => Ok.bd (con_ok fu _ _ (by simp)) ?_; rintro t rfl
      have hp2 := DS.pick_size (D.after 8) (l := [⟨#[108, 105, 115, 116]⟩, ⟨#[108, 105, 115, 116]⟩, ⟨#[98, 111, 120]⟩]) (k := 8) (by simp) (names3 (by decide) (by decide) (by decide))
      exact Ok.some (tyG1 hq.2 (by have := hq.1; omega) (by decide) (fun _ => lists_name _))
  refine Ok.sw (fun _ => Ok.sw (fun h => ?_) fun _ => ?_) fun _ => ?_
  · have hl : 0 < vs.length := by have := of_decide_eq_true h; omega
    have hlt := (d.after 8).below_lt hl
    refine Ok.gd hlt (Ok.bd (var_ok fu _) ?_)
    rintro t rfl
    exact Ok.some (tyG0 (by decide) (by have := hv _ (atD_mem hlt); omega))
  · exact mid d
  · exact mid d
def TTy (fu : Nat) : Prop := ∀ n : Nat, n ≤ 50 → ∀ d vs, (∀ v ∈ vs, v.size ≤ 8) → Ok (sl4Ty_M fu d vs (n : Int)) (fun q => TyG (bty n) q.1)
theorem ty_ok : ∀ n : Nat, n ≤ 50 → Evt fun fu => ∀ d vs, (∀ v ∈ vs, v.size ≤ 8) → Ok (sl4Ty_M fu d vs (n : Int)) (fun q => TyG (bty n) q.1)
  | 0, hn => Evt.succ (.all fun fu d vs hv => ty_step fu _ 0 hn (fun m h => by omega) d vs hv)
  | n + 1, hn => Evt.succ ((ty_ok n (by omega)).imp fun fu hf d vs hv => ty_step fu _ (n + 1) hn (fun m h => by have e : m = n := (by omega); subst e; exact hf) d vs hv)
theorem tTy : Evt TTy := (Evt.below (k := 51) fun i hi => ty_ok i (by omega)).imp fun fu h n hn => h n (by omega)
theorem ab_names : ∀ v ∈ ([⟨#[97]⟩, ⟨#[98]⟩] : List ByteArray), v.size ≤ 8 := names2 (by decide) (by decide)
def TFree (fu : Nat) : Prop := ∀ n : Nat, n ≤ 20 → bty n ≤ 1048576 → ∀ d, Ok (sl4Free_M fu d (n : Int)) (fun q => TyG (bty n + 20) q.1)
theorem tFree : Evt TFree := (tTy.and (Evt.ge 2097154)).imp fun fu hf2 n hn hb d => by
  obtain ⟨hf, hfu⟩ := hf2
  unfold sl4Free_M
  try simp only [ltE2, ty_eta, s_, s_A, s_a, s_abcdefghi, s_add, s_assoc, s_b, s_bool, s_box, s_c, s_case, s_cons, s_dyn, s_eq, s_f, s_false, s_g, s_h, s_if, s_int, s_let, s_list, s_m, s_m0, s_method, s_new, s_nil, s_ord, s_pack, s_pair, s_show, s_t, s_true, s_unit, s_x, s_y, x_20, x_27, x_272d2b2a3c3d2e, x_28, x_29, x_2a, x_2b, x_2d, x_3c, x_3d]
  refine Ok.bd (hf n (by omega) d _ ab_names) ?_; rintro ⟨t, D⟩ ht
  have hp := DS.pick_size (D.after 8) (l := [⟨#[97, 100, 100]⟩, ⟨#[115, 104, 111, 119]⟩]) (k := 8) (by simp) (names2 (by decide) (by decide))
  have hle : Tr.bulkL t.tr ≤ 1048576 := by have h1 : Tr.bulkL t.tr ≤ bty n := ht.1; omega
  dsimp only
  refine Ok.sw (fun _ => ?_) fun _ => Ok.sw (fun _ => ?_) fun _ => Ok.sw (fun _ => ?_) fun _ => ?_
  · refine Ok.bd (proj_ok fu _ _ hle hfu) ?_; rintro u rfl
    exact Ok.some (tyG1 ht (by omega) (by decide) (fun h => absurd h (by decide)))
  · refine Ok.bd (proj_ok fu _ _ hle hfu) ?_; rintro u rfl
    refine Ok.bd (con_ok fu _ _ (by simp)) ?_; rintro u rfl
    exact Ok.some (tyG1 (b := bty n + 4) (tyG1 ht (by show 3 + 1 + _ ≤ _; omega) (by decide) (fun h => absurd h (by decide))) (by show 4 + 1 + _ ≤ _; omega) (by decide) (fun _ => by decide))
  · exact Ok.some (tyG0 (by decide) (by show 4 ≤ _; omega))
  · exact Ok.some (ht.mono (by omega))

/-! ### Expressions -/
theorem z0 : (⟨#[]⟩ : ByteArray).size = 0 := rfl
theorem zty : Tr.bulkL (GType.mk 0 ⟨#[]⟩ []).tr = 0 := by rw [GType.bk_mk, GType.bks_nil, z0]; rfl
theorem leaf_bk (k : Int) (a b : ByteArray) (i : Int) : Tr.bulkL (GExpr.mk k a b i (.mk 0 ⟨#[]⟩ []) [] []).tr = a.size + b.size := by
  rw [GExpr.bk_mk, zty, GExpr.bks_nil, GArm.bks_nil]
  simp
theorem int11_ok (fu : Nat) (n : Int) : Ok (sl11Int_M fu n) (fun e => Tr.bulkL e.tr ≤ 60) := Ok.some (by rw [leaf_bk, z0]; omega)
theorem var11_ok (fu : Nat) (n : ByteArray) (h : n.size ≤ 8) : Ok (sl11Var_M fu n) (fun e => Tr.bulkL e.tr ≤ 60) := Ok.some (by rw [leaf_bk, z0]; omega)
theorem op11_ok (fu : Nat) (k : Int) (n : ByteArray) (xs : List GExpr) (h : xs.length ≤ 68719476736) : Ok (sl11Op_M fu k n xs) (fun e => Tr.bulkL e.tr = n.size + (xs.length + Tr.bulkAll (GExpr.trs xs))) := by
  unfold sl11Op_M
  try simp only [ltE2, ty_eta, s_, s_A, s_a, s_abcdefghi, s_add, s_assoc, s_b, s_bool, s_box, s_c, s_case, s_cons, s_dyn, s_eq, s_f, s_false, s_g, s_h, s_if, s_int, s_let, s_list, s_m, s_m0, s_method, s_new, s_nil, s_ord, s_pack, s_pair, s_show, s_t, s_true, s_unit, s_x, s_y, x_20, x_27, x_272d2b2a3c3d2e, x_28, x_29, x_2a, x_2b, x_2d, x_3c, x_3d]
  exact Ok.gd (by simpa using h) (Ok.some (by rw [GExpr.bk_mk, zty, GArm.bks_nil, z0]; simp))
def bex : Nat → Nat
  | 0 => 100
  | n + 1 => 4 * bex n + 100
theorem bex_ge : ∀ n, 100 ≤ bex n
  | 0 => Nat.le_refl _
  | n + 1 => by unfold bex; omega
theorem expr_step (fu : Nat) (kTy : TTy fu) (r : DS → List ByteArray → Int → Option (GExpr × DS)) (n : Nat) (hn : n ≤ 20) (hr : ∀ m, n = m + 1 → ∀ d vs, vs.length + 2 * m ≤ 100 → (∀ v ∈ vs, v.size ≤ 8) → Ok (r d vs (m : Int)) (fun q => Tr.bulkL q.1.tr ≤ bex m)) (d : DS) (vs : List ByteArray) (hv : vs.length + 2 * n ≤ 100) (hs : ∀ v ∈ vs, v.size ≤ 8) :
    Ok (sl11Expr_G fu r d vs (n : Int)) (fun q => Tr.bulkL q.1.tr ≤ bex n) := by
  have hB := bex_ge n
  have lint : ∀ (k : Int) (D : DS), Ok (bd (sl11Int_M fu k) (fun t => some (t, D))) (fun q => Tr.bulkL q.1.tr ≤ bex n) := fun k D => by
    refine Ok.bd (int11_ok fu k) fun t ht => Ok.some ?_
    show Tr.bulkL t.tr ≤ _
    omega
  unfold sl11Expr_G
  try simp only [ltE2, ty_eta, s_, s_A, s_a, s_abcdefghi, s_add, s_assoc, s_b, s_bool, s_box, s_c, s_case, s_cons, s_dyn, s_eq, s_f, s_false, s_g, s_h, s_if, s_int, s_let, s_list, s_m, s_m0, s_method, s_new, s_nil, s_ord, s_pack, s_pair, s_show, s_t, s_true, s_unit, s_x, s_y, x_20, x_27, x_272d2b2a3c3d2e, x_28, x_29, x_2a, x_2b, x_2d, x_3c, x_3d]
  refine Ok.sok (E := fun v : Int => n = 0 → v ≤ 2) ?_ ?_
  · unfold sl11Expr_C1
    try simp only [ltE2, ty_eta, s_, s_A, s_a, s_abcdefghi, s_add, s_assoc, s_b, s_bool, s_box, s_c, s_case, s_cons, s_dyn, s_eq, s_f, s_false, s_g, s_h, s_if, s_int, s_let, s_list, s_m, s_m0, s_method, s_new, s_nil, s_ord, s_pack, s_pair, s_show, s_t, s_true, s_unit, s_x, s_y, x_20, x_27, x_272d2b2a3c3d2e, x_28, x_29, x_2a, x_2b, x_2d, x_3c, x_3d]
    refine Ok.sw (fun h => Ok.some fun _ => by omega) (fun h => Ok.some fun h0 => ?_)
    have := of_decide_eq_false h
    omega
  intro v h0
  have hrec : 3 ≤ v → ∀ D (vs' : List ByteArray), vs'.length + 2 * (n - 1) ≤ 100 → (∀ v ∈ vs', v.size ≤ 8) → Ok (r D vs' (wrap64 ((n : Int) - 1))) (fun q => Tr.bulkL q.1.tr ≤ bex (n - 1)) := fun h3 D vs' h1 h2 => by
    obtain ⟨m, rfl⟩ : ∃ m, n = m + 1 := ⟨n - 1, by omega⟩
    rw [wrap_pred (by omega)]
    exact hr m rfl D vs' h1 h2
  have hbx : 3 ≤ v → 4 * bex (n - 1) + 100 ≤ bex n := fun h3 => by
    obtain ⟨m, rfl⟩ : ∃ m, n = m + 1 := ⟨n - 1, by omega⟩
    exact Nat.le_refl _
  have p1 := DS.pick_size (d.after 13) (l := [⟨#[102]⟩, ⟨#[103]⟩]) (k := 8) (by simp) (names2 (by decide) (by decide))
  have p2 := DS.pick_size (d.after 13) (l := [⟨#[115, 104, 111, 119]⟩, ⟨#[97, 100, 100]⟩]) (k := 8) (by simp) (names2 (by decide) (by decide))
  have p3 := DS.pick_size (d.after 13) (l := [⟨#[43]⟩, ⟨#[45]⟩, ⟨#[42]⟩, ⟨#[60]⟩, ⟨#[61]⟩]) (k := 8) (by simp) (by decide)
  have hht : ∀ v ∈ ([] ++ vs) ++ [⟨#[104]⟩, ⟨#[116]⟩], v.size ≤ 8 := by
    intro v hv
    rw [List.nil_append, List.mem_append] at hv
    rcases hv with hv | hv
    · exact hs v hv
    · exact names2 (by decide) (by decide) v hv
  have hyy : ∀ v ∈ ([] ++ vs) ++ [⟨#[121]⟩], v.size ≤ 8 := by
    intro v hv
    rw [List.nil_append, List.mem_append] at hv
    rcases hv with hv | hv
    · exact hs v hv
    · obtain rfl := List.mem_singleton.1 hv; decide
  refine Ok.sw (fun _ => Ok.some ?_) (fun _ => ?_)
  · show Tr.bulkL _ ≤ _
    rw [leaf_bk, z0]; omega
  refine Ok.sok (E := fun _ => True) (by unfold sl11Expr_C2; exact Ok.sw (fun _ => Ok.some trivial) (fun _ => Ok.some trivial)) (fun b _ => ?_)
  refine Ok.sw (fun _ => Ok.sw (fun h => ?_) (fun _ => lint _ _)) (fun _ => ?_)
  · have hl : 0 < vs.length := by have := of_decide_eq_true h; omega
    refine Ok.gd hl (Ok.bd (var11_ok fu _ (DS.pick_size _ hl hs)) fun t ht => Ok.some ?_)
    show Tr.bulkL t.tr ≤ _
    omega
  have y1 : (⟨#[109]⟩ : ByteArray).size = 1 := rfl
  have y2 : (⟨#[99, 111, 110, 115]⟩ : ByteArray).size = 4 := rfl
  have y3 : (⟨#[110, 105, 108]⟩ : ByteArray).size = 3 := rfl
  have y4 : (⟨#[104]⟩ : ByteArray).size = 1 := rfl
  have y5 : (⟨#[116]⟩ : ByteArray).size = 1 := rfl
  have y6 : (⟨#[121]⟩ : ByteArray).size = 1 := rfl
  have y7 : (⟨#[115, 104, 111, 119]⟩ : ByteArray).size = 4 := rfl
  iterate 9
    refine Ok.sw (fun h => ?_) (fun _ => ?_)
    · have h3 : 3 ≤ v := by have := of_decide_eq_true h; omega
      have hr3 := hrec h3
      have hx3 := hbx h3
      repeat' first
        | refine Ok.gd (by simp only [List.length_append, List.length_cons, List.length_nil]; omega) ?_
        | (refine Ok.bd (hr3 _ _ (by first | omega | (simp only [List.length_append, List.length_cons, List.length_nil]; omega)) (by assumption)) ?_; rintro ⟨e, D⟩ he; have he := (show Tr.bulkL e.tr ≤ _ from he))
        | (refine Ok.bd (op11_ok fu _ _ _ (by simp)) ?_; intro t ht)
        | (refine Ok.bd (kTy 1 (by omega) _ _ (by intro v hv; obtain rfl := List.mem_singleton.1 hv; decide)) ?_; rintro ⟨t, D⟩ ht; have ht := (show Tr.bulkL t.tr ≤ 60 from ht.1))
        | refine Ok.some ?_
      show Tr.bulkL _ ≤ _
      simp only [GExpr.bk_mk, GArm.bk_mk, zty, GExpr.bks_cons, GExpr.bks_nil, GArm.bks_cons, GArm.bks_nil, str_cons, str_nil, List.length_cons, List.length_nil, z0] at *
      omega
  exact lint _ _
theorem expr_ok : ∀ n : Nat, n ≤ 20 → Evt fun fu => ∀ d vs, vs.length + 2 * n ≤ 100 → (∀ v ∈ vs, v.size ≤ 8) → Ok (sl11Expr_M fu d vs (n : Int)) (fun q => Tr.bulkL q.1.tr ≤ bex n)
  | 0, hn => Evt.succ (tTy.imp fun fu kTy d vs hv hs => expr_step fu kTy _ 0 hn (fun m h => by omega) d vs hv hs)
  | n + 1, hn => Evt.succ ((tTy.and (expr_ok n (by omega))).imp fun fu hf d vs hv hs => expr_step fu hf.1 _ (n + 1) hn (fun m h => by have e : m = n := (by omega); subst e; exact hf.2) d vs hv hs)
def TExpr (fu : Nat) : Prop := ∀ n : Nat, n ≤ 20 → ∀ d vs, vs.length + 2 * n ≤ 100 → (∀ v ∈ vs, v.size ≤ 8) → Ok (sl11Expr_M fu d vs (n : Int)) (fun q => Tr.bulkL q.1.tr ≤ bex n)
theorem tExpr : Evt TExpr := (Evt.below (k := 21) fun i hi => expr_ok i (by omega)).imp fun fu h n hn => h n (by omega)
end Go.Proofs.Ytmpepccpnnldoaa
