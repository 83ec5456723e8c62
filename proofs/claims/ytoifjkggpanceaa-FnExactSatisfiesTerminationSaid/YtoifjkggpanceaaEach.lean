/- impl.eachType: a closure asked of a type and every type in it, in pre-order; the closure has memory of its own. No conditions. -/
import Derived.Test.YtoifjkggpanceaaTyFn
import Derived.Test.YtoifjkggpanceaaMark
namespace Go.Proofs.Ytoifjkggpanceaa
open Go.RowKit Go.Proofs

/-- What a closure with a state does at one type: 'Inv s S w' says that the state s lies in the blocks S. -/
def StepC {σ : Type} (g : FuncId) (caps : Array Value) (w0 : World) (Inv : σ → (Nat → Prop) → World → Prop) (step : σ → GType → σ) (Ok : σ → List GType → Prop) : Prop :=
  ∀ x s S l cs w, RepL w0 x.tr cs → Ext w0 w → Inv s S w → Ok s (x :: l) → Calls Try.prog g (#[.agg ⟨cs⟩] ++ caps) w fun e w' => (∃ v, e = .returned v) ∧ ∃ S', Inv (step s x) S' w' ∧ Chg S w w' ∧ ∀ b, S' b → S b ∨ w.heap.size ≤ b
/-- The state lies behind what was, and stays while only new blocks come. -/
structure InvOk {σ : Type} (w0 : World) (Inv : σ → (Nat → Prop) → World → Prop) : Prop where
  ext : ∀ s S w w', Inv s S w → Ext w w' → Inv s S w'
  lt : ∀ s S w b, Inv s S w → S b → b < w.heap.size
  ge : ∀ s S w b, Inv s S w → S b → w0.heap.size ≤ b

theorem OB.chg {S : Nat → Prop} {w w' : World} {g : Nat} {t : TypeId} {cs : Array Value} (h : OB w g t cs) (hc : Chg S w w') (hn : ¬ S g) : OB w' g t cs := (hc.block g h.lt hn).trans h
theorem Ext.chg {S : Nat → Prop} {a w w' : World} (h : Ext a w) (hc : Chg S w w') (hS : ∀ b, S b → a.heap.size ≤ b) : Ext a w' := Chg.ext h hc hS
theorem Chg.sub {S S' : Nat → Prop} {a b c : World} (h : Chg S a b) (k : Chg S' b c) (hS : ∀ x, S' x → S x ∨ a.heap.size ≤ x) : Chg S a c :=
  ⟨k.os.trans h.os, k.tape.trans h.tape, k.output.trans h.output, Nat.le_trans h.size k.size, fun x hx hn => (k.block x (Nat.lt_of_lt_of_le hx h.size) (fun hs => by rcases hS x hs with h1 | h1; exact hn h1; omega)).trans (h.block x hx hn)⟩

set_option maxRecDepth 100000 in
set_option maxHeartbeats 1000000 in
theorem eachType_of {σ : Type} (g : FuncId) (caps : Array Value) (hg : ∀ (args : Array Value) (w : World), (callFunc g args).run Try.prog w = .ok (.enter g args) w)
    (w0 : World) (Inv : σ → (Nat → Prop) → World → Prop) (step : σ → GType → σ) (Ok : σ → List GType → Prop) (hI : InvOk w0 Inv) (hok : ∀ s x l, Ok s (x :: l) → Ok (step s x) l)
    (H : StepC g caps w0 Inv step Ok) :
    ∀ (x : GType) (s : σ) (S : Nat → Prop) (l : List GType) (cs : List Value) (w : World), RepL w0 x.tr cs → Ext w0 w → Inv s S w → Ok s (x.pre ++ l) →
      Calls Try.prog 116 #[.agg ⟨cs⟩, .func (.func g) #[] caps] w fun e w' => (∃ v, e = .returned v) ∧ (∃ S', Inv (x.pre.foldl step s) S' w' ∧ Chg S w w' ∧ ∀ b, S' b → S b ∨ w.heap.size ≤ b) ∧ Ok (x.pre.foldl step s) l := by
  refine GType.ind fun v0 v1 xs ih => ?_
  intro s S l cs w hr hw hi ho
  have HR := Lib.hid hr
  obtain ⟨a, c, rfl, -, -, h3⟩ := GType.opened hr
  obtain ⟨hl, hm, -⟩ := h3.lens
  have HS := Lib.hid h3
  have IH := Lib.hid ih
  have HH := Lib.hid H
  have HI := Lib.hid hI
  have HK := Lib.hid hok
  have HI0 := Lib.hid (hI.ext _ _ _ _ hi (.alloc (.refl w) (.cells ⟨[.int .i64 v0] ++ ([.string v1] ++ ([.slice a xs.length c] ++ []))⟩ 32)))
  have HSB : Hid (∀ b, S b → b < w.heap.size) := fun b => hI.lt _ _ _ b hi
  have HSG : Hid (∀ b, S b → w0.heap.size ≤ b) := fun b => hI.ge _ _ _ b hi
  have HO := Lib.hid ho
  have HW := Lib.hid hw
  clear hr h3 ih H hI hok hi ho hw
  simp only [List.cons_append, List.nil_append] at *
  go_enter Try.func116, Try.ntmps116
  go_wp2_with (refine wpList_load_rep rfl 32 (.tmp 2) rfl w.heap.size 0 rfl _ _ Try.underlying32 isz32 (OB.cells0 (OB.new w _ _)) ?_)
  have ho1 : Ok s (.mk v0 v1 xs :: (GType.pres xs ++ l)) := by have := HO.out; simpa only [GType.pre, List.cons_append] using this
  have HO1 := Lib.hid ho1
  clear ho1
  refine (HH.out (.mk v0 v1 xs) s S (GType.pres xs ++ l) _ _ HR.out (Ext.alloc HW.out _) HI0.out HO1.out).mono ?_
  rintro e w1 ⟨⟨v, rfl⟩, S1, hi1, hc1, hs1⟩
  have hk1 : Hid (Ok (step s (.mk v0 v1 xs)) (GType.pres xs ++ l)) := HK.out _ _ _ HO1.out
  have hb1 : OB w1 w.heap.size 32 #[.int .i64 v0, .string v1, .slice a xs.length c] := (OB.new w _ _).chg hc1 (fun h => by have := HSB.out _ h; omega)
  have HC1 := Lib.hid hc1
  have HI1 := Lib.hid hi1
  have HS1 := Lib.hid hs1
  have HB1 := Lib.hid hb1
  have hce := hb1.cell
  have hsz1 := hc1.size
  simp only [World.size_alloc] at hsz1
  clear hc1 hi1 hs1 hb1
  go_wp2_with fail
  go_loopw [12] (fun i wr => ∃ (k : Nat) (s' : σ) (S' : Nat → Prop), k ≤ xs.length ∧ i = .int .i64 k ∧ Hid (Inv s' S' wr) ∧ Hid (Chg S w wr) ∧ Hid (∀ b, S' b → S b ∨ w.heap.size ≤ b) ∧ Hid (Ok s' (GType.pres (xs.drop k) ++ l)) ∧ Hid ((GType.pres (xs.drop k)).foldl step s' = (GType.pre (.mk v0 v1 xs)).foldl step s)) (fun i _ => xs.length - (intOf i).toNat)
  case atStart =>
    refine ⟨0, step s (.mk v0 v1 xs), S1, Nat.zero_le _, rfl, HI1.out, ?_, ?_, hk1, rfl⟩
    · exact (Chg.of_ext (.alloc (.refl w) _)).trans HC1.out
    · intro b hb
      rcases HS1.out b hb with h | h
      · exact .inl h
      · simp only [World.size_alloc] at h
        exact .inr (by omega)
  case round =>
    obtain ⟨k, s', S', hk, rfl, HIk, HCk, HSk, HOk, HEk⟩ := hrel
    have hwr := HW.out.chg HCk.out HSG.out
    by_cases hlt : k < xs.length
    · obtain ⟨b, off, cs, rfl, hb, hcs, hc⟩ := HS.out.at2 (k := k) (GType.trs_get hlt)
      have HM := Lib.hid (List.getElem_mem hlt)
      have HCS := Lib.hid hcs
      have HC := Lib.hid (cells_ext hwr hb hc)
      have HI3 : Hid ((Try.prog.info? 32).map (·.size) = some cs.length) := by rw [← hcs.length, GType.tr_len]; exact isz32
      have HCL : Hid (cs.length = 3) := by rw [← hcs.length, GType.tr_len]; rfl
      have HPS := Lib.hid (GType.pres_step hlt)
      have HWR := Lib.hid hwr
      clear hcs hc hwr
      go_wp2_with (first
        | (refine wpList_load_rep rfl 32 (.tmp 14) rfl b (off + k * 3) rfl cs _ Try.underlying32 HI3.out HC.out ?_)
        | (refine wpList_store_rep rfl 32 (.tmp 5) (.tmp 15) rfl wr.heap.size 0 rfl cs rfl 32 _ (OB.new wr _ _) HI3.out (by rw [HCL.out]; exact Nat.le_refl _) HCS.out.one ?_; intro wb hob hgb hzb; rw [splice_whole (by rw [HCL.out]; rfl)] at hob; have HOB := Lib.hid hob; have HXB := Lib.hid (grown_ext (.alloc (.refl wr) _) hgb (Nat.le_refl _)); clear hob hgb hzb)
        | (refine wpList_load_rep rfl 32 (.tmp 5) rfl wr.heap.size 0 rfl cs _ Try.underlying32 HI3.out HOB.out.cells0 ?_))
      refine (IH.out _ HM.out s' S' (GType.pres (xs.drop (k + 1)) ++ l) _ _ HCS.out (HWR.out.trans HXB.out) (HI.out.ext _ _ _ _ HIk.out HXB.out) (by have := HOk.out; rw [HPS.out, List.append_assoc] at this; exact this)).mono ?_
      rintro e w2 ⟨⟨v2, rfl⟩, ⟨S2, hi2, hc2, hs2⟩, hk2⟩
      have HI2 := Lib.hid hi2
      have HC2 := Lib.hid hc2
      have HS2 := Lib.hid hs2
      have HK2 := Lib.hid hk2
      clear hi2 hc2 hs2 hk2
      go_wp2_with fail
      go_roundw
      case rel =>
        have hz := HCk.out.size
        have hx := HXB.out.size
        refine ⟨k + 1, _, S2, by omega, by go_num, HI2.out, ?_, ?_, HK2.out, ?_⟩
        · exact (HCk.out.trans (Chg.of_ext HXB.out)).sub HC2.out HSk.out
        · intro b hb
          rcases HS2.out b hb with h | h
          · exact HSk.out b h
          · exact .inr (by omega)
        · show _ = _
          have := HEk.out
          rw [HPS.out, List.foldl_append] at this
          exact this
      case measure => simp [intOf]; omega
    · have hkl : k = xs.length := by omega
      go_wp2_with fail
      have h1 := HOk.out
      have h2 := HEk.out
      rw [hkl, List.drop_length] at h1 h2
      simp only [GType.pres, List.foldl_nil, List.nil_append] at h1 h2
      refine bodyPost_end (results_none rfl _ _ _) rfl ?_
      rw [← h2]
      exact ⟨⟨_, rfl⟩, ⟨S', HIk.out, HCk.out, HSk.out⟩, h1⟩
end Go.Proofs.Ytoifjkggpanceaa
