/- Types: what the functions on types compute, in plain words. No conditions. -/
import Derived.Test.YtoifjkggpanceaaTyEq
namespace Go.Proofs.Ytoifjkggpanceaa
open Go.RowKit Go.Proofs

mutual
def GType.size : GType → Nat
  | .mk _ _ xs => 1 + GType.sizes xs
def GType.sizes : List GType → Nat
  | [] => 0
  | e :: r => GType.size e + GType.sizes r
end
theorem GType.sizes_step {l : List GType} {k : Nat} (h : k < l.length) : GType.sizes (l.drop k) = GType.size l[k] + GType.sizes (l.drop (k + 1)) := by
  rw [List.drop_eq_getElem_cons h, GType.sizes]
theorem GType.sizes_drop : ∀ (l : List GType) (k : Nat), GType.sizes (l.drop k) ≤ GType.sizes l
  | [], k => by simp
  | a :: l, 0 => by simp
  | a :: l, k + 1 => by
    have := GType.sizes_drop l k
    simp only [List.drop_succ_cons, GType.sizes]
    omega
theorem GType.size_bulk : ∀ e : GType, GType.size e ≤ 1 + Tr.bulkL e.tr := by
  refine GType.ind fun v0 v1 v3 h => ?_
  have : ∀ l : List GType, (∀ x ∈ l, GType.size x ≤ 1 + Tr.bulkL x.tr) → GType.sizes l ≤ l.length + Tr.bulkAll (GType.trs l) := by
    intro l
    induction l with
    | nil => intro _; simp [GType.sizes]
    | cons a l ih =>
      intro hl
      have h1 := hl a (by simp)
      have h2 := ih fun x hx => hl x (by simp [hx])
      simp only [GType.sizes, GType.trs, Tr.bulkAll, List.length_cons]
      omega
  have := this v3 h
  simp only [GType.size, GType.tr, Tr.bulkL_append, Tr.bulkL, Tr.bulk, GType.trs_len]
  omega

mutual
def GType.pre : GType → List GType
  | .mk k n xs => .mk k n xs :: GType.pres xs
def GType.pres : List GType → List GType
  | [] => []
  | e :: r => GType.pre e ++ GType.pres r
end
theorem GType.pres_step {l : List GType} {k : Nat} (h : k < l.length) : GType.pres (l.drop k) = GType.pre l[k] ++ GType.pres (l.drop (k + 1)) := by
  rw [List.drop_eq_getElem_cons h, GType.pres]
theorem GType.pre_length : ∀ e : GType, (GType.pre e).length = GType.size e := by
  refine GType.ind fun v0 v1 v3 h => ?_
  have : ∀ l : List GType, (∀ x ∈ l, (GType.pre x).length = GType.size x) → (GType.pres l).length = GType.sizes l := by
    intro l
    induction l with
    | nil => intro _; rfl
    | cons a l ih =>
      intro hl
      simp only [GType.pres, List.length_append, GType.sizes, hl a (by simp), ih fun x hx => hl x (by simp [hx])]
  simp only [GType.pre, List.length_cons, GType.size, this v3 h]
  omega
theorem GType.pres_length : ∀ l : List GType, (GType.pres l).length = GType.sizes l
  | [] => rfl
  | a :: l => by simp only [GType.pres, List.length_append, GType.sizes, GType.pre_length, GType.pres_length l]

def hasS (l : List ByteArray) (s : ByteArray) : Bool := l.any fun x => decide (x = s)
def varStep (out : List ByteArray) (u : GType) : List ByteArray := if u.gKind = 1 ∧ hasS out u.gName = false then out ++ [u.gName] else out
def countStep (v : ByteArray) (n : Nat) (u : GType) : Nat := if u.gKind = 1 ∧ u.gName = v then n + 1 else n
def hasStep (b : Bool) (u : GType) : Bool := b || u.gKind == 3

theorem countStep_add (v : ByteArray) : ∀ (l : List GType) (n : Nat), l.foldl (countStep v) n = n + l.foldl (countStep v) 0
  | [], n => by simp
  | a :: l, n => by
    simp only [List.foldl_cons]
    rw [countStep_add v l (countStep v n a), countStep_add v l (countStep v 0 a)]
    unfold countStep
    split <;> omega
theorem countStep_le (v : ByteArray) : ∀ (l : List GType) (n : Nat), l.foldl (countStep v) n ≤ n + l.length
  | [], n => by simp
  | a :: l, n => by
    have := countStep_le v l (countStep v n a)
    have h : countStep v n a ≤ n + 1 := by unfold countStep; split <;> omega
    simp only [List.foldl_cons, List.length_cons]
    omega
def GType.vars (t : GType) : List ByteArray := t.pre.foldl varStep []
def GType.count (v : ByteArray) (t : GType) : Nat := t.pre.foldl (countStep v) 0
def GType.counts (v : ByteArray) (l : List GType) : Nat := (GType.pres l).foldl (countStep v) 0
theorem GType.count_mk (v : ByteArray) (k : Int) (n : ByteArray) (xs : List GType) : GType.count v (.mk k n xs) = (if k = 1 ∧ n = v then 1 else 0) + GType.counts v xs := by
  unfold GType.count GType.counts
  rw [GType.pre, List.foldl_cons, countStep_add]
  simp [countStep]
theorem GType.counts_step {v : ByteArray} {l : List GType} {k : Nat} (h : k < l.length) : GType.counts v (l.drop k) = GType.count v l[k] + GType.counts v (l.drop (k + 1)) := by
  unfold GType.count GType.counts
  rw [GType.pres_step h, List.foldl_append, countStep_add]
theorem GType.count_size (v : ByteArray) (t : GType) : GType.count v t ≤ GType.size t := by
  have := countStep_le v t.pre 0
  rw [GType.pre_length] at this
  unfold GType.count
  omega
theorem varStep_le : ∀ (l : List GType) (out : List ByteArray), (l.foldl varStep out).length ≤ out.length + l.length
  | [], out => by simp
  | a :: l, out => by
    have := varStep_le l (varStep out a)
    simp only [List.foldl_cons, List.length_cons]
    have h : (varStep out a).length ≤ out.length + 1 := by unfold varStep; split <;> simp
    omega

def GBound.smaller (b : GBound) (head : GType) : Bool :=
  (GType.vars b.gType).all (fun v => decide (GType.count v b.gType ≤ GType.count v head)) && decide (GType.size b.gType < GType.size head)

end Go.Proofs.Ytoifjkggpanceaa
