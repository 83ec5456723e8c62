/- The program's data as plain trees, one Lean type a Go struct: their cells, and how to open them. No conditions. -/
import Derived.Test.YtnakkelglbcecaaGreatOwn
namespace Go.Proofs.YtnakkelglbcecaaGreat
open Go.RowKit

def strTrs (l : List ByteArray) : List (List Tr) := l.map fun s => [.leaf (.string s)]
def intTrs (l : List Int) : List (List Tr) := l.map fun n => [.leaf (.int .i64 n)]
theorem strTrs_len (l : List ByteArray) : (strTrs l).length = l.length := by simp [strTrs]
theorem intTrs_len (l : List Int) : (intTrs l).length = l.length := by simp [intTrs]
theorem strTrs_get {l : List ByteArray} {k : Nat} (h : k < l.length) : (strTrs l)[k]? = some [.leaf (.string l[k])] := by
  unfold strTrs
  rw [List.getElem?_map, List.getElem?_eq_getElem h]; rfl
theorem intTrs_get {l : List Int} {k : Nat} (h : k < l.length) : (intTrs l)[k]? = some [.leaf (.int .i64 l[k])] := by
  unfold intTrs
  rw [List.getElem?_map, List.getElem?_eq_getElem h]; rfl
theorem strTrs_sz (l : List ByteArray) : ∀ e ∈ strTrs l, e.length = 1 := by
  intro e he
  obtain ⟨x, -, rfl⟩ := List.mem_map.1 he
  rfl
theorem intTrs_sz (l : List Int) : ∀ e ∈ intTrs l, e.length = 1 := by
  intro e he
  obtain ⟨x, -, rfl⟩ := List.mem_map.1 he
  rfl
theorem intTrs_bulk : ∀ l : List Int, Tr.bulkAll (intTrs l) = 0
  | [] => rfl
  | a :: l => by
    have := intTrs_bulk l
    simp only [intTrs] at this
    simp [intTrs, Tr.bulkAll, Tr.bulkL, Tr.bulk, this]
/-- Element k of a slice of strings, of integers. -/
theorem Rep.str {w : World} {l : List ByteArray} {a : Option Addr} {len cap k : Nat} (h : Rep w (.row 1 (strTrs l)) (.slice a len cap)) (hk : k < l.length) :
    ∃ b off, a = some ⟨b, off, none⟩ ∧ b < w.heap.size ∧ l[k].size ≤ maxLen ∧ w.cell? ⟨b, off + k, none⟩ = some (.string l[k]) := by
  obtain ⟨b, off, cs, rfl, hb, hcs, hc⟩ := h.at2 (strTrs_get hk)
  obtain ⟨v, rfl⟩ := list1 hcs.length.symm
  obtain ⟨rfl, hl⟩ := hcs.1.leaf_eq
  have := hc 0 _ rfl
  rw [Nat.mul_one, Nat.add_zero] at this
  exact ⟨b, off, rfl, hb, hl, this⟩
theorem Rep.int {w : World} {l : List Int} {a : Option Addr} {len cap k : Nat} (h : Rep w (.row 1 (intTrs l)) (.slice a len cap)) (hk : k < l.length) :
    ∃ b off, a = some ⟨b, off, none⟩ ∧ b < w.heap.size ∧ (Lit.int .i64 l[k]).wf = true ∧ w.cell? ⟨b, off + k, none⟩ = some (.int .i64 l[k]) := by
  obtain ⟨b, off, cs, rfl, hb, hcs, hc⟩ := h.at2 (intTrs_get hk)
  obtain ⟨v, rfl⟩ := list1 hcs.length.symm
  obtain ⟨rfl, hl⟩ := hcs.1.leaf_eq
  have := hc 0 _ rfl
  rw [Nat.mul_one, Nat.add_zero] at this
  exact ⟨b, off, rfl, hb, hl, this⟩

inductive GInstanceRef where
  | mk (package_ : Int) (at_ : Int)
def GInstanceRef.tr : GInstanceRef → List Tr
  | .mk v0 v1 => [.leaf (.int .i64 v0)] ++ ([.leaf (.int .i64 v1)] ++ ([]))
def GInstanceRef.trs (l : List GInstanceRef) : List (List Tr) := l.map GInstanceRef.tr
theorem GInstanceRef.trs_map (l : List GInstanceRef) : GInstanceRef.trs l = l.map GInstanceRef.tr := rfl
theorem GInstanceRef.trs_len (l : List GInstanceRef) : (GInstanceRef.trs l).length = l.length := by rw [GInstanceRef.trs_map, List.length_map]
def GInstanceRef.gPackage : GInstanceRef → Int
  | .mk v _ => v
@[simp] theorem GInstanceRef.gPackage_mk (v0 : Int) (v1 : Int) : GInstanceRef.gPackage (.mk v0 v1) = v0 := rfl
def GInstanceRef.gAt : GInstanceRef → Int
  | .mk _ v => v
@[simp] theorem GInstanceRef.gAt_mk (v0 : Int) (v1 : Int) : GInstanceRef.gAt (.mk v0 v1) = v1 := rfl
theorem GInstanceRef.tr_len (x : GInstanceRef) : x.tr.length = 2 := by
  obtain ⟨v0, v1⟩ := x
  simp [GInstanceRef.tr]
theorem GInstanceRef.opened {w : World} {cs : List Value} {v0 : Int} {v1 : Int} (h : RepL w (GInstanceRef.tr (.mk v0 v1)) cs) :
    cs = [.int .i64 v0] ++ ([.int .i64 v1] ++ ([])) ∧ LeafOk (.int .i64 v0) ∧ LeafOk (.int .i64 v1) := by
  obtain ⟨b0, r0, rfl, g0, n0⟩ := RepL.split h
  obtain ⟨y0, rfl⟩ := list1 g0.length.symm
  obtain ⟨rfl, k0⟩ := g0.1.leaf_eq
  obtain ⟨b1, r1, rfl, g1, n1⟩ := RepL.split n0
  obtain ⟨y1, rfl⟩ := list1 g1.length.symm
  obtain ⟨rfl, k1⟩ := g1.1.leaf_eq
  obtain rfl := RepL.nil_eq n1
  exact ⟨rfl, k0, k1⟩

theorem GInstanceRef.sz (l : List GInstanceRef) : ∀ e ∈ GInstanceRef.trs l, e.length = 2 := by
  intro e he
  rw [GInstanceRef.trs_map] at he
  obtain ⟨x, -, rfl⟩ := List.mem_map.1 he
  exact GInstanceRef.tr_len x
theorem GInstanceRef.all {l : List GInstanceRef} {Q : List Tr → Prop} (h : ∀ x ∈ l, Q x.tr) : ∀ e ∈ GInstanceRef.trs l, Q e := by
  intro e he
  rw [GInstanceRef.trs_map] at he
  obtain ⟨x, hx, rfl⟩ := List.mem_map.1 he
  exact h x hx
theorem GInstanceRef.trs_get {l : List GInstanceRef} {k : Nat} (h : k < l.length) : (GInstanceRef.trs l)[k]? = some (l[k]).tr := by
  rw [GInstanceRef.trs_map, List.getElem?_map, List.getElem?_eq_getElem h]; rfl
inductive GSExpr where
  | mk (atom_ : ByteArray) (list_ : List GSExpr)
mutual
def GSExpr.tr : GSExpr → List Tr
  | .mk v0 v1 => [.leaf (.string v0)] ++ ([.row 2 (GSExpr.trs v1)] ++ ([]))
def GSExpr.trs : List GSExpr → List (List Tr)
  | [] => []
  | e :: r => GSExpr.tr e :: GSExpr.trs r
end
theorem GSExpr.trs_map (l : List GSExpr) : GSExpr.trs l = l.map GSExpr.tr := by induction l <;> simp_all [GSExpr.trs]
theorem GSExpr.trs_len (l : List GSExpr) : (GSExpr.trs l).length = l.length := by rw [GSExpr.trs_map, List.length_map]
def GSExpr.gAtom : GSExpr → ByteArray
  | .mk v _ => v
@[simp] theorem GSExpr.gAtom_mk (v0 : ByteArray) (v1 : List GSExpr) : GSExpr.gAtom (.mk v0 v1) = v0 := rfl
def GSExpr.gList : GSExpr → List GSExpr
  | .mk _ v => v
@[simp] theorem GSExpr.gList_mk (v0 : ByteArray) (v1 : List GSExpr) : GSExpr.gList (.mk v0 v1) = v1 := rfl
theorem GSExpr.tr_len (x : GSExpr) : x.tr.length = 2 := by
  obtain ⟨v0, v1⟩ := x
  simp [GSExpr.tr]
theorem GSExpr.opened {w : World} {cs : List Value} {v0 : ByteArray} {v1 : List GSExpr} (h : RepL w (GSExpr.tr (.mk v0 v1)) cs) :
    ∃ (a1 : Option Addr) (c1 : Nat), cs = [.string v0] ++ ([.slice a1 v1.length c1] ++ ([])) ∧ LeafOk (.string v0) ∧ Rep w (.row 2 (GSExpr.trs v1)) (.slice a1 v1.length c1) := by
  obtain ⟨b0, r0, rfl, g0, n0⟩ := RepL.split h
  obtain ⟨y0, rfl⟩ := list1 g0.length.symm
  obtain ⟨rfl, k0⟩ := g0.1.leaf_eq
  obtain ⟨b1, r1, rfl, g1, n1⟩ := RepL.split n0
  obtain ⟨y1, rfl⟩ := list1 g1.length.symm
  obtain ⟨a1, c1, e1, -, -⟩ := g1.1.shape
  rw [GSExpr.trs_len] at e1
  subst e1
  obtain rfl := RepL.nil_eq n1
  exact ⟨a1, c1, rfl, k0, g1.1⟩

theorem GSExpr.sz (l : List GSExpr) : ∀ e ∈ GSExpr.trs l, e.length = 2 := by
  intro e he
  rw [GSExpr.trs_map] at he
  obtain ⟨x, -, rfl⟩ := List.mem_map.1 he
  exact GSExpr.tr_len x
theorem GSExpr.all {l : List GSExpr} {Q : List Tr → Prop} (h : ∀ x ∈ l, Q x.tr) : ∀ e ∈ GSExpr.trs l, Q e := by
  intro e he
  rw [GSExpr.trs_map] at he
  obtain ⟨x, hx, rfl⟩ := List.mem_map.1 he
  exact h x hx
theorem GSExpr.trs_get {l : List GSExpr} {k : Nat} (h : k < l.length) : (GSExpr.trs l)[k]? = some (l[k]).tr := by
  rw [GSExpr.trs_map, List.getElem?_map, List.getElem?_eq_getElem h]; rfl
theorem GSExpr.ind {A : GSExpr → Prop} (h : ∀ v0 v1, (∀ x ∈ v1, A x) → A (.mk v0 v1)) : ∀ e, A e := by
  have key : ∀ (N : Nat) (e : GSExpr), SizeOf.sizeOf e < N → A e := by
    intro N
    induction N with
    | zero => intro e he; omega
    | succ N ih =>
      intro e he
      obtain ⟨v0, v1⟩ := e
      refine h v0 v1 fun x hx => ih x ?_
      have := List.sizeOf_lt_of_mem hx
      simp at he
      omega
  exact fun e => key _ e (Nat.lt_succ_self _)

inductive GType where
  | mk (kind_ : Int) (name_ : ByteArray) (args_ : List GType)
mutual
def GType.tr : GType → List Tr
  | .mk v0 v1 v2 => [.leaf (.int .i64 v0)] ++ ([.leaf (.string v1)] ++ ([.row 3 (GType.trs v2)] ++ ([])))
def GType.trs : List GType → List (List Tr)
  | [] => []
  | e :: r => GType.tr e :: GType.trs r
end
theorem GType.trs_map (l : List GType) : GType.trs l = l.map GType.tr := by induction l <;> simp_all [GType.trs]
theorem GType.trs_len (l : List GType) : (GType.trs l).length = l.length := by rw [GType.trs_map, List.length_map]
def GType.gKind : GType → Int
  | .mk v _ _ => v
@[simp] theorem GType.gKind_mk (v0 : Int) (v1 : ByteArray) (v2 : List GType) : GType.gKind (.mk v0 v1 v2) = v0 := rfl
def GType.gName : GType → ByteArray
  | .mk _ v _ => v
@[simp] theorem GType.gName_mk (v0 : Int) (v1 : ByteArray) (v2 : List GType) : GType.gName (.mk v0 v1 v2) = v1 := rfl
def GType.gArgs : GType → List GType
  | .mk _ _ v => v
@[simp] theorem GType.gArgs_mk (v0 : Int) (v1 : ByteArray) (v2 : List GType) : GType.gArgs (.mk v0 v1 v2) = v2 := rfl
theorem GType.tr_len (x : GType) : x.tr.length = 3 := by
  obtain ⟨v0, v1, v2⟩ := x
  simp [GType.tr]
theorem GType.opened {w : World} {cs : List Value} {v0 : Int} {v1 : ByteArray} {v2 : List GType} (h : RepL w (GType.tr (.mk v0 v1 v2)) cs) :
    ∃ (a2 : Option Addr) (c2 : Nat), cs = [.int .i64 v0] ++ ([.string v1] ++ ([.slice a2 v2.length c2] ++ ([]))) ∧ LeafOk (.int .i64 v0) ∧ LeafOk (.string v1) ∧ Rep w (.row 3 (GType.trs v2)) (.slice a2 v2.length c2) := by
  obtain ⟨b0, r0, rfl, g0, n0⟩ := RepL.split h
  obtain ⟨y0, rfl⟩ := list1 g0.length.symm
  obtain ⟨rfl, k0⟩ := g0.1.leaf_eq
  obtain ⟨b1, r1, rfl, g1, n1⟩ := RepL.split n0
  obtain ⟨y1, rfl⟩ := list1 g1.length.symm
  obtain ⟨rfl, k1⟩ := g1.1.leaf_eq
  obtain ⟨b2, r2, rfl, g2, n2⟩ := RepL.split n1
  obtain ⟨y2, rfl⟩ := list1 g2.length.symm
  obtain ⟨a2, c2, e2, -, -⟩ := g2.1.shape
  rw [GType.trs_len] at e2
  subst e2
  obtain rfl := RepL.nil_eq n2
  exact ⟨a2, c2, rfl, k0, k1, g2.1⟩

theorem GType.sz (l : List GType) : ∀ e ∈ GType.trs l, e.length = 3 := by
  intro e he
  rw [GType.trs_map] at he
  obtain ⟨x, -, rfl⟩ := List.mem_map.1 he
  exact GType.tr_len x
theorem GType.all {l : List GType} {Q : List Tr → Prop} (h : ∀ x ∈ l, Q x.tr) : ∀ e ∈ GType.trs l, Q e := by
  intro e he
  rw [GType.trs_map] at he
  obtain ⟨x, hx, rfl⟩ := List.mem_map.1 he
  exact h x hx
theorem GType.trs_get {l : List GType} {k : Nat} (h : k < l.length) : (GType.trs l)[k]? = some (l[k]).tr := by
  rw [GType.trs_map, List.getElem?_map, List.getElem?_eq_getElem h]; rfl
theorem GType.ind {A : GType → Prop} (h : ∀ v0 v1 v2, (∀ x ∈ v2, A x) → A (.mk v0 v1 v2)) : ∀ e, A e := by
  have key : ∀ (N : Nat) (e : GType), SizeOf.sizeOf e < N → A e := by
    intro N
    induction N with
    | zero => intro e he; omega
    | succ N ih =>
      intro e he
      obtain ⟨v0, v1, v2⟩ := e
      refine h v0 v1 v2 fun x hx => ih x ?_
      have := List.sizeOf_lt_of_mem hx
      simp at he
      omega
  exact fun e => key _ e (Nat.lt_succ_self _)

inductive GBinding where
  | mk (var_ : ByteArray) (type_ : GType)
def GBinding.tr : GBinding → List Tr
  | .mk v0 v1 => [.leaf (.string v0)] ++ (GType.tr v1 ++ ([]))
def GBinding.trs (l : List GBinding) : List (List Tr) := l.map GBinding.tr
theorem GBinding.trs_map (l : List GBinding) : GBinding.trs l = l.map GBinding.tr := rfl
theorem GBinding.trs_len (l : List GBinding) : (GBinding.trs l).length = l.length := by rw [GBinding.trs_map, List.length_map]
def GBinding.gVar : GBinding → ByteArray
  | .mk v _ => v
@[simp] theorem GBinding.gVar_mk (v0 : ByteArray) (v1 : GType) : GBinding.gVar (.mk v0 v1) = v0 := rfl
def GBinding.gType : GBinding → GType
  | .mk _ v => v
@[simp] theorem GBinding.gType_mk (v0 : ByteArray) (v1 : GType) : GBinding.gType (.mk v0 v1) = v1 := rfl
theorem GBinding.tr_len (x : GBinding) : x.tr.length = 4 := by
  obtain ⟨v0, v1⟩ := x
  simp [GBinding.tr, GType.tr_len]
theorem GBinding.opened {w : World} {cs : List Value} {v0 : ByteArray} {v1 : GType} (h : RepL w (GBinding.tr (.mk v0 v1)) cs) :
    ∃ (x1 : List Value), cs = [.string v0] ++ (x1 ++ ([])) ∧ LeafOk (.string v0) ∧ RepL w (GType.tr v1) x1 := by
  obtain ⟨b0, r0, rfl, g0, n0⟩ := RepL.split h
  obtain ⟨y0, rfl⟩ := list1 g0.length.symm
  obtain ⟨rfl, k0⟩ := g0.1.leaf_eq
  obtain ⟨b1, r1, rfl, g1, n1⟩ := RepL.split n0
  obtain rfl := RepL.nil_eq n1
  exact ⟨b1, rfl, k0, g1⟩

theorem GBinding.sz (l : List GBinding) : ∀ e ∈ GBinding.trs l, e.length = 4 := by
  intro e he
  rw [GBinding.trs_map] at he
  obtain ⟨x, -, rfl⟩ := List.mem_map.1 he
  exact GBinding.tr_len x
theorem GBinding.all {l : List GBinding} {Q : List Tr → Prop} (h : ∀ x ∈ l, Q x.tr) : ∀ e ∈ GBinding.trs l, Q e := by
  intro e he
  rw [GBinding.trs_map] at he
  obtain ⟨x, hx, rfl⟩ := List.mem_map.1 he
  exact h x hx
theorem GBinding.trs_get {l : List GBinding} {k : Nat} (h : k < l.length) : (GBinding.trs l)[k]? = some (l[k]).tr := by
  rw [GBinding.trs_map, List.getElem?_map, List.getElem?_eq_getElem h]; rfl
mutual
inductive GArm where
  | mk (constructor_ : ByteArray) (vars_ : List ByteArray) (body_ : GExpr)
inductive GExpr where
  | mk (kind_ : Int) (trait_ : ByteArray) (name_ : ByteArray) (n_ : Int) (type_ : GType) (args_ : List GExpr) (arms_ : List GArm)
end
mutual
def GArm.tr : GArm → List Tr
  | .mk v0 v1 v2 => [.leaf (.string v0)] ++ ([.row 1 (strTrs v1)] ++ (GExpr.tr v2 ++ ([])))
def GArm.trs : List GArm → List (List Tr)
  | [] => []
  | e :: r => GArm.tr e :: GArm.trs r
def GExpr.tr : GExpr → List Tr
  | .mk v0 v1 v2 v3 v4 v5 v6 => [.leaf (.int .i64 v0)] ++ ([.leaf (.string v1)] ++ ([.leaf (.string v2)] ++ ([.leaf (.int .i64 v3)] ++ (GType.tr v4 ++ ([.row 9 (GExpr.trs v5)] ++ ([.row 11 (GArm.trs v6)] ++ ([])))))))
def GExpr.trs : List GExpr → List (List Tr)
  | [] => []
  | e :: r => GExpr.tr e :: GExpr.trs r
end
theorem GArm.trs_map (l : List GArm) : GArm.trs l = l.map GArm.tr := by induction l <;> simp_all [GArm.trs]
theorem GExpr.trs_map (l : List GExpr) : GExpr.trs l = l.map GExpr.tr := by induction l <;> simp_all [GExpr.trs]
theorem GArm.trs_len (l : List GArm) : (GArm.trs l).length = l.length := by rw [GArm.trs_map, List.length_map]
theorem GExpr.trs_len (l : List GExpr) : (GExpr.trs l).length = l.length := by rw [GExpr.trs_map, List.length_map]
def GArm.gConstructor : GArm → ByteArray
  | .mk v _ _ => v
@[simp] theorem GArm.gConstructor_mk (v0 : ByteArray) (v1 : List ByteArray) (v2 : GExpr) : GArm.gConstructor (.mk v0 v1 v2) = v0 := rfl
def GArm.gVars : GArm → List ByteArray
  | .mk _ v _ => v
@[simp] theorem GArm.gVars_mk (v0 : ByteArray) (v1 : List ByteArray) (v2 : GExpr) : GArm.gVars (.mk v0 v1 v2) = v1 := rfl
def GArm.gBody : GArm → GExpr
  | .mk _ _ v => v
@[simp] theorem GArm.gBody_mk (v0 : ByteArray) (v1 : List ByteArray) (v2 : GExpr) : GArm.gBody (.mk v0 v1 v2) = v2 := rfl

def GExpr.gKind : GExpr → Int
  | .mk v _ _ _ _ _ _ => v
@[simp] theorem GExpr.gKind_mk (v0 : Int) (v1 : ByteArray) (v2 : ByteArray) (v3 : Int) (v4 : GType) (v5 : List GExpr) (v6 : List GArm) : GExpr.gKind (.mk v0 v1 v2 v3 v4 v5 v6) = v0 := rfl
def GExpr.gTrait : GExpr → ByteArray
  | .mk _ v _ _ _ _ _ => v
@[simp] theorem GExpr.gTrait_mk (v0 : Int) (v1 : ByteArray) (v2 : ByteArray) (v3 : Int) (v4 : GType) (v5 : List GExpr) (v6 : List GArm) : GExpr.gTrait (.mk v0 v1 v2 v3 v4 v5 v6) = v1 := rfl
def GExpr.gName : GExpr → ByteArray
  | .mk _ _ v _ _ _ _ => v
@[simp] theorem GExpr.gName_mk (v0 : Int) (v1 : ByteArray) (v2 : ByteArray) (v3 : Int) (v4 : GType) (v5 : List GExpr) (v6 : List GArm) : GExpr.gName (.mk v0 v1 v2 v3 v4 v5 v6) = v2 := rfl
def GExpr.gN : GExpr → Int
  | .mk _ _ _ v _ _ _ => v
@[simp] theorem GExpr.gN_mk (v0 : Int) (v1 : ByteArray) (v2 : ByteArray) (v3 : Int) (v4 : GType) (v5 : List GExpr) (v6 : List GArm) : GExpr.gN (.mk v0 v1 v2 v3 v4 v5 v6) = v3 := rfl
def GExpr.gType : GExpr → GType
  | .mk _ _ _ _ v _ _ => v
@[simp] theorem GExpr.gType_mk (v0 : Int) (v1 : ByteArray) (v2 : ByteArray) (v3 : Int) (v4 : GType) (v5 : List GExpr) (v6 : List GArm) : GExpr.gType (.mk v0 v1 v2 v3 v4 v5 v6) = v4 := rfl
def GExpr.gArgs : GExpr → List GExpr
  | .mk _ _ _ _ _ v _ => v
@[simp] theorem GExpr.gArgs_mk (v0 : Int) (v1 : ByteArray) (v2 : ByteArray) (v3 : Int) (v4 : GType) (v5 : List GExpr) (v6 : List GArm) : GExpr.gArgs (.mk v0 v1 v2 v3 v4 v5 v6) = v5 := rfl
def GExpr.gArms : GExpr → List GArm
  | .mk _ _ _ _ _ _ v => v
@[simp] theorem GExpr.gArms_mk (v0 : Int) (v1 : ByteArray) (v2 : ByteArray) (v3 : Int) (v4 : GType) (v5 : List GExpr) (v6 : List GArm) : GExpr.gArms (.mk v0 v1 v2 v3 v4 v5 v6) = v6 := rfl
theorem GExpr.tr_len (x : GExpr) : x.tr.length = 9 := by
  obtain ⟨v0, v1, v2, v3, v4, v5, v6⟩ := x
  simp [GExpr.tr, GType.tr_len]
theorem GArm.tr_len (x : GArm) : x.tr.length = 11 := by
  obtain ⟨v0, v1, v2⟩ := x
  simp [GArm.tr, GExpr.tr_len]
theorem GArm.opened {w : World} {cs : List Value} {v0 : ByteArray} {v1 : List ByteArray} {v2 : GExpr} (h : RepL w (GArm.tr (.mk v0 v1 v2)) cs) :
    ∃ (a1 : Option Addr) (c1 : Nat) (x2 : List Value), cs = [.string v0] ++ ([.slice a1 v1.length c1] ++ (x2 ++ ([]))) ∧ LeafOk (.string v0) ∧ Rep w (.row 1 (strTrs v1)) (.slice a1 v1.length c1) ∧ RepL w (GExpr.tr v2) x2 := by
  obtain ⟨b0, r0, rfl, g0, n0⟩ := RepL.split h
  obtain ⟨y0, rfl⟩ := list1 g0.length.symm
  obtain ⟨rfl, k0⟩ := g0.1.leaf_eq
  obtain ⟨b1, r1, rfl, g1, n1⟩ := RepL.split n0
  obtain ⟨y1, rfl⟩ := list1 g1.length.symm
  obtain ⟨a1, c1, e1, -, -⟩ := g1.1.shape
  rw [strTrs_len] at e1
  subst e1
  obtain ⟨b2, r2, rfl, g2, n2⟩ := RepL.split n1
  obtain rfl := RepL.nil_eq n2
  exact ⟨a1, c1, b2, rfl, k0, g1.1, g2⟩

theorem GExpr.opened {w : World} {cs : List Value} {v0 : Int} {v1 : ByteArray} {v2 : ByteArray} {v3 : Int} {v4 : GType} {v5 : List GExpr} {v6 : List GArm} (h : RepL w (GExpr.tr (.mk v0 v1 v2 v3 v4 v5 v6)) cs) :
    ∃ (x4 : List Value) (a5 : Option Addr) (c5 : Nat) (a6 : Option Addr) (c6 : Nat), cs = [.int .i64 v0] ++ ([.string v1] ++ ([.string v2] ++ ([.int .i64 v3] ++ (x4 ++ ([.slice a5 v5.length c5] ++ ([.slice a6 v6.length c6] ++ ([]))))))) ∧ LeafOk (.int .i64 v0) ∧ LeafOk (.string v1) ∧ LeafOk (.string v2) ∧ LeafOk (.int .i64 v3) ∧ RepL w (GType.tr v4) x4 ∧ Rep w (.row 9 (GExpr.trs v5)) (.slice a5 v5.length c5) ∧ Rep w (.row 11 (GArm.trs v6)) (.slice a6 v6.length c6) := by
  obtain ⟨b0, r0, rfl, g0, n0⟩ := RepL.split h
  obtain ⟨y0, rfl⟩ := list1 g0.length.symm
  obtain ⟨rfl, k0⟩ := g0.1.leaf_eq
  obtain ⟨b1, r1, rfl, g1, n1⟩ := RepL.split n0
  obtain ⟨y1, rfl⟩ := list1 g1.length.symm
  obtain ⟨rfl, k1⟩ := g1.1.leaf_eq
  obtain ⟨b2, r2, rfl, g2, n2⟩ := RepL.split n1
  obtain ⟨y2, rfl⟩ := list1 g2.length.symm
  obtain ⟨rfl, k2⟩ := g2.1.leaf_eq
  obtain ⟨b3, r3, rfl, g3, n3⟩ := RepL.split n2
  obtain ⟨y3, rfl⟩ := list1 g3.length.symm
  obtain ⟨rfl, k3⟩ := g3.1.leaf_eq
  obtain ⟨b4, r4, rfl, g4, n4⟩ := RepL.split n3
  obtain ⟨b5, r5, rfl, g5, n5⟩ := RepL.split n4
  obtain ⟨y5, rfl⟩ := list1 g5.length.symm
  obtain ⟨a5, c5, e5, -, -⟩ := g5.1.shape
  rw [GExpr.trs_len] at e5
  subst e5
  obtain ⟨b6, r6, rfl, g6, n6⟩ := RepL.split n5
  obtain ⟨y6, rfl⟩ := list1 g6.length.symm
  obtain ⟨a6, c6, e6, -, -⟩ := g6.1.shape
  rw [GArm.trs_len] at e6
  subst e6
  obtain rfl := RepL.nil_eq n6
  exact ⟨b4, a5, c5, a6, c6, rfl, k0, k1, k2, k3, g4, g5.1, g6.1⟩

theorem GArm.sz (l : List GArm) : ∀ e ∈ GArm.trs l, e.length = 11 := by
  intro e he
  rw [GArm.trs_map] at he
  obtain ⟨x, -, rfl⟩ := List.mem_map.1 he
  exact GArm.tr_len x
theorem GArm.all {l : List GArm} {Q : List Tr → Prop} (h : ∀ x ∈ l, Q x.tr) : ∀ e ∈ GArm.trs l, Q e := by
  intro e he
  rw [GArm.trs_map] at he
  obtain ⟨x, hx, rfl⟩ := List.mem_map.1 he
  exact h x hx
theorem GArm.trs_get {l : List GArm} {k : Nat} (h : k < l.length) : (GArm.trs l)[k]? = some (l[k]).tr := by
  rw [GArm.trs_map, List.getElem?_map, List.getElem?_eq_getElem h]; rfl
theorem GExpr.sz (l : List GExpr) : ∀ e ∈ GExpr.trs l, e.length = 9 := by
  intro e he
  rw [GExpr.trs_map] at he
  obtain ⟨x, -, rfl⟩ := List.mem_map.1 he
  exact GExpr.tr_len x
theorem GExpr.all {l : List GExpr} {Q : List Tr → Prop} (h : ∀ x ∈ l, Q x.tr) : ∀ e ∈ GExpr.trs l, Q e := by
  intro e he
  rw [GExpr.trs_map] at he
  obtain ⟨x, hx, rfl⟩ := List.mem_map.1 he
  exact h x hx
theorem GExpr.trs_get {l : List GExpr} {k : Nat} (h : k < l.length) : (GExpr.trs l)[k]? = some (l[k]).tr := by
  rw [GExpr.trs_map, List.getElem?_map, List.getElem?_eq_getElem h]; rfl
theorem GExpr.ind {A : GExpr → Prop} (h : ∀ v0 v1 v2 v3 v4 v5 v6, (∀ x ∈ v5, A x) → (∀ x ∈ v6, A (GArm.gBody x)) → A (.mk v0 v1 v2 v3 v4 v5 v6)) : ∀ e, A e := by
  have key : ∀ (N : Nat) (e : GExpr), SizeOf.sizeOf e < N → A e := by
    intro N
    induction N with
    | zero => intro e he; omega
    | succ N ih =>
      intro e he
      obtain ⟨v0, v1, v2, v3, v4, v5, v6⟩ := e
      refine h v0 v1 v2 v3 v4 v5 v6 (fun x hx => ih x ?_) (fun x hx => ih _ ?_)
      · have := List.sizeOf_lt_of_mem hx
        simp at he
        omega
      · have := List.sizeOf_lt_of_mem hx
        obtain ⟨y0, y1, y2⟩ := x
        simp at he this ⊢
        omega
  exact fun e => key _ e (Nat.lt_succ_self _)

inductive GSignature where
  | mk (name_ : ByteArray) (params_ : List GType) (result_ : GType) (hasdefault_ : Bool) (vars_ : List ByteArray) (body_ : GExpr)
def GSignature.tr : GSignature → List Tr
  | .mk v0 v1 v2 v3 v4 v5 => [.leaf (.string v0)] ++ ([.row 3 (GType.trs v1)] ++ (GType.tr v2 ++ ([.leaf (.bool v3)] ++ ([.row 1 (strTrs v4)] ++ (GExpr.tr v5 ++ ([]))))))
def GSignature.trs (l : List GSignature) : List (List Tr) := l.map GSignature.tr
theorem GSignature.trs_map (l : List GSignature) : GSignature.trs l = l.map GSignature.tr := rfl
theorem GSignature.trs_len (l : List GSignature) : (GSignature.trs l).length = l.length := by rw [GSignature.trs_map, List.length_map]
def GSignature.gName : GSignature → ByteArray
  | .mk v _ _ _ _ _ => v
@[simp] theorem GSignature.gName_mk (v0 : ByteArray) (v1 : List GType) (v2 : GType) (v3 : Bool) (v4 : List ByteArray) (v5 : GExpr) : GSignature.gName (.mk v0 v1 v2 v3 v4 v5) = v0 := rfl
def GSignature.gParams : GSignature → List GType
  | .mk _ v _ _ _ _ => v
@[simp] theorem GSignature.gParams_mk (v0 : ByteArray) (v1 : List GType) (v2 : GType) (v3 : Bool) (v4 : List ByteArray) (v5 : GExpr) : GSignature.gParams (.mk v0 v1 v2 v3 v4 v5) = v1 := rfl
def GSignature.gResult : GSignature → GType
  | .mk _ _ v _ _ _ => v
@[simp] theorem GSignature.gResult_mk (v0 : ByteArray) (v1 : List GType) (v2 : GType) (v3 : Bool) (v4 : List ByteArray) (v5 : GExpr) : GSignature.gResult (.mk v0 v1 v2 v3 v4 v5) = v2 := rfl
def GSignature.gHasDefault : GSignature → Bool
  | .mk _ _ _ v _ _ => v
@[simp] theorem GSignature.gHasDefault_mk (v0 : ByteArray) (v1 : List GType) (v2 : GType) (v3 : Bool) (v4 : List ByteArray) (v5 : GExpr) : GSignature.gHasDefault (.mk v0 v1 v2 v3 v4 v5) = v3 := rfl
def GSignature.gVars : GSignature → List ByteArray
  | .mk _ _ _ _ v _ => v
@[simp] theorem GSignature.gVars_mk (v0 : ByteArray) (v1 : List GType) (v2 : GType) (v3 : Bool) (v4 : List ByteArray) (v5 : GExpr) : GSignature.gVars (.mk v0 v1 v2 v3 v4 v5) = v4 := rfl
def GSignature.gBody : GSignature → GExpr
  | .mk _ _ _ _ _ v => v
@[simp] theorem GSignature.gBody_mk (v0 : ByteArray) (v1 : List GType) (v2 : GType) (v3 : Bool) (v4 : List ByteArray) (v5 : GExpr) : GSignature.gBody (.mk v0 v1 v2 v3 v4 v5) = v5 := rfl
theorem GSignature.tr_len (x : GSignature) : x.tr.length = 16 := by
  obtain ⟨v0, v1, v2, v3, v4, v5⟩ := x
  simp [GSignature.tr, GType.tr_len, GExpr.tr_len]
theorem GSignature.opened {w : World} {cs : List Value} {v0 : ByteArray} {v1 : List GType} {v2 : GType} {v3 : Bool} {v4 : List ByteArray} {v5 : GExpr} (h : RepL w (GSignature.tr (.mk v0 v1 v2 v3 v4 v5)) cs) :
    ∃ (a1 : Option Addr) (c1 : Nat) (x2 : List Value) (a4 : Option Addr) (c4 : Nat) (x5 : List Value), cs = [.string v0] ++ ([.slice a1 v1.length c1] ++ (x2 ++ ([.bool v3] ++ ([.slice a4 v4.length c4] ++ (x5 ++ ([])))))) ∧ LeafOk (.string v0) ∧ Rep w (.row 3 (GType.trs v1)) (.slice a1 v1.length c1) ∧ RepL w (GType.tr v2) x2 ∧ LeafOk (.bool v3) ∧ Rep w (.row 1 (strTrs v4)) (.slice a4 v4.length c4) ∧ RepL w (GExpr.tr v5) x5 := by
  obtain ⟨b0, r0, rfl, g0, n0⟩ := RepL.split h
  obtain ⟨y0, rfl⟩ := list1 g0.length.symm
  obtain ⟨rfl, k0⟩ := g0.1.leaf_eq
  obtain ⟨b1, r1, rfl, g1, n1⟩ := RepL.split n0
  obtain ⟨y1, rfl⟩ := list1 g1.length.symm
  obtain ⟨a1, c1, e1, -, -⟩ := g1.1.shape
  rw [GType.trs_len] at e1
  subst e1
  obtain ⟨b2, r2, rfl, g2, n2⟩ := RepL.split n1
  obtain ⟨b3, r3, rfl, g3, n3⟩ := RepL.split n2
  obtain ⟨y3, rfl⟩ := list1 g3.length.symm
  obtain ⟨rfl, k3⟩ := g3.1.leaf_eq
  obtain ⟨b4, r4, rfl, g4, n4⟩ := RepL.split n3
  obtain ⟨y4, rfl⟩ := list1 g4.length.symm
  obtain ⟨a4, c4, e4, -, -⟩ := g4.1.shape
  rw [strTrs_len] at e4
  subst e4
  obtain ⟨b5, r5, rfl, g5, n5⟩ := RepL.split n4
  obtain rfl := RepL.nil_eq n5
  exact ⟨a1, c1, b2, a4, c4, b5, rfl, k0, g1.1, g2, k3, g4.1, g5⟩

theorem GSignature.sz (l : List GSignature) : ∀ e ∈ GSignature.trs l, e.length = 16 := by
  intro e he
  rw [GSignature.trs_map] at he
  obtain ⟨x, -, rfl⟩ := List.mem_map.1 he
  exact GSignature.tr_len x
theorem GSignature.all {l : List GSignature} {Q : List Tr → Prop} (h : ∀ x ∈ l, Q x.tr) : ∀ e ∈ GSignature.trs l, Q e := by
  intro e he
  rw [GSignature.trs_map] at he
  obtain ⟨x, hx, rfl⟩ := List.mem_map.1 he
  exact h x hx
theorem GSignature.trs_get {l : List GSignature} {k : Nat} (h : k < l.length) : (GSignature.trs l)[k]? = some (l[k]).tr := by
  rw [GSignature.trs_map, List.getElem?_map, List.getElem?_eq_getElem h]; rfl
inductive GTrait where
  | mk (name_ : ByteArray) (supertraits_ : List ByteArray) (auto_ : Bool) (assoc_ : Bool) (signatures_ : List GSignature)
def GTrait.tr : GTrait → List Tr
  | .mk v0 v1 v2 v3 v4 => [.leaf (.string v0)] ++ ([.row 1 (strTrs v1)] ++ ([.leaf (.bool v2)] ++ ([.leaf (.bool v3)] ++ ([.row 16 (GSignature.trs v4)] ++ ([])))))
def GTrait.trs (l : List GTrait) : List (List Tr) := l.map GTrait.tr
theorem GTrait.trs_map (l : List GTrait) : GTrait.trs l = l.map GTrait.tr := rfl
theorem GTrait.trs_len (l : List GTrait) : (GTrait.trs l).length = l.length := by rw [GTrait.trs_map, List.length_map]
def GTrait.gName : GTrait → ByteArray
  | .mk v _ _ _ _ => v
@[simp] theorem GTrait.gName_mk (v0 : ByteArray) (v1 : List ByteArray) (v2 : Bool) (v3 : Bool) (v4 : List GSignature) : GTrait.gName (.mk v0 v1 v2 v3 v4) = v0 := rfl
def GTrait.gSupertraits : GTrait → List ByteArray
  | .mk _ v _ _ _ => v
@[simp] theorem GTrait.gSupertraits_mk (v0 : ByteArray) (v1 : List ByteArray) (v2 : Bool) (v3 : Bool) (v4 : List GSignature) : GTrait.gSupertraits (.mk v0 v1 v2 v3 v4) = v1 := rfl
def GTrait.gAuto : GTrait → Bool
  | .mk _ _ v _ _ => v
@[simp] theorem GTrait.gAuto_mk (v0 : ByteArray) (v1 : List ByteArray) (v2 : Bool) (v3 : Bool) (v4 : List GSignature) : GTrait.gAuto (.mk v0 v1 v2 v3 v4) = v2 := rfl
def GTrait.gAssoc : GTrait → Bool
  | .mk _ _ _ v _ => v
@[simp] theorem GTrait.gAssoc_mk (v0 : ByteArray) (v1 : List ByteArray) (v2 : Bool) (v3 : Bool) (v4 : List GSignature) : GTrait.gAssoc (.mk v0 v1 v2 v3 v4) = v3 := rfl
def GTrait.gSignatures : GTrait → List GSignature
  | .mk _ _ _ _ v => v
@[simp] theorem GTrait.gSignatures_mk (v0 : ByteArray) (v1 : List ByteArray) (v2 : Bool) (v3 : Bool) (v4 : List GSignature) : GTrait.gSignatures (.mk v0 v1 v2 v3 v4) = v4 := rfl
theorem GTrait.tr_len (x : GTrait) : x.tr.length = 5 := by
  obtain ⟨v0, v1, v2, v3, v4⟩ := x
  simp [GTrait.tr]
theorem GTrait.opened {w : World} {cs : List Value} {v0 : ByteArray} {v1 : List ByteArray} {v2 : Bool} {v3 : Bool} {v4 : List GSignature} (h : RepL w (GTrait.tr (.mk v0 v1 v2 v3 v4)) cs) :
    ∃ (a1 : Option Addr) (c1 : Nat) (a4 : Option Addr) (c4 : Nat), cs = [.string v0] ++ ([.slice a1 v1.length c1] ++ ([.bool v2] ++ ([.bool v3] ++ ([.slice a4 v4.length c4] ++ ([]))))) ∧ LeafOk (.string v0) ∧ Rep w (.row 1 (strTrs v1)) (.slice a1 v1.length c1) ∧ LeafOk (.bool v2) ∧ LeafOk (.bool v3) ∧ Rep w (.row 16 (GSignature.trs v4)) (.slice a4 v4.length c4) := by
  obtain ⟨b0, r0, rfl, g0, n0⟩ := RepL.split h
  obtain ⟨y0, rfl⟩ := list1 g0.length.symm
  obtain ⟨rfl, k0⟩ := g0.1.leaf_eq
  obtain ⟨b1, r1, rfl, g1, n1⟩ := RepL.split n0
  obtain ⟨y1, rfl⟩ := list1 g1.length.symm
  obtain ⟨a1, c1, e1, -, -⟩ := g1.1.shape
  rw [strTrs_len] at e1
  subst e1
  obtain ⟨b2, r2, rfl, g2, n2⟩ := RepL.split n1
  obtain ⟨y2, rfl⟩ := list1 g2.length.symm
  obtain ⟨rfl, k2⟩ := g2.1.leaf_eq
  obtain ⟨b3, r3, rfl, g3, n3⟩ := RepL.split n2
  obtain ⟨y3, rfl⟩ := list1 g3.length.symm
  obtain ⟨rfl, k3⟩ := g3.1.leaf_eq
  obtain ⟨b4, r4, rfl, g4, n4⟩ := RepL.split n3
  obtain ⟨y4, rfl⟩ := list1 g4.length.symm
  obtain ⟨a4, c4, e4, -, -⟩ := g4.1.shape
  rw [GSignature.trs_len] at e4
  subst e4
  obtain rfl := RepL.nil_eq n4
  exact ⟨a1, c1, a4, c4, rfl, k0, g1.1, k2, k3, g4.1⟩

theorem GTrait.sz (l : List GTrait) : ∀ e ∈ GTrait.trs l, e.length = 5 := by
  intro e he
  rw [GTrait.trs_map] at he
  obtain ⟨x, -, rfl⟩ := List.mem_map.1 he
  exact GTrait.tr_len x
theorem GTrait.all {l : List GTrait} {Q : List Tr → Prop} (h : ∀ x ∈ l, Q x.tr) : ∀ e ∈ GTrait.trs l, Q e := by
  intro e he
  rw [GTrait.trs_map] at he
  obtain ⟨x, hx, rfl⟩ := List.mem_map.1 he
  exact h x hx
theorem GTrait.trs_get {l : List GTrait} {k : Nat} (h : k < l.length) : (GTrait.trs l)[k]? = some (l[k]).tr := by
  rw [GTrait.trs_map, List.getElem?_map, List.getElem?_eq_getElem h]; rfl
inductive GConstructor where
  | mk (name_ : ByteArray) (fields_ : List GType)
def GConstructor.tr : GConstructor → List Tr
  | .mk v0 v1 => [.leaf (.string v0)] ++ ([.row 3 (GType.trs v1)] ++ ([]))
def GConstructor.trs (l : List GConstructor) : List (List Tr) := l.map GConstructor.tr
theorem GConstructor.trs_map (l : List GConstructor) : GConstructor.trs l = l.map GConstructor.tr := rfl
theorem GConstructor.trs_len (l : List GConstructor) : (GConstructor.trs l).length = l.length := by rw [GConstructor.trs_map, List.length_map]
def GConstructor.gName : GConstructor → ByteArray
  | .mk v _ => v
@[simp] theorem GConstructor.gName_mk (v0 : ByteArray) (v1 : List GType) : GConstructor.gName (.mk v0 v1) = v0 := rfl
def GConstructor.gFields : GConstructor → List GType
  | .mk _ v => v
@[simp] theorem GConstructor.gFields_mk (v0 : ByteArray) (v1 : List GType) : GConstructor.gFields (.mk v0 v1) = v1 := rfl
theorem GConstructor.tr_len (x : GConstructor) : x.tr.length = 2 := by
  obtain ⟨v0, v1⟩ := x
  simp [GConstructor.tr]
theorem GConstructor.opened {w : World} {cs : List Value} {v0 : ByteArray} {v1 : List GType} (h : RepL w (GConstructor.tr (.mk v0 v1)) cs) :
    ∃ (a1 : Option Addr) (c1 : Nat), cs = [.string v0] ++ ([.slice a1 v1.length c1] ++ ([])) ∧ LeafOk (.string v0) ∧ Rep w (.row 3 (GType.trs v1)) (.slice a1 v1.length c1) := by
  obtain ⟨b0, r0, rfl, g0, n0⟩ := RepL.split h
  obtain ⟨y0, rfl⟩ := list1 g0.length.symm
  obtain ⟨rfl, k0⟩ := g0.1.leaf_eq
  obtain ⟨b1, r1, rfl, g1, n1⟩ := RepL.split n0
  obtain ⟨y1, rfl⟩ := list1 g1.length.symm
  obtain ⟨a1, c1, e1, -, -⟩ := g1.1.shape
  rw [GType.trs_len] at e1
  subst e1
  obtain rfl := RepL.nil_eq n1
  exact ⟨a1, c1, rfl, k0, g1.1⟩

theorem GConstructor.sz (l : List GConstructor) : ∀ e ∈ GConstructor.trs l, e.length = 2 := by
  intro e he
  rw [GConstructor.trs_map] at he
  obtain ⟨x, -, rfl⟩ := List.mem_map.1 he
  exact GConstructor.tr_len x
theorem GConstructor.all {l : List GConstructor} {Q : List Tr → Prop} (h : ∀ x ∈ l, Q x.tr) : ∀ e ∈ GConstructor.trs l, Q e := by
  intro e he
  rw [GConstructor.trs_map] at he
  obtain ⟨x, hx, rfl⟩ := List.mem_map.1 he
  exact h x hx
theorem GConstructor.trs_get {l : List GConstructor} {k : Nat} (h : k < l.length) : (GConstructor.trs l)[k]? = some (l[k]).tr := by
  rw [GConstructor.trs_map, List.getElem?_map, List.getElem?_eq_getElem h]; rfl
inductive GDataType where
  | mk (name_ : ByteArray) (vars_ : List ByteArray) (constructors_ : List GConstructor)
def GDataType.tr : GDataType → List Tr
  | .mk v0 v1 v2 => [.leaf (.string v0)] ++ ([.row 1 (strTrs v1)] ++ ([.row 2 (GConstructor.trs v2)] ++ ([])))
def GDataType.trs (l : List GDataType) : List (List Tr) := l.map GDataType.tr
theorem GDataType.trs_map (l : List GDataType) : GDataType.trs l = l.map GDataType.tr := rfl
theorem GDataType.trs_len (l : List GDataType) : (GDataType.trs l).length = l.length := by rw [GDataType.trs_map, List.length_map]
def GDataType.gName : GDataType → ByteArray
  | .mk v _ _ => v
@[simp] theorem GDataType.gName_mk (v0 : ByteArray) (v1 : List ByteArray) (v2 : List GConstructor) : GDataType.gName (.mk v0 v1 v2) = v0 := rfl
def GDataType.gVars : GDataType → List ByteArray
  | .mk _ v _ => v
@[simp] theorem GDataType.gVars_mk (v0 : ByteArray) (v1 : List ByteArray) (v2 : List GConstructor) : GDataType.gVars (.mk v0 v1 v2) = v1 := rfl
def GDataType.gConstructors : GDataType → List GConstructor
  | .mk _ _ v => v
@[simp] theorem GDataType.gConstructors_mk (v0 : ByteArray) (v1 : List ByteArray) (v2 : List GConstructor) : GDataType.gConstructors (.mk v0 v1 v2) = v2 := rfl
theorem GDataType.tr_len (x : GDataType) : x.tr.length = 3 := by
  obtain ⟨v0, v1, v2⟩ := x
  simp [GDataType.tr]
theorem GDataType.opened {w : World} {cs : List Value} {v0 : ByteArray} {v1 : List ByteArray} {v2 : List GConstructor} (h : RepL w (GDataType.tr (.mk v0 v1 v2)) cs) :
    ∃ (a1 : Option Addr) (c1 : Nat) (a2 : Option Addr) (c2 : Nat), cs = [.string v0] ++ ([.slice a1 v1.length c1] ++ ([.slice a2 v2.length c2] ++ ([]))) ∧ LeafOk (.string v0) ∧ Rep w (.row 1 (strTrs v1)) (.slice a1 v1.length c1) ∧ Rep w (.row 2 (GConstructor.trs v2)) (.slice a2 v2.length c2) := by
  obtain ⟨b0, r0, rfl, g0, n0⟩ := RepL.split h
  obtain ⟨y0, rfl⟩ := list1 g0.length.symm
  obtain ⟨rfl, k0⟩ := g0.1.leaf_eq
  obtain ⟨b1, r1, rfl, g1, n1⟩ := RepL.split n0
  obtain ⟨y1, rfl⟩ := list1 g1.length.symm
  obtain ⟨a1, c1, e1, -, -⟩ := g1.1.shape
  rw [strTrs_len] at e1
  subst e1
  obtain ⟨b2, r2, rfl, g2, n2⟩ := RepL.split n1
  obtain ⟨y2, rfl⟩ := list1 g2.length.symm
  obtain ⟨a2, c2, e2, -, -⟩ := g2.1.shape
  rw [GConstructor.trs_len] at e2
  subst e2
  obtain rfl := RepL.nil_eq n2
  exact ⟨a1, c1, a2, c2, rfl, k0, g1.1, g2.1⟩

theorem GDataType.sz (l : List GDataType) : ∀ e ∈ GDataType.trs l, e.length = 3 := by
  intro e he
  rw [GDataType.trs_map] at he
  obtain ⟨x, -, rfl⟩ := List.mem_map.1 he
  exact GDataType.tr_len x
theorem GDataType.all {l : List GDataType} {Q : List Tr → Prop} (h : ∀ x ∈ l, Q x.tr) : ∀ e ∈ GDataType.trs l, Q e := by
  intro e he
  rw [GDataType.trs_map] at he
  obtain ⟨x, hx, rfl⟩ := List.mem_map.1 he
  exact h x hx
theorem GDataType.trs_get {l : List GDataType} {k : Nat} (h : k < l.length) : (GDataType.trs l)[k]? = some (l[k]).tr := by
  rw [GDataType.trs_map, List.getElem?_map, List.getElem?_eq_getElem h]; rfl
inductive GBound where
  | mk (trait_ : ByteArray) (type_ : GType)
def GBound.tr : GBound → List Tr
  | .mk v0 v1 => [.leaf (.string v0)] ++ (GType.tr v1 ++ ([]))
def GBound.trs (l : List GBound) : List (List Tr) := l.map GBound.tr
theorem GBound.trs_map (l : List GBound) : GBound.trs l = l.map GBound.tr := rfl
theorem GBound.trs_len (l : List GBound) : (GBound.trs l).length = l.length := by rw [GBound.trs_map, List.length_map]
def GBound.gTrait : GBound → ByteArray
  | .mk v _ => v
@[simp] theorem GBound.gTrait_mk (v0 : ByteArray) (v1 : GType) : GBound.gTrait (.mk v0 v1) = v0 := rfl
def GBound.gType : GBound → GType
  | .mk _ v => v
@[simp] theorem GBound.gType_mk (v0 : ByteArray) (v1 : GType) : GBound.gType (.mk v0 v1) = v1 := rfl
theorem GBound.tr_len (x : GBound) : x.tr.length = 4 := by
  obtain ⟨v0, v1⟩ := x
  simp [GBound.tr, GType.tr_len]
theorem GBound.opened {w : World} {cs : List Value} {v0 : ByteArray} {v1 : GType} (h : RepL w (GBound.tr (.mk v0 v1)) cs) :
    ∃ (x1 : List Value), cs = [.string v0] ++ (x1 ++ ([])) ∧ LeafOk (.string v0) ∧ RepL w (GType.tr v1) x1 := by
  obtain ⟨b0, r0, rfl, g0, n0⟩ := RepL.split h
  obtain ⟨y0, rfl⟩ := list1 g0.length.symm
  obtain ⟨rfl, k0⟩ := g0.1.leaf_eq
  obtain ⟨b1, r1, rfl, g1, n1⟩ := RepL.split n0
  obtain rfl := RepL.nil_eq n1
  exact ⟨b1, rfl, k0, g1⟩

theorem GBound.sz (l : List GBound) : ∀ e ∈ GBound.trs l, e.length = 4 := by
  intro e he
  rw [GBound.trs_map] at he
  obtain ⟨x, -, rfl⟩ := List.mem_map.1 he
  exact GBound.tr_len x
theorem GBound.all {l : List GBound} {Q : List Tr → Prop} (h : ∀ x ∈ l, Q x.tr) : ∀ e ∈ GBound.trs l, Q e := by
  intro e he
  rw [GBound.trs_map] at he
  obtain ⟨x, hx, rfl⟩ := List.mem_map.1 he
  exact h x hx
theorem GBound.trs_get {l : List GBound} {k : Nat} (h : k < l.length) : (GBound.trs l)[k]? = some (l[k]).tr := by
  rw [GBound.trs_map, List.getElem?_map, List.getElem?_eq_getElem h]; rfl
inductive GMethod where
  | mk (name_ : ByteArray) (vars_ : List ByteArray) (body_ : GExpr)
def GMethod.tr : GMethod → List Tr
  | .mk v0 v1 v2 => [.leaf (.string v0)] ++ ([.row 1 (strTrs v1)] ++ (GExpr.tr v2 ++ ([])))
def GMethod.trs (l : List GMethod) : List (List Tr) := l.map GMethod.tr
theorem GMethod.trs_map (l : List GMethod) : GMethod.trs l = l.map GMethod.tr := rfl
theorem GMethod.trs_len (l : List GMethod) : (GMethod.trs l).length = l.length := by rw [GMethod.trs_map, List.length_map]
def GMethod.gName : GMethod → ByteArray
  | .mk v _ _ => v
@[simp] theorem GMethod.gName_mk (v0 : ByteArray) (v1 : List ByteArray) (v2 : GExpr) : GMethod.gName (.mk v0 v1 v2) = v0 := rfl
def GMethod.gVars : GMethod → List ByteArray
  | .mk _ v _ => v
@[simp] theorem GMethod.gVars_mk (v0 : ByteArray) (v1 : List ByteArray) (v2 : GExpr) : GMethod.gVars (.mk v0 v1 v2) = v1 := rfl
def GMethod.gBody : GMethod → GExpr
  | .mk _ _ v => v
@[simp] theorem GMethod.gBody_mk (v0 : ByteArray) (v1 : List ByteArray) (v2 : GExpr) : GMethod.gBody (.mk v0 v1 v2) = v2 := rfl
theorem GMethod.tr_len (x : GMethod) : x.tr.length = 11 := by
  obtain ⟨v0, v1, v2⟩ := x
  simp [GMethod.tr, GExpr.tr_len]
theorem GMethod.opened {w : World} {cs : List Value} {v0 : ByteArray} {v1 : List ByteArray} {v2 : GExpr} (h : RepL w (GMethod.tr (.mk v0 v1 v2)) cs) :
    ∃ (a1 : Option Addr) (c1 : Nat) (x2 : List Value), cs = [.string v0] ++ ([.slice a1 v1.length c1] ++ (x2 ++ ([]))) ∧ LeafOk (.string v0) ∧ Rep w (.row 1 (strTrs v1)) (.slice a1 v1.length c1) ∧ RepL w (GExpr.tr v2) x2 := by
  obtain ⟨b0, r0, rfl, g0, n0⟩ := RepL.split h
  obtain ⟨y0, rfl⟩ := list1 g0.length.symm
  obtain ⟨rfl, k0⟩ := g0.1.leaf_eq
  obtain ⟨b1, r1, rfl, g1, n1⟩ := RepL.split n0
  obtain ⟨y1, rfl⟩ := list1 g1.length.symm
  obtain ⟨a1, c1, e1, -, -⟩ := g1.1.shape
  rw [strTrs_len] at e1
  subst e1
  obtain ⟨b2, r2, rfl, g2, n2⟩ := RepL.split n1
  obtain rfl := RepL.nil_eq n2
  exact ⟨a1, c1, b2, rfl, k0, g1.1, g2⟩

theorem GMethod.sz (l : List GMethod) : ∀ e ∈ GMethod.trs l, e.length = 11 := by
  intro e he
  rw [GMethod.trs_map] at he
  obtain ⟨x, -, rfl⟩ := List.mem_map.1 he
  exact GMethod.tr_len x
theorem GMethod.all {l : List GMethod} {Q : List Tr → Prop} (h : ∀ x ∈ l, Q x.tr) : ∀ e ∈ GMethod.trs l, Q e := by
  intro e he
  rw [GMethod.trs_map] at he
  obtain ⟨x, hx, rfl⟩ := List.mem_map.1 he
  exact h x hx
theorem GMethod.trs_get {l : List GMethod} {k : Nat} (h : k < l.length) : (GMethod.trs l)[k]? = some (l[k]).tr := by
  rw [GMethod.trs_map, List.getElem?_map, List.getElem?_eq_getElem h]; rfl
inductive GInstance where
  | mk (trait_ : ByteArray) (vars_ : List ByteArray) (head_ : GType) (where_ : List GBound) (default_ : Bool) (hasassoc_ : Bool) (assoc_ : GType) (methods_ : List GMethod)
def GInstance.tr : GInstance → List Tr
  | .mk v0 v1 v2 v3 v4 v5 v6 v7 => [.leaf (.string v0)] ++ ([.row 1 (strTrs v1)] ++ (GType.tr v2 ++ ([.row 4 (GBound.trs v3)] ++ ([.leaf (.bool v4)] ++ ([.leaf (.bool v5)] ++ (GType.tr v6 ++ ([.row 11 (GMethod.trs v7)] ++ ([]))))))))
def GInstance.trs (l : List GInstance) : List (List Tr) := l.map GInstance.tr
theorem GInstance.trs_map (l : List GInstance) : GInstance.trs l = l.map GInstance.tr := rfl
theorem GInstance.trs_len (l : List GInstance) : (GInstance.trs l).length = l.length := by rw [GInstance.trs_map, List.length_map]
def GInstance.gTrait : GInstance → ByteArray
  | .mk v _ _ _ _ _ _ _ => v
@[simp] theorem GInstance.gTrait_mk (v0 : ByteArray) (v1 : List ByteArray) (v2 : GType) (v3 : List GBound) (v4 : Bool) (v5 : Bool) (v6 : GType) (v7 : List GMethod) : GInstance.gTrait (.mk v0 v1 v2 v3 v4 v5 v6 v7) = v0 := rfl
def GInstance.gVars : GInstance → List ByteArray
  | .mk _ v _ _ _ _ _ _ => v
@[simp] theorem GInstance.gVars_mk (v0 : ByteArray) (v1 : List ByteArray) (v2 : GType) (v3 : List GBound) (v4 : Bool) (v5 : Bool) (v6 : GType) (v7 : List GMethod) : GInstance.gVars (.mk v0 v1 v2 v3 v4 v5 v6 v7) = v1 := rfl
def GInstance.gHead : GInstance → GType
  | .mk _ _ v _ _ _ _ _ => v
@[simp] theorem GInstance.gHead_mk (v0 : ByteArray) (v1 : List ByteArray) (v2 : GType) (v3 : List GBound) (v4 : Bool) (v5 : Bool) (v6 : GType) (v7 : List GMethod) : GInstance.gHead (.mk v0 v1 v2 v3 v4 v5 v6 v7) = v2 := rfl
def GInstance.gWhere : GInstance → List GBound
  | .mk _ _ _ v _ _ _ _ => v
@[simp] theorem GInstance.gWhere_mk (v0 : ByteArray) (v1 : List ByteArray) (v2 : GType) (v3 : List GBound) (v4 : Bool) (v5 : Bool) (v6 : GType) (v7 : List GMethod) : GInstance.gWhere (.mk v0 v1 v2 v3 v4 v5 v6 v7) = v3 := rfl
def GInstance.gDefault : GInstance → Bool
  | .mk _ _ _ _ v _ _ _ => v
@[simp] theorem GInstance.gDefault_mk (v0 : ByteArray) (v1 : List ByteArray) (v2 : GType) (v3 : List GBound) (v4 : Bool) (v5 : Bool) (v6 : GType) (v7 : List GMethod) : GInstance.gDefault (.mk v0 v1 v2 v3 v4 v5 v6 v7) = v4 := rfl
def GInstance.gHasAssoc : GInstance → Bool
  | .mk _ _ _ _ _ v _ _ => v
@[simp] theorem GInstance.gHasAssoc_mk (v0 : ByteArray) (v1 : List ByteArray) (v2 : GType) (v3 : List GBound) (v4 : Bool) (v5 : Bool) (v6 : GType) (v7 : List GMethod) : GInstance.gHasAssoc (.mk v0 v1 v2 v3 v4 v5 v6 v7) = v5 := rfl
def GInstance.gAssoc : GInstance → GType
  | .mk _ _ _ _ _ _ v _ => v
@[simp] theorem GInstance.gAssoc_mk (v0 : ByteArray) (v1 : List ByteArray) (v2 : GType) (v3 : List GBound) (v4 : Bool) (v5 : Bool) (v6 : GType) (v7 : List GMethod) : GInstance.gAssoc (.mk v0 v1 v2 v3 v4 v5 v6 v7) = v6 := rfl
def GInstance.gMethods : GInstance → List GMethod
  | .mk _ _ _ _ _ _ _ v => v
@[simp] theorem GInstance.gMethods_mk (v0 : ByteArray) (v1 : List ByteArray) (v2 : GType) (v3 : List GBound) (v4 : Bool) (v5 : Bool) (v6 : GType) (v7 : List GMethod) : GInstance.gMethods (.mk v0 v1 v2 v3 v4 v5 v6 v7) = v7 := rfl
theorem GInstance.tr_len (x : GInstance) : x.tr.length = 12 := by
  obtain ⟨v0, v1, v2, v3, v4, v5, v6, v7⟩ := x
  simp [GInstance.tr, GType.tr_len, GType.tr_len]
theorem GInstance.opened {w : World} {cs : List Value} {v0 : ByteArray} {v1 : List ByteArray} {v2 : GType} {v3 : List GBound} {v4 : Bool} {v5 : Bool} {v6 : GType} {v7 : List GMethod} (h : RepL w (GInstance.tr (.mk v0 v1 v2 v3 v4 v5 v6 v7)) cs) :
    ∃ (a1 : Option Addr) (c1 : Nat) (x2 : List Value) (a3 : Option Addr) (c3 : Nat) (x6 : List Value) (a7 : Option Addr) (c7 : Nat), cs = [.string v0] ++ ([.slice a1 v1.length c1] ++ (x2 ++ ([.slice a3 v3.length c3] ++ ([.bool v4] ++ ([.bool v5] ++ (x6 ++ ([.slice a7 v7.length c7] ++ ([])))))))) ∧ LeafOk (.string v0) ∧ Rep w (.row 1 (strTrs v1)) (.slice a1 v1.length c1) ∧ RepL w (GType.tr v2) x2 ∧ Rep w (.row 4 (GBound.trs v3)) (.slice a3 v3.length c3) ∧ LeafOk (.bool v4) ∧ LeafOk (.bool v5) ∧ RepL w (GType.tr v6) x6 ∧ Rep w (.row 11 (GMethod.trs v7)) (.slice a7 v7.length c7) := by
  obtain ⟨b0, r0, rfl, g0, n0⟩ := RepL.split h
  obtain ⟨y0, rfl⟩ := list1 g0.length.symm
  obtain ⟨rfl, k0⟩ := g0.1.leaf_eq
  obtain ⟨b1, r1, rfl, g1, n1⟩ := RepL.split n0
  obtain ⟨y1, rfl⟩ := list1 g1.length.symm
  obtain ⟨a1, c1, e1, -, -⟩ := g1.1.shape
  rw [strTrs_len] at e1
  subst e1
  obtain ⟨b2, r2, rfl, g2, n2⟩ := RepL.split n1
  obtain ⟨b3, r3, rfl, g3, n3⟩ := RepL.split n2
  obtain ⟨y3, rfl⟩ := list1 g3.length.symm
  obtain ⟨a3, c3, e3, -, -⟩ := g3.1.shape
  rw [GBound.trs_len] at e3
  subst e3
  obtain ⟨b4, r4, rfl, g4, n4⟩ := RepL.split n3
  obtain ⟨y4, rfl⟩ := list1 g4.length.symm
  obtain ⟨rfl, k4⟩ := g4.1.leaf_eq
  obtain ⟨b5, r5, rfl, g5, n5⟩ := RepL.split n4
  obtain ⟨y5, rfl⟩ := list1 g5.length.symm
  obtain ⟨rfl, k5⟩ := g5.1.leaf_eq
  obtain ⟨b6, r6, rfl, g6, n6⟩ := RepL.split n5
  obtain ⟨b7, r7, rfl, g7, n7⟩ := RepL.split n6
  obtain ⟨y7, rfl⟩ := list1 g7.length.symm
  obtain ⟨a7, c7, e7, -, -⟩ := g7.1.shape
  rw [GMethod.trs_len] at e7
  subst e7
  obtain rfl := RepL.nil_eq n7
  exact ⟨a1, c1, b2, a3, c3, b6, a7, c7, rfl, k0, g1.1, g2, g3.1, k4, k5, g6, g7.1⟩

theorem GInstance.sz (l : List GInstance) : ∀ e ∈ GInstance.trs l, e.length = 12 := by
  intro e he
  rw [GInstance.trs_map] at he
  obtain ⟨x, -, rfl⟩ := List.mem_map.1 he
  exact GInstance.tr_len x
theorem GInstance.all {l : List GInstance} {Q : List Tr → Prop} (h : ∀ x ∈ l, Q x.tr) : ∀ e ∈ GInstance.trs l, Q e := by
  intro e he
  rw [GInstance.trs_map] at he
  obtain ⟨x, hx, rfl⟩ := List.mem_map.1 he
  exact h x hx
theorem GInstance.trs_get {l : List GInstance} {k : Nat} (h : k < l.length) : (GInstance.trs l)[k]? = some (l[k]).tr := by
  rw [GInstance.trs_map, List.getElem?_map, List.getElem?_eq_getElem h]; rfl
inductive GParam where
  | mk (name_ : ByteArray) (type_ : GType)
def GParam.tr : GParam → List Tr
  | .mk v0 v1 => [.leaf (.string v0)] ++ (GType.tr v1 ++ ([]))
def GParam.trs (l : List GParam) : List (List Tr) := l.map GParam.tr
theorem GParam.trs_map (l : List GParam) : GParam.trs l = l.map GParam.tr := rfl
theorem GParam.trs_len (l : List GParam) : (GParam.trs l).length = l.length := by rw [GParam.trs_map, List.length_map]
def GParam.gName : GParam → ByteArray
  | .mk v _ => v
@[simp] theorem GParam.gName_mk (v0 : ByteArray) (v1 : GType) : GParam.gName (.mk v0 v1) = v0 := rfl
def GParam.gType : GParam → GType
  | .mk _ v => v
@[simp] theorem GParam.gType_mk (v0 : ByteArray) (v1 : GType) : GParam.gType (.mk v0 v1) = v1 := rfl
theorem GParam.tr_len (x : GParam) : x.tr.length = 4 := by
  obtain ⟨v0, v1⟩ := x
  simp [GParam.tr, GType.tr_len]
theorem GParam.opened {w : World} {cs : List Value} {v0 : ByteArray} {v1 : GType} (h : RepL w (GParam.tr (.mk v0 v1)) cs) :
    ∃ (x1 : List Value), cs = [.string v0] ++ (x1 ++ ([])) ∧ LeafOk (.string v0) ∧ RepL w (GType.tr v1) x1 := by
  obtain ⟨b0, r0, rfl, g0, n0⟩ := RepL.split h
  obtain ⟨y0, rfl⟩ := list1 g0.length.symm
  obtain ⟨rfl, k0⟩ := g0.1.leaf_eq
  obtain ⟨b1, r1, rfl, g1, n1⟩ := RepL.split n0
  obtain rfl := RepL.nil_eq n1
  exact ⟨b1, rfl, k0, g1⟩

theorem GParam.sz (l : List GParam) : ∀ e ∈ GParam.trs l, e.length = 4 := by
  intro e he
  rw [GParam.trs_map] at he
  obtain ⟨x, -, rfl⟩ := List.mem_map.1 he
  exact GParam.tr_len x
theorem GParam.all {l : List GParam} {Q : List Tr → Prop} (h : ∀ x ∈ l, Q x.tr) : ∀ e ∈ GParam.trs l, Q e := by
  intro e he
  rw [GParam.trs_map] at he
  obtain ⟨x, hx, rfl⟩ := List.mem_map.1 he
  exact h x hx
theorem GParam.trs_get {l : List GParam} {k : Nat} (h : k < l.length) : (GParam.trs l)[k]? = some (l[k]).tr := by
  rw [GParam.trs_map, List.getElem?_map, List.getElem?_eq_getElem h]; rfl
inductive GFunction where
  | mk (name_ : ByteArray) (vars_ : List ByteArray) (where_ : List GBound) (params_ : List GParam) (result_ : GType) (body_ : GExpr)
def GFunction.tr : GFunction → List Tr
  | .mk v0 v1 v2 v3 v4 v5 => [.leaf (.string v0)] ++ ([.row 1 (strTrs v1)] ++ ([.row 4 (GBound.trs v2)] ++ ([.row 4 (GParam.trs v3)] ++ (GType.tr v4 ++ (GExpr.tr v5 ++ ([]))))))
def GFunction.trs (l : List GFunction) : List (List Tr) := l.map GFunction.tr
theorem GFunction.trs_map (l : List GFunction) : GFunction.trs l = l.map GFunction.tr := rfl
theorem GFunction.trs_len (l : List GFunction) : (GFunction.trs l).length = l.length := by rw [GFunction.trs_map, List.length_map]
def GFunction.gName : GFunction → ByteArray
  | .mk v _ _ _ _ _ => v
@[simp] theorem GFunction.gName_mk (v0 : ByteArray) (v1 : List ByteArray) (v2 : List GBound) (v3 : List GParam) (v4 : GType) (v5 : GExpr) : GFunction.gName (.mk v0 v1 v2 v3 v4 v5) = v0 := rfl
def GFunction.gVars : GFunction → List ByteArray
  | .mk _ v _ _ _ _ => v
@[simp] theorem GFunction.gVars_mk (v0 : ByteArray) (v1 : List ByteArray) (v2 : List GBound) (v3 : List GParam) (v4 : GType) (v5 : GExpr) : GFunction.gVars (.mk v0 v1 v2 v3 v4 v5) = v1 := rfl
def GFunction.gWhere : GFunction → List GBound
  | .mk _ _ v _ _ _ => v
@[simp] theorem GFunction.gWhere_mk (v0 : ByteArray) (v1 : List ByteArray) (v2 : List GBound) (v3 : List GParam) (v4 : GType) (v5 : GExpr) : GFunction.gWhere (.mk v0 v1 v2 v3 v4 v5) = v2 := rfl
def GFunction.gParams : GFunction → List GParam
  | .mk _ _ _ v _ _ => v
@[simp] theorem GFunction.gParams_mk (v0 : ByteArray) (v1 : List ByteArray) (v2 : List GBound) (v3 : List GParam) (v4 : GType) (v5 : GExpr) : GFunction.gParams (.mk v0 v1 v2 v3 v4 v5) = v3 := rfl
def GFunction.gResult : GFunction → GType
  | .mk _ _ _ _ v _ => v
@[simp] theorem GFunction.gResult_mk (v0 : ByteArray) (v1 : List ByteArray) (v2 : List GBound) (v3 : List GParam) (v4 : GType) (v5 : GExpr) : GFunction.gResult (.mk v0 v1 v2 v3 v4 v5) = v4 := rfl
def GFunction.gBody : GFunction → GExpr
  | .mk _ _ _ _ _ v => v
@[simp] theorem GFunction.gBody_mk (v0 : ByteArray) (v1 : List ByteArray) (v2 : List GBound) (v3 : List GParam) (v4 : GType) (v5 : GExpr) : GFunction.gBody (.mk v0 v1 v2 v3 v4 v5) = v5 := rfl
theorem GFunction.tr_len (x : GFunction) : x.tr.length = 16 := by
  obtain ⟨v0, v1, v2, v3, v4, v5⟩ := x
  simp [GFunction.tr, GType.tr_len, GExpr.tr_len]
theorem GFunction.opened {w : World} {cs : List Value} {v0 : ByteArray} {v1 : List ByteArray} {v2 : List GBound} {v3 : List GParam} {v4 : GType} {v5 : GExpr} (h : RepL w (GFunction.tr (.mk v0 v1 v2 v3 v4 v5)) cs) :
    ∃ (a1 : Option Addr) (c1 : Nat) (a2 : Option Addr) (c2 : Nat) (a3 : Option Addr) (c3 : Nat) (x4 : List Value) (x5 : List Value), cs = [.string v0] ++ ([.slice a1 v1.length c1] ++ ([.slice a2 v2.length c2] ++ ([.slice a3 v3.length c3] ++ (x4 ++ (x5 ++ ([])))))) ∧ LeafOk (.string v0) ∧ Rep w (.row 1 (strTrs v1)) (.slice a1 v1.length c1) ∧ Rep w (.row 4 (GBound.trs v2)) (.slice a2 v2.length c2) ∧ Rep w (.row 4 (GParam.trs v3)) (.slice a3 v3.length c3) ∧ RepL w (GType.tr v4) x4 ∧ RepL w (GExpr.tr v5) x5 := by
  obtain ⟨b0, r0, rfl, g0, n0⟩ := RepL.split h
  obtain ⟨y0, rfl⟩ := list1 g0.length.symm
  obtain ⟨rfl, k0⟩ := g0.1.leaf_eq
  obtain ⟨b1, r1, rfl, g1, n1⟩ := RepL.split n0
  obtain ⟨y1, rfl⟩ := list1 g1.length.symm
  obtain ⟨a1, c1, e1, -, -⟩ := g1.1.shape
  rw [strTrs_len] at e1
  subst e1
  obtain ⟨b2, r2, rfl, g2, n2⟩ := RepL.split n1
  obtain ⟨y2, rfl⟩ := list1 g2.length.symm
  obtain ⟨a2, c2, e2, -, -⟩ := g2.1.shape
  rw [GBound.trs_len] at e2
  subst e2
  obtain ⟨b3, r3, rfl, g3, n3⟩ := RepL.split n2
  obtain ⟨y3, rfl⟩ := list1 g3.length.symm
  obtain ⟨a3, c3, e3, -, -⟩ := g3.1.shape
  rw [GParam.trs_len] at e3
  subst e3
  obtain ⟨b4, r4, rfl, g4, n4⟩ := RepL.split n3
  obtain ⟨b5, r5, rfl, g5, n5⟩ := RepL.split n4
  obtain rfl := RepL.nil_eq n5
  exact ⟨a1, c1, a2, c2, a3, c3, b4, b5, rfl, k0, g1.1, g2.1, g3.1, g4, g5⟩

theorem GFunction.sz (l : List GFunction) : ∀ e ∈ GFunction.trs l, e.length = 16 := by
  intro e he
  rw [GFunction.trs_map] at he
  obtain ⟨x, -, rfl⟩ := List.mem_map.1 he
  exact GFunction.tr_len x
theorem GFunction.all {l : List GFunction} {Q : List Tr → Prop} (h : ∀ x ∈ l, Q x.tr) : ∀ e ∈ GFunction.trs l, Q e := by
  intro e he
  rw [GFunction.trs_map] at he
  obtain ⟨x, hx, rfl⟩ := List.mem_map.1 he
  exact h x hx
theorem GFunction.trs_get {l : List GFunction} {k : Nat} (h : k < l.length) : (GFunction.trs l)[k]? = some (l[k]).tr := by
  rw [GFunction.trs_map, List.getElem?_map, List.getElem?_eq_getElem h]; rfl
inductive GPackage where
  | mk (name_ : ByteArray) (deps_ : List ByteArray) (traits_ : List GTrait) (datatypes_ : List GDataType) (instances_ : List GInstance) (functions_ : List GFunction)
def GPackage.tr : GPackage → List Tr
  | .mk v0 v1 v2 v3 v4 v5 => [.leaf (.string v0)] ++ ([.row 1 (strTrs v1)] ++ ([.row 5 (GTrait.trs v2)] ++ ([.row 3 (GDataType.trs v3)] ++ ([.row 12 (GInstance.trs v4)] ++ ([.row 16 (GFunction.trs v5)] ++ ([]))))))
def GPackage.trs (l : List GPackage) : List (List Tr) := l.map GPackage.tr
theorem GPackage.trs_map (l : List GPackage) : GPackage.trs l = l.map GPackage.tr := rfl
theorem GPackage.trs_len (l : List GPackage) : (GPackage.trs l).length = l.length := by rw [GPackage.trs_map, List.length_map]
def GPackage.gName : GPackage → ByteArray
  | .mk v _ _ _ _ _ => v
@[simp] theorem GPackage.gName_mk (v0 : ByteArray) (v1 : List ByteArray) (v2 : List GTrait) (v3 : List GDataType) (v4 : List GInstance) (v5 : List GFunction) : GPackage.gName (.mk v0 v1 v2 v3 v4 v5) = v0 := rfl
def GPackage.gDeps : GPackage → List ByteArray
  | .mk _ v _ _ _ _ => v
@[simp] theorem GPackage.gDeps_mk (v0 : ByteArray) (v1 : List ByteArray) (v2 : List GTrait) (v3 : List GDataType) (v4 : List GInstance) (v5 : List GFunction) : GPackage.gDeps (.mk v0 v1 v2 v3 v4 v5) = v1 := rfl
def GPackage.gTraits : GPackage → List GTrait
  | .mk _ _ v _ _ _ => v
@[simp] theorem GPackage.gTraits_mk (v0 : ByteArray) (v1 : List ByteArray) (v2 : List GTrait) (v3 : List GDataType) (v4 : List GInstance) (v5 : List GFunction) : GPackage.gTraits (.mk v0 v1 v2 v3 v4 v5) = v2 := rfl
def GPackage.gDataTypes : GPackage → List GDataType
  | .mk _ _ _ v _ _ => v
@[simp] theorem GPackage.gDataTypes_mk (v0 : ByteArray) (v1 : List ByteArray) (v2 : List GTrait) (v3 : List GDataType) (v4 : List GInstance) (v5 : List GFunction) : GPackage.gDataTypes (.mk v0 v1 v2 v3 v4 v5) = v3 := rfl
def GPackage.gInstances : GPackage → List GInstance
  | .mk _ _ _ _ v _ => v
@[simp] theorem GPackage.gInstances_mk (v0 : ByteArray) (v1 : List ByteArray) (v2 : List GTrait) (v3 : List GDataType) (v4 : List GInstance) (v5 : List GFunction) : GPackage.gInstances (.mk v0 v1 v2 v3 v4 v5) = v4 := rfl
def GPackage.gFunctions : GPackage → List GFunction
  | .mk _ _ _ _ _ v => v
@[simp] theorem GPackage.gFunctions_mk (v0 : ByteArray) (v1 : List ByteArray) (v2 : List GTrait) (v3 : List GDataType) (v4 : List GInstance) (v5 : List GFunction) : GPackage.gFunctions (.mk v0 v1 v2 v3 v4 v5) = v5 := rfl
theorem GPackage.tr_len (x : GPackage) : x.tr.length = 6 := by
  obtain ⟨v0, v1, v2, v3, v4, v5⟩ := x
  simp [GPackage.tr]
theorem GPackage.opened {w : World} {cs : List Value} {v0 : ByteArray} {v1 : List ByteArray} {v2 : List GTrait} {v3 : List GDataType} {v4 : List GInstance} {v5 : List GFunction} (h : RepL w (GPackage.tr (.mk v0 v1 v2 v3 v4 v5)) cs) :
    ∃ (a1 : Option Addr) (c1 : Nat) (a2 : Option Addr) (c2 : Nat) (a3 : Option Addr) (c3 : Nat) (a4 : Option Addr) (c4 : Nat) (a5 : Option Addr) (c5 : Nat), cs = [.string v0] ++ ([.slice a1 v1.length c1] ++ ([.slice a2 v2.length c2] ++ ([.slice a3 v3.length c3] ++ ([.slice a4 v4.length c4] ++ ([.slice a5 v5.length c5] ++ ([])))))) ∧ LeafOk (.string v0) ∧ Rep w (.row 1 (strTrs v1)) (.slice a1 v1.length c1) ∧ Rep w (.row 5 (GTrait.trs v2)) (.slice a2 v2.length c2) ∧ Rep w (.row 3 (GDataType.trs v3)) (.slice a3 v3.length c3) ∧ Rep w (.row 12 (GInstance.trs v4)) (.slice a4 v4.length c4) ∧ Rep w (.row 16 (GFunction.trs v5)) (.slice a5 v5.length c5) := by
  obtain ⟨b0, r0, rfl, g0, n0⟩ := RepL.split h
  obtain ⟨y0, rfl⟩ := list1 g0.length.symm
  obtain ⟨rfl, k0⟩ := g0.1.leaf_eq
  obtain ⟨b1, r1, rfl, g1, n1⟩ := RepL.split n0
  obtain ⟨y1, rfl⟩ := list1 g1.length.symm
  obtain ⟨a1, c1, e1, -, -⟩ := g1.1.shape
  rw [strTrs_len] at e1
  subst e1
  obtain ⟨b2, r2, rfl, g2, n2⟩ := RepL.split n1
  obtain ⟨y2, rfl⟩ := list1 g2.length.symm
  obtain ⟨a2, c2, e2, -, -⟩ := g2.1.shape
  rw [GTrait.trs_len] at e2
  subst e2
  obtain ⟨b3, r3, rfl, g3, n3⟩ := RepL.split n2
  obtain ⟨y3, rfl⟩ := list1 g3.length.symm
  obtain ⟨a3, c3, e3, -, -⟩ := g3.1.shape
  rw [GDataType.trs_len] at e3
  subst e3
  obtain ⟨b4, r4, rfl, g4, n4⟩ := RepL.split n3
  obtain ⟨y4, rfl⟩ := list1 g4.length.symm
  obtain ⟨a4, c4, e4, -, -⟩ := g4.1.shape
  rw [GInstance.trs_len] at e4
  subst e4
  obtain ⟨b5, r5, rfl, g5, n5⟩ := RepL.split n4
  obtain ⟨y5, rfl⟩ := list1 g5.length.symm
  obtain ⟨a5, c5, e5, -, -⟩ := g5.1.shape
  rw [GFunction.trs_len] at e5
  subst e5
  obtain rfl := RepL.nil_eq n5
  exact ⟨a1, c1, a2, c2, a3, c3, a4, c4, a5, c5, rfl, k0, g1.1, g2.1, g3.1, g4.1, g5.1⟩

theorem GPackage.sz (l : List GPackage) : ∀ e ∈ GPackage.trs l, e.length = 6 := by
  intro e he
  rw [GPackage.trs_map] at he
  obtain ⟨x, -, rfl⟩ := List.mem_map.1 he
  exact GPackage.tr_len x
theorem GPackage.all {l : List GPackage} {Q : List Tr → Prop} (h : ∀ x ∈ l, Q x.tr) : ∀ e ∈ GPackage.trs l, Q e := by
  intro e he
  rw [GPackage.trs_map] at he
  obtain ⟨x, hx, rfl⟩ := List.mem_map.1 he
  exact h x hx
theorem GPackage.trs_get {l : List GPackage} {k : Nat} (h : k < l.length) : (GPackage.trs l)[k]? = some (l[k]).tr := by
  rw [GPackage.trs_map, List.getElem?_map, List.getElem?_eq_getElem h]; rfl
inductive GProgram where
  | mk (packages_ : List GPackage)
def GProgram.tr : GProgram → List Tr
  | .mk v0 => [.row 6 (GPackage.trs v0)] ++ ([])
def GProgram.trs (l : List GProgram) : List (List Tr) := l.map GProgram.tr
theorem GProgram.trs_map (l : List GProgram) : GProgram.trs l = l.map GProgram.tr := rfl
theorem GProgram.trs_len (l : List GProgram) : (GProgram.trs l).length = l.length := by rw [GProgram.trs_map, List.length_map]
def GProgram.gPackages : GProgram → List GPackage
  | .mk v => v
@[simp] theorem GProgram.gPackages_mk (v0 : List GPackage) : GProgram.gPackages (.mk v0) = v0 := rfl
theorem GProgram.tr_len (x : GProgram) : x.tr.length = 1 := by
  obtain ⟨v0⟩ := x
  simp [GProgram.tr]
theorem GProgram.opened {w : World} {cs : List Value} {v0 : List GPackage} (h : RepL w (GProgram.tr (.mk v0)) cs) :
    ∃ (a0 : Option Addr) (c0 : Nat), cs = [.slice a0 v0.length c0] ++ ([]) ∧ Rep w (.row 6 (GPackage.trs v0)) (.slice a0 v0.length c0) := by
  obtain ⟨b0, r0, rfl, g0, n0⟩ := RepL.split h
  obtain ⟨y0, rfl⟩ := list1 g0.length.symm
  obtain ⟨a0, c0, e0, -, -⟩ := g0.1.shape
  rw [GPackage.trs_len] at e0
  subst e0
  obtain rfl := RepL.nil_eq n0
  exact ⟨a0, c0, rfl, g0.1⟩

theorem GProgram.sz (l : List GProgram) : ∀ e ∈ GProgram.trs l, e.length = 1 := by
  intro e he
  rw [GProgram.trs_map] at he
  obtain ⟨x, -, rfl⟩ := List.mem_map.1 he
  exact GProgram.tr_len x
theorem GProgram.all {l : List GProgram} {Q : List Tr → Prop} (h : ∀ x ∈ l, Q x.tr) : ∀ e ∈ GProgram.trs l, Q e := by
  intro e he
  rw [GProgram.trs_map] at he
  obtain ⟨x, hx, rfl⟩ := List.mem_map.1 he
  exact h x hx
theorem GProgram.trs_get {l : List GProgram} {k : Nat} (h : k < l.length) : (GProgram.trs l)[k]? = some (l[k]).tr := by
  rw [GProgram.trs_map, List.getElem?_map, List.getElem?_eq_getElem h]; rfl
inductive GEvidence where
  | mk (kind_ : Int) (n_ : Int) (at_ : GInstanceRef) (args_ : List GEvidence)
mutual
def GEvidence.tr : GEvidence → List Tr
  | .mk v0 v1 v2 v3 => [.leaf (.int .i64 v0)] ++ ([.leaf (.int .i64 v1)] ++ (GInstanceRef.tr v2 ++ ([.row 5 (GEvidence.trs v3)] ++ ([]))))
def GEvidence.trs : List GEvidence → List (List Tr)
  | [] => []
  | e :: r => GEvidence.tr e :: GEvidence.trs r
end
theorem GEvidence.trs_map (l : List GEvidence) : GEvidence.trs l = l.map GEvidence.tr := by induction l <;> simp_all [GEvidence.trs]
theorem GEvidence.trs_len (l : List GEvidence) : (GEvidence.trs l).length = l.length := by rw [GEvidence.trs_map, List.length_map]
def GEvidence.gKind : GEvidence → Int
  | .mk v _ _ _ => v
@[simp] theorem GEvidence.gKind_mk (v0 : Int) (v1 : Int) (v2 : GInstanceRef) (v3 : List GEvidence) : GEvidence.gKind (.mk v0 v1 v2 v3) = v0 := rfl
def GEvidence.gN : GEvidence → Int
  | .mk _ v _ _ => v
@[simp] theorem GEvidence.gN_mk (v0 : Int) (v1 : Int) (v2 : GInstanceRef) (v3 : List GEvidence) : GEvidence.gN (.mk v0 v1 v2 v3) = v1 := rfl
def GEvidence.gAt : GEvidence → GInstanceRef
  | .mk _ _ v _ => v
@[simp] theorem GEvidence.gAt_mk (v0 : Int) (v1 : Int) (v2 : GInstanceRef) (v3 : List GEvidence) : GEvidence.gAt (.mk v0 v1 v2 v3) = v2 := rfl
def GEvidence.gArgs : GEvidence → List GEvidence
  | .mk _ _ _ v => v
@[simp] theorem GEvidence.gArgs_mk (v0 : Int) (v1 : Int) (v2 : GInstanceRef) (v3 : List GEvidence) : GEvidence.gArgs (.mk v0 v1 v2 v3) = v3 := rfl
theorem GEvidence.tr_len (x : GEvidence) : x.tr.length = 5 := by
  obtain ⟨v0, v1, v2, v3⟩ := x
  simp [GEvidence.tr, GInstanceRef.tr_len]
theorem GEvidence.opened {w : World} {cs : List Value} {v0 : Int} {v1 : Int} {v2 : GInstanceRef} {v3 : List GEvidence} (h : RepL w (GEvidence.tr (.mk v0 v1 v2 v3)) cs) :
    ∃ (x2 : List Value) (a3 : Option Addr) (c3 : Nat), cs = [.int .i64 v0] ++ ([.int .i64 v1] ++ (x2 ++ ([.slice a3 v3.length c3] ++ ([])))) ∧ LeafOk (.int .i64 v0) ∧ LeafOk (.int .i64 v1) ∧ RepL w (GInstanceRef.tr v2) x2 ∧ Rep w (.row 5 (GEvidence.trs v3)) (.slice a3 v3.length c3) := by
  obtain ⟨b0, r0, rfl, g0, n0⟩ := RepL.split h
  obtain ⟨y0, rfl⟩ := list1 g0.length.symm
  obtain ⟨rfl, k0⟩ := g0.1.leaf_eq
  obtain ⟨b1, r1, rfl, g1, n1⟩ := RepL.split n0
  obtain ⟨y1, rfl⟩ := list1 g1.length.symm
  obtain ⟨rfl, k1⟩ := g1.1.leaf_eq
  obtain ⟨b2, r2, rfl, g2, n2⟩ := RepL.split n1
  obtain ⟨b3, r3, rfl, g3, n3⟩ := RepL.split n2
  obtain ⟨y3, rfl⟩ := list1 g3.length.symm
  obtain ⟨a3, c3, e3, -, -⟩ := g3.1.shape
  rw [GEvidence.trs_len] at e3
  subst e3
  obtain rfl := RepL.nil_eq n3
  exact ⟨b2, a3, c3, rfl, k0, k1, g2, g3.1⟩

theorem GEvidence.sz (l : List GEvidence) : ∀ e ∈ GEvidence.trs l, e.length = 5 := by
  intro e he
  rw [GEvidence.trs_map] at he
  obtain ⟨x, -, rfl⟩ := List.mem_map.1 he
  exact GEvidence.tr_len x
theorem GEvidence.all {l : List GEvidence} {Q : List Tr → Prop} (h : ∀ x ∈ l, Q x.tr) : ∀ e ∈ GEvidence.trs l, Q e := by
  intro e he
  rw [GEvidence.trs_map] at he
  obtain ⟨x, hx, rfl⟩ := List.mem_map.1 he
  exact h x hx
theorem GEvidence.trs_get {l : List GEvidence} {k : Nat} (h : k < l.length) : (GEvidence.trs l)[k]? = some (l[k]).tr := by
  rw [GEvidence.trs_map, List.getElem?_map, List.getElem?_eq_getElem h]; rfl
theorem GEvidence.ind {A : GEvidence → Prop} (h : ∀ v0 v1 v2 v3, (∀ x ∈ v3, A x) → A (.mk v0 v1 v2 v3)) : ∀ e, A e := by
  have key : ∀ (N : Nat) (e : GEvidence), SizeOf.sizeOf e < N → A e := by
    intro N
    induction N with
    | zero => intro e he; omega
    | succ N ih =>
      intro e he
      obtain ⟨v0, v1, v2, v3⟩ := e
      refine h v0 v1 v2 v3 fun x hx => ih x ?_
      have := List.sizeOf_lt_of_mem hx
      simp at he
      omega
  exact fun e => key _ e (Nat.lt_succ_self _)

inductive GAssumption where
  | mk (goal_ : GBound) (from_ : Int) (steps_ : List Int)
def GAssumption.tr : GAssumption → List Tr
  | .mk v0 v1 v2 => GBound.tr v0 ++ ([.leaf (.int .i64 v1)] ++ ([.row 1 (intTrs v2)] ++ ([])))
def GAssumption.trs (l : List GAssumption) : List (List Tr) := l.map GAssumption.tr
theorem GAssumption.trs_map (l : List GAssumption) : GAssumption.trs l = l.map GAssumption.tr := rfl
theorem GAssumption.trs_len (l : List GAssumption) : (GAssumption.trs l).length = l.length := by rw [GAssumption.trs_map, List.length_map]
def GAssumption.gGoal : GAssumption → GBound
  | .mk v _ _ => v
@[simp] theorem GAssumption.gGoal_mk (v0 : GBound) (v1 : Int) (v2 : List Int) : GAssumption.gGoal (.mk v0 v1 v2) = v0 := rfl
def GAssumption.gFrom : GAssumption → Int
  | .mk _ v _ => v
@[simp] theorem GAssumption.gFrom_mk (v0 : GBound) (v1 : Int) (v2 : List Int) : GAssumption.gFrom (.mk v0 v1 v2) = v1 := rfl
def GAssumption.gSteps : GAssumption → List Int
  | .mk _ _ v => v
@[simp] theorem GAssumption.gSteps_mk (v0 : GBound) (v1 : Int) (v2 : List Int) : GAssumption.gSteps (.mk v0 v1 v2) = v2 := rfl
theorem GAssumption.tr_len (x : GAssumption) : x.tr.length = 6 := by
  obtain ⟨v0, v1, v2⟩ := x
  simp [GAssumption.tr, GBound.tr_len]
theorem GAssumption.opened {w : World} {cs : List Value} {v0 : GBound} {v1 : Int} {v2 : List Int} (h : RepL w (GAssumption.tr (.mk v0 v1 v2)) cs) :
    ∃ (x0 : List Value) (a2 : Option Addr) (c2 : Nat), cs = x0 ++ ([.int .i64 v1] ++ ([.slice a2 v2.length c2] ++ ([]))) ∧ RepL w (GBound.tr v0) x0 ∧ LeafOk (.int .i64 v1) ∧ Rep w (.row 1 (intTrs v2)) (.slice a2 v2.length c2) := by
  obtain ⟨b0, r0, rfl, g0, n0⟩ := RepL.split h
  obtain ⟨b1, r1, rfl, g1, n1⟩ := RepL.split n0
  obtain ⟨y1, rfl⟩ := list1 g1.length.symm
  obtain ⟨rfl, k1⟩ := g1.1.leaf_eq
  obtain ⟨b2, r2, rfl, g2, n2⟩ := RepL.split n1
  obtain ⟨y2, rfl⟩ := list1 g2.length.symm
  obtain ⟨a2, c2, e2, -, -⟩ := g2.1.shape
  rw [intTrs_len] at e2
  subst e2
  obtain rfl := RepL.nil_eq n2
  exact ⟨b0, a2, c2, rfl, g0, k1, g2.1⟩

theorem GAssumption.sz (l : List GAssumption) : ∀ e ∈ GAssumption.trs l, e.length = 6 := by
  intro e he
  rw [GAssumption.trs_map] at he
  obtain ⟨x, -, rfl⟩ := List.mem_map.1 he
  exact GAssumption.tr_len x
theorem GAssumption.all {l : List GAssumption} {Q : List Tr → Prop} (h : ∀ x ∈ l, Q x.tr) : ∀ e ∈ GAssumption.trs l, Q e := by
  intro e he
  rw [GAssumption.trs_map] at he
  obtain ⟨x, hx, rfl⟩ := List.mem_map.1 he
  exact h x hx
theorem GAssumption.trs_get {l : List GAssumption} {k : Nat} (h : k < l.length) : (GAssumption.trs l)[k]? = some (l[k]).tr := by
  rw [GAssumption.trs_map, List.getElem?_map, List.getElem?_eq_getElem h]; rfl
inductive GCache where
  | mk (goals_ : List GBound) (codes_ : List Int) (evidence_ : List GEvidence)
def GCache.tr : GCache → List Tr
  | .mk v0 v1 v2 => [.row 4 (GBound.trs v0)] ++ ([.row 1 (intTrs v1)] ++ ([.row 5 (GEvidence.trs v2)] ++ ([])))
def GCache.trs (l : List GCache) : List (List Tr) := l.map GCache.tr
theorem GCache.trs_map (l : List GCache) : GCache.trs l = l.map GCache.tr := rfl
theorem GCache.trs_len (l : List GCache) : (GCache.trs l).length = l.length := by rw [GCache.trs_map, List.length_map]
def GCache.gGoals : GCache → List GBound
  | .mk v _ _ => v
@[simp] theorem GCache.gGoals_mk (v0 : List GBound) (v1 : List Int) (v2 : List GEvidence) : GCache.gGoals (.mk v0 v1 v2) = v0 := rfl
def GCache.gCodes : GCache → List Int
  | .mk _ v _ => v
@[simp] theorem GCache.gCodes_mk (v0 : List GBound) (v1 : List Int) (v2 : List GEvidence) : GCache.gCodes (.mk v0 v1 v2) = v1 := rfl
def GCache.gEvidence : GCache → List GEvidence
  | .mk _ _ v => v
@[simp] theorem GCache.gEvidence_mk (v0 : List GBound) (v1 : List Int) (v2 : List GEvidence) : GCache.gEvidence (.mk v0 v1 v2) = v2 := rfl
theorem GCache.tr_len (x : GCache) : x.tr.length = 3 := by
  obtain ⟨v0, v1, v2⟩ := x
  simp [GCache.tr]
theorem GCache.opened {w : World} {cs : List Value} {v0 : List GBound} {v1 : List Int} {v2 : List GEvidence} (h : RepL w (GCache.tr (.mk v0 v1 v2)) cs) :
    ∃ (a0 : Option Addr) (c0 : Nat) (a1 : Option Addr) (c1 : Nat) (a2 : Option Addr) (c2 : Nat), cs = [.slice a0 v0.length c0] ++ ([.slice a1 v1.length c1] ++ ([.slice a2 v2.length c2] ++ ([]))) ∧ Rep w (.row 4 (GBound.trs v0)) (.slice a0 v0.length c0) ∧ Rep w (.row 1 (intTrs v1)) (.slice a1 v1.length c1) ∧ Rep w (.row 5 (GEvidence.trs v2)) (.slice a2 v2.length c2) := by
  obtain ⟨b0, r0, rfl, g0, n0⟩ := RepL.split h
  obtain ⟨y0, rfl⟩ := list1 g0.length.symm
  obtain ⟨a0, c0, e0, -, -⟩ := g0.1.shape
  rw [GBound.trs_len] at e0
  subst e0
  obtain ⟨b1, r1, rfl, g1, n1⟩ := RepL.split n0
  obtain ⟨y1, rfl⟩ := list1 g1.length.symm
  obtain ⟨a1, c1, e1, -, -⟩ := g1.1.shape
  rw [intTrs_len] at e1
  subst e1
  obtain ⟨b2, r2, rfl, g2, n2⟩ := RepL.split n1
  obtain ⟨y2, rfl⟩ := list1 g2.length.symm
  obtain ⟨a2, c2, e2, -, -⟩ := g2.1.shape
  rw [GEvidence.trs_len] at e2
  subst e2
  obtain rfl := RepL.nil_eq n2
  exact ⟨a0, c0, a1, c1, a2, c2, rfl, g0.1, g1.1, g2.1⟩

theorem GCache.sz (l : List GCache) : ∀ e ∈ GCache.trs l, e.length = 3 := by
  intro e he
  rw [GCache.trs_map] at he
  obtain ⟨x, -, rfl⟩ := List.mem_map.1 he
  exact GCache.tr_len x
theorem GCache.all {l : List GCache} {Q : List Tr → Prop} (h : ∀ x ∈ l, Q x.tr) : ∀ e ∈ GCache.trs l, Q e := by
  intro e he
  rw [GCache.trs_map] at he
  obtain ⟨x, hx, rfl⟩ := List.mem_map.1 he
  exact h x hx
theorem GCache.trs_get {l : List GCache} {k : Nat} (h : k < l.length) : (GCache.trs l)[k]? = some (l[k]).tr := by
  rw [GCache.trs_map, List.getElem?_map, List.getElem?_eq_getElem h]; rfl
end Go.Proofs.YtnakkelglbcecaaGreat
