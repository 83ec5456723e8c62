/- SupertraitsAcyclic in plain contracts. No conditions. -/
import Derived.Test.YtnakkelglbcecaaPmZ
import Derived.Test.YtnakkelglbcecaaPmAcyc
namespace Go.Proofs.Ytnakkelglbcecaa
open Go.RowKit

theorem traits_sup_bulk : ∀ l : List GTrait, (l.flatMap (fun t => t.gSupertraits)).length ≤ Tr.bulkAll (GTrait.trs l)
  | [] => by simp
  | x :: l => by
    have h1 := traits_sup_bulk l
    have h2 : x.gSupertraits.length ≤ Tr.bulkL x.tr := by
      rw [GTrait.tr_cs]
      simp only [GTrait.cs, Tr.bulkL, Tr.bulk, strTrs_len]
      omega
    rw [GTrait.trs_map] at h1
    rw [List.flatMap_cons, List.length_append, GTrait.trs_map, List.map_cons, Tr.bulkAll]
    omega
theorem packages_sup_bulk : ∀ l : List GPackage, ((l.flatMap (fun p => p.gTraits)).flatMap (fun t => t.gSupertraits)).length ≤ Tr.bulkAll (GPackage.trs l)
  | [] => by simp
  | x :: l => by
    have h1 := packages_sup_bulk l
    have h3 := traits_sup_bulk x.gTraits
    have h2 : Tr.bulkAll (GTrait.trs x.gTraits) ≤ Tr.bulkL x.tr := by
      rw [GPackage.tr_cs]
      simp only [GPackage.cs, Tr.bulkL, Tr.bulk]
      omega
    rw [GPackage.trs_map] at h1
    rw [List.flatMap_cons, List.flatMap_append, List.length_append, GPackage.trs_map, List.map_cons, Tr.bulkAll]
    omega
theorem GProgram.allSup_bulk (w : GProgram) : w.allSup.length ≤ Tr.bulkL w.tr := by
  have := packages_sup_bulk w.gPackages
  rw [GProgram.tr_cs]
  simp only [GProgram.cs, Tr.bulkL, Tr.bulk, GProgram.allSup]
  omega
theorem acyclicPlain_impl (x0 : GProgram) (w : World) (c0 : List Value) (h0 : RepL w x0.tr c0) (hb : x0.allSup.length ≤ 1099511627776) : Calls Try.prog 14 #[.agg ⟨c0⟩] w fun e w' => e = .returned (.bool (GProgram.acyclic x0)) ∧ Ext w w' := by
  rw [GProgram.tr_cs] at h0
  exact AFun.plain (acyclic_impl x0 hb) ⟨RV0.agg h0, trivial⟩
theorem acyclicPlain_spec (x0 : GProgram) (w : World) (c0 : List Value) (h0 : RepL w x0.tr c0) (hb : x0.allSup.length ≤ 1099511627776) : Calls Try.prog 13 #[.agg ⟨c0⟩] w fun e w' => e = .returned (.bool (GProgram.acyclic x0)) ∧ Ext w w' := by
  rw [GProgram.tr_cs] at h0
  exact AFun.plain (acyclic_spec x0 hb) ⟨RV0.agg h0, trivial⟩

end Go.Proofs.Ytnakkelglbcecaa
