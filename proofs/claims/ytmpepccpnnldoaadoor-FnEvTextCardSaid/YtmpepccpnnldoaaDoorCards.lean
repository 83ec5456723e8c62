/-
  DERIVED. GIVEN WITH THE SEED: THE CARDS: each row of YtmpepccpnnldoaaDoorRows.lean that lists a variable, with what it lists TIED to the program's text (the seventh form; the later family's looks); each row that meets fmt, with fmt's text TOLD by the authors' own Lean function (tested against real Go, not proved from fmt's source: count such statements apart). THE CARD IS WHAT COUNTS. Prove the row's statement (the work); the ties are given (YtmpepccpnnldoaaDoorTie.lean); close each card by the builder's one call (the guide's Derived/Test/ToyasCard.lean, 'card_holds'). Laid BY PROGRAM, IN A SANDBOX (cutbox-door.mjs). By AI agents, Wed Nov 11 2026. No macro, syntax, notation, axiom, sorry.
-/
import Derived.Test.YtmpepccpnnldoaaDoorRows
import GoSem.ClaimSeven
namespace Go.Proofs.YtmpepccpnnldoaaDoor
namespace Rows

/-- THE TIED CARD OF 'laws.FnExactFormatEvidence'. -/
def fnExactFormatEvidenceCard : Claim7 := { stood := { row := fnExactFormatEvidenceRow, standIns := [], harness := (true, "d44a50fbff372214bf785c512a1a7449039d899229f49766d91e7ea635b31944"), looks := false }, kinds := [], alts := [], laidByText := true, laidKinds := [.data, .data, .data], laidTests := true, laidLooks := .later }
def FnExactFormatEvidenceCardSaid : Prop := Claim7.holds Tryd.pinned (.plain (OpenSpec.ofChange fnExactFormatEvidenceSpec)) fnExactFormatEvidenceCard

/-- THE TIED CARD OF 'laws.FnEvText'. -/
def fnEvTextCard : Claim7 := { stood := { row := fnEvTextRow, standIns := [], harness := (true, "d44a50fbff372214bf785c512a1a7449039d899229f49766d91e7ea635b31944"), looks := false }, kinds := [], alts := [], laidByText := true, laidKinds := [.data, .data, .data], laidTests := true, laidLooks := .later }
def FnEvTextCardSaid : Prop := Claim7.holds Tryd.pinned (.plain (OpenSpec.ofChange fnEvTextSpec)) fnEvTextCard

/-- THE SECOND FORM's CARD OF 'laws.FnExactFormatEvidence'. -/
def fnExactFormatEvidenceUptoCard : Claim7 := { stood := { row := fnExactFormatEvidenceUptoRow, standIns := [], harness := (true, "d44a50fbff372214bf785c512a1a7449039d899229f49766d91e7ea635b31944"), looks := false }, kinds := [], alts := [], laidByText := true, laidKinds := [.data, .data, .data], laidTests := true, laidLooks := .later }
def FnExactFormatEvidenceUptoCardSaid : Prop := Claim7.holds Tryd.pinned (.plain (OpenSpec.upto fnExactFormatEvidenceSpec)) fnExactFormatEvidenceUptoCard

/-- THE SECOND FORM's CARD OF 'laws.FnEvText'. -/
def fnEvTextUptoCard : Claim7 := { stood := { row := fnEvTextUptoRow, standIns := [], harness := (true, "d44a50fbff372214bf785c512a1a7449039d899229f49766d91e7ea635b31944"), looks := false }, kinds := [], alts := [], laidByText := true, laidKinds := [.data, .data, .data], laidTests := true, laidLooks := .later }
def FnEvTextUptoCardSaid : Prop := Claim7.holds Tryd.pinned (.plain (OpenSpec.upto fnEvTextSpec)) fnEvTextUptoCard
end Rows
end Go.Proofs.YtmpepccpnnldoaaDoor
