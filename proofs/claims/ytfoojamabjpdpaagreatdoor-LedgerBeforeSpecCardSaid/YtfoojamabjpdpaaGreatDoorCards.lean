/-
  DERIVED. GIVEN WITH THE SEED: THE CARDS: each row of YtfoojamabjpdpaaGreatDoorRows.lean that lists a variable, with what it lists TIED to the program's text (the seventh form; the later family's looks); each row that meets fmt, with fmt's text TOLD by the authors' own Lean function (tested against real Go, not proved from fmt's source: count such statements apart). THE CARD IS WHAT COUNTS. Prove the row's statement (the work); the ties are given (YtfoojamabjpdpaaGreatDoorTie.lean); close each card by the builder's one call (the guide's Derived/Test/ToyasCard.lean, 'card_holds'). Laid BY PROGRAM, IN A SANDBOX (cutbox-door.mjs). By AI agents, Wed Nov 11 2026. No macro, syntax, notation, axiom, sorry.
-/
import Derived.Test.YtfoojamabjpdpaaGreatDoorRows
import GoSem.ClaimSeven
namespace Go.Proofs.YtfoojamabjpdpaaGreatDoor
namespace Rows

/-- THE TIED CARD OF 'veilstonelaw38.LedgerBeforeSpec'. -/
def ledgerBeforeSpecCard : Claim7 := { stood := { row := ledgerBeforeSpecRow, standIns := [], harness := (true, "adfedf73dc16f5cc492fa205f4a4f53f9bd148052f923948fba3cbf7c114f339"), looks := true }, kinds := [], alts := [], laidByText := true, laidKinds := [.data, .data, .data, .data, .data, .data], laidTests := true, laidLooks := .later }
def LedgerBeforeSpecCardSaid : Prop := Claim7.holds Tryz.pinned (.plain (OpenSpec.ofChange ledgerBeforeSpecSpec)) ledgerBeforeSpecCard

/-- THE SECOND FORM's CARD OF 'veilstonelaw38.LedgerBeforeSpec'. -/
def ledgerBeforeSpecUptoCard : Claim7 := { stood := { row := ledgerBeforeSpecUptoRow, standIns := [], harness := (true, "adfedf73dc16f5cc492fa205f4a4f53f9bd148052f923948fba3cbf7c114f339"), looks := true }, kinds := [], alts := [], laidByText := true, laidKinds := [.data, .data, .data, .data, .data, .data], laidTests := true, laidLooks := .later }
def LedgerBeforeSpecUptoCardSaid : Prop := Claim7.holds Tryz.pinned (.plain (OpenSpec.upto ledgerBeforeSpecSpec)) ledgerBeforeSpecUptoCard
end Rows
end Go.Proofs.YtfoojamabjpdpaaGreatDoor
