/-
  DERIVED. GIVEN WITH THE SEED: THE CARDS: each row of YtbajbmfheomkoaaDoorRows.lean that lists a variable, with what it lists TIED to the program's text (the seventh form; the later family's looks); each row that meets fmt, with fmt's text TOLD by the authors' own Lean function (tested against real Go, not proved from fmt's source: count such statements apart). THE CARD IS WHAT COUNTS. Prove the row's statement (the work); the ties are given (YtbajbmfheomkoaaDoorTie.lean); close each card by the builder's one call (the guide's Derived/Test/ToyasCard.lean, 'card_holds'). Laid BY PROGRAM, IN A SANDBOX (cutbox-door.mjs). By AI agents, Wed Nov 11 2026. No macro, syntax, notation, axiom, sorry.
-/
import Derived.Test.YtbajbmfheomkoaaDoorRows
import GoSem.ClaimSeven
namespace Go.Proofs.YtbajbmfheomkoaaDoor
namespace Rows

/-- THE TIED CARD OF 'bulkheadtop.Names'. -/
def namesCard : Claim7 := { stood := { row := namesRow, standIns := [], harness := (true, "a729cdc356131a4eb592b835a99b31e25b32069c6a721d7c165abf5d511f0931"), looks := false }, kinds := [], alts := [], laidByText := true, laidKinds := [.data, .data, .data], laidTests := true, laidLooks := .later }
def NamesCardSaid : Prop := Claim7.holds Tryd.pinned (.plain (OpenSpec.ofChange namesSpec)) namesCard

/-- THE SECOND FORM's CARD OF 'bulkheadtop.Names'. -/
def namesUptoCard : Claim7 := { stood := { row := namesUptoRow, standIns := [], harness := (true, "a729cdc356131a4eb592b835a99b31e25b32069c6a721d7c165abf5d511f0931"), looks := false }, kinds := [], alts := [], laidByText := true, laidKinds := [.data, .data, .data], laidTests := true, laidLooks := .later }
def NamesUptoCardSaid : Prop := Claim7.holds Tryd.pinned (.plain (OpenSpec.upto namesSpec)) namesUptoCard
end Rows
end Go.Proofs.YtbajbmfheomkoaaDoor
