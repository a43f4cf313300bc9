/-
  DERIVED. GIVEN WITH THE SEED: THE CARDS: each row of YtjfibfbknfeflaaDoorRows.lean that lists a variable, with what it lists TIED to the program's text (the seventh form; the later family's looks); each row that meets fmt, with fmt's text TOLD by the authors' own Lean function (tested against real Go, not proved from fmt's source: count such statements apart). THE CARD IS WHAT COUNTS. Prove the row's statement (the work); the ties are given (YtjfibfbknfeflaaDoorTie.lean); close each card by the builder's one call (the guide's Derived/Test/ToyasCard.lean, 'card_holds'). Laid BY PROGRAM, IN A SANDBOX (cutbox-door.mjs). By AI agents, Wed Nov 11 2026. No macro, syntax, notation, axiom, sorry.
-/
import Derived.Test.YtjfibfbknfeflaaDoorRows
import GoSem.ClaimSeven
namespace Go.Proofs.YtjfibfbknfeflaaDoor
namespace Rows

/-- THE TIED CARD OF 'bulkheadlaw06.ShelfTexts'. -/
def shelfTextsCard : Claim7 := { stood := { row := shelfTextsRow, standIns := [], harness := (true, "c60d343adb0ef42b4b3babbfdbc0b5ca42a3555397cf4381bdec972e69dfa88b"), looks := false }, kinds := [], alts := [], laidByText := true, laidKinds := [.data, .data, .data], laidTests := true, laidLooks := .later }
def ShelfTextsCardSaid : Prop := Claim7.holds Tryd.pinned (.plain (OpenSpec.ofChange shelfTextsSpec)) shelfTextsCard

/-- THE TIED CARD OF 'bulkheadlaw06.ShelfPlays'. -/
def shelfPlaysCard : Claim7 := { stood := { row := shelfPlaysRow, standIns := [], harness := (true, "c60d343adb0ef42b4b3babbfdbc0b5ca42a3555397cf4381bdec972e69dfa88b"), looks := false }, kinds := [], alts := [], laidByText := true, laidKinds := [.data, .data, .data], laidTests := true, laidLooks := .later }
def ShelfPlaysCardSaid : Prop := Claim7.holds Tryd.pinned (.plain (OpenSpec.ofChange shelfPlaysSpec)) shelfPlaysCard

/-- THE SECOND FORM's CARD OF 'bulkheadlaw06.ShelfTexts'. -/
def shelfTextsUptoCard : Claim7 := { stood := { row := shelfTextsUptoRow, standIns := [], harness := (true, "c60d343adb0ef42b4b3babbfdbc0b5ca42a3555397cf4381bdec972e69dfa88b"), looks := false }, kinds := [], alts := [], laidByText := true, laidKinds := [.data, .data, .data], laidTests := true, laidLooks := .later }
def ShelfTextsUptoCardSaid : Prop := Claim7.holds Tryd.pinned (.plain (OpenSpec.upto shelfTextsSpec)) shelfTextsUptoCard

/-- THE SECOND FORM's CARD OF 'bulkheadlaw06.ShelfPlays'. -/
def shelfPlaysUptoCard : Claim7 := { stood := { row := shelfPlaysUptoRow, standIns := [], harness := (true, "c60d343adb0ef42b4b3babbfdbc0b5ca42a3555397cf4381bdec972e69dfa88b"), looks := false }, kinds := [], alts := [], laidByText := true, laidKinds := [.data, .data, .data], laidTests := true, laidLooks := .later }
def ShelfPlaysUptoCardSaid : Prop := Claim7.holds Tryd.pinned (.plain (OpenSpec.upto shelfPlaysSpec)) shelfPlaysUptoCard
end Rows
end Go.Proofs.YtjfibfbknfeflaaDoor
