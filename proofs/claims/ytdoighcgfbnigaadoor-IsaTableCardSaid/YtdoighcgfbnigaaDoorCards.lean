/-
  DERIVED. GIVEN WITH THE SEED: THE CARDS: each row of YtdoighcgfbnigaaDoorRows.lean that lists a variable, with what it lists TIED to the program's text (the seventh form; the later family's looks); each row that meets fmt, with fmt's text TOLD by the authors' own Lean function (tested against real Go, not proved from fmt's source: count such statements apart). THE CARD IS WHAT COUNTS. Prove the row's statement (the work); the ties are given (YtdoighcgfbnigaaDoorTie.lean); close each card by the builder's one call (the guide's Derived/Test/ToyasCard.lean, 'card_holds'). Laid BY PROGRAM, IN A SANDBOX (cutbox-door.mjs). By AI agents, Wed Nov 11 2026. No macro, syntax, notation, axiom, sorry.
-/
import Derived.Test.YtdoighcgfbnigaaDoorRows
import GoSem.ClaimSeven
namespace Go.Proofs.YtdoighcgfbnigaaDoor
namespace Rows

/-- THE TIED CARD OF 'bulkheadlaw02.IsaWrites'. -/
def isaWritesCard : Claim7 := { stood := { row := isaWritesRow, standIns := [], harness := (true, "394fed2f0e75029c74fe1e799918f2acd88680b3558079aab78dd9effb63caba"), looks := false }, kinds := [], alts := [], laidByText := true, laidKinds := [.data], laidTests := true, laidLooks := .later }
def IsaWritesCardSaid : Prop := Claim7.holds Tryd.pinned (.plain (OpenSpec.ofChange isaWritesSpec)) isaWritesCard

/-- THE TIED CARD OF 'bulkheadlaw02.IsaReads'. -/
def isaReadsCard : Claim7 := { stood := { row := isaReadsRow, standIns := [], harness := (true, "394fed2f0e75029c74fe1e799918f2acd88680b3558079aab78dd9effb63caba"), looks := false }, kinds := [], alts := [], laidByText := true, laidKinds := [.data], laidTests := true, laidLooks := .later }
def IsaReadsCardSaid : Prop := Claim7.holds Tryd.pinned (.plain (OpenSpec.ofChange isaReadsSpec)) isaReadsCard

/-- THE TIED CARD OF 'bulkheadlaw02.IsaBack'. -/
def isaBackCard : Claim7 := { stood := { row := isaBackRow, standIns := [], harness := (true, "394fed2f0e75029c74fe1e799918f2acd88680b3558079aab78dd9effb63caba"), looks := false }, kinds := [], alts := [], laidByText := true, laidKinds := [.data], laidTests := true, laidLooks := .later }
def IsaBackCardSaid : Prop := Claim7.holds Tryd.pinned (.plain (OpenSpec.ofChange isaBackSpec)) isaBackCard

/-- THE TIED CARD OF 'bulkheadlaw02.IsaWidth'. -/
def isaWidthCard : Claim7 := { stood := { row := isaWidthRow, standIns := [], harness := (true, "394fed2f0e75029c74fe1e799918f2acd88680b3558079aab78dd9effb63caba"), looks := false }, kinds := [], alts := [], laidByText := true, laidKinds := [.data], laidTests := true, laidLooks := .later }
def IsaWidthCardSaid : Prop := Claim7.holds Tryd.pinned (.plain (OpenSpec.ofChange isaWidthSpec)) isaWidthCard

/-- THE TIED CARD OF 'bulkheadlaw02.IsaApart'. -/
def isaApartCard : Claim7 := { stood := { row := isaApartRow, standIns := [], harness := (true, "394fed2f0e75029c74fe1e799918f2acd88680b3558079aab78dd9effb63caba"), looks := false }, kinds := [], alts := [], laidByText := true, laidKinds := [.data], laidTests := true, laidLooks := .later }
def IsaApartCardSaid : Prop := Claim7.holds Tryd.pinned (.plain (OpenSpec.ofChange isaApartSpec)) isaApartCard

/-- THE TIED CARD OF 'bulkheadlaw02.IsaFinds'. -/
def isaFindsCard : Claim7 := { stood := { row := isaFindsRow, standIns := [], harness := (true, "394fed2f0e75029c74fe1e799918f2acd88680b3558079aab78dd9effb63caba"), looks := false }, kinds := [], alts := [], laidByText := true, laidKinds := [.data], laidTests := true, laidLooks := .later }
def IsaFindsCardSaid : Prop := Claim7.holds Tryd.pinned (.plain (OpenSpec.ofChange isaFindsSpec)) isaFindsCard

/-- THE TIED CARD OF 'bulkheadlaw02.IsaTable'. -/
def isaTableCard : Claim7 := { stood := { row := isaTableRow, standIns := [], harness := (true, "394fed2f0e75029c74fe1e799918f2acd88680b3558079aab78dd9effb63caba"), looks := false }, kinds := [], alts := [], laidByText := true, laidKinds := [.data], laidTests := true, laidLooks := .later }
def IsaTableCardSaid : Prop := Claim7.holds Tryd.pinned (.plain (OpenSpec.ofChange isaTableSpec)) isaTableCard

/-- THE SECOND FORM's CARD OF 'bulkheadlaw02.IsaWrites'. -/
def isaWritesUptoCard : Claim7 := { stood := { row := isaWritesUptoRow, standIns := [], harness := (true, "394fed2f0e75029c74fe1e799918f2acd88680b3558079aab78dd9effb63caba"), looks := false }, kinds := [], alts := [], laidByText := true, laidKinds := [.data], laidTests := true, laidLooks := .later }
def IsaWritesUptoCardSaid : Prop := Claim7.holds Tryd.pinned (.plain (OpenSpec.upto isaWritesSpec)) isaWritesUptoCard

/-- THE SECOND FORM's CARD OF 'bulkheadlaw02.IsaReads'. -/
def isaReadsUptoCard : Claim7 := { stood := { row := isaReadsUptoRow, standIns := [], harness := (true, "394fed2f0e75029c74fe1e799918f2acd88680b3558079aab78dd9effb63caba"), looks := false }, kinds := [], alts := [], laidByText := true, laidKinds := [.data], laidTests := true, laidLooks := .later }
def IsaReadsUptoCardSaid : Prop := Claim7.holds Tryd.pinned (.plain (OpenSpec.upto isaReadsSpec)) isaReadsUptoCard

/-- THE SECOND FORM's CARD OF 'bulkheadlaw02.IsaBack'. -/
def isaBackUptoCard : Claim7 := { stood := { row := isaBackUptoRow, standIns := [], harness := (true, "394fed2f0e75029c74fe1e799918f2acd88680b3558079aab78dd9effb63caba"), looks := false }, kinds := [], alts := [], laidByText := true, laidKinds := [.data], laidTests := true, laidLooks := .later }
def IsaBackUptoCardSaid : Prop := Claim7.holds Tryd.pinned (.plain (OpenSpec.upto isaBackSpec)) isaBackUptoCard

/-- THE SECOND FORM's CARD OF 'bulkheadlaw02.IsaWidth'. -/
def isaWidthUptoCard : Claim7 := { stood := { row := isaWidthUptoRow, standIns := [], harness := (true, "394fed2f0e75029c74fe1e799918f2acd88680b3558079aab78dd9effb63caba"), looks := false }, kinds := [], alts := [], laidByText := true, laidKinds := [.data], laidTests := true, laidLooks := .later }
def IsaWidthUptoCardSaid : Prop := Claim7.holds Tryd.pinned (.plain (OpenSpec.upto isaWidthSpec)) isaWidthUptoCard

/-- THE SECOND FORM's CARD OF 'bulkheadlaw02.IsaApart'. -/
def isaApartUptoCard : Claim7 := { stood := { row := isaApartUptoRow, standIns := [], harness := (true, "394fed2f0e75029c74fe1e799918f2acd88680b3558079aab78dd9effb63caba"), looks := false }, kinds := [], alts := [], laidByText := true, laidKinds := [.data], laidTests := true, laidLooks := .later }
def IsaApartUptoCardSaid : Prop := Claim7.holds Tryd.pinned (.plain (OpenSpec.upto isaApartSpec)) isaApartUptoCard

/-- THE SECOND FORM's CARD OF 'bulkheadlaw02.IsaFinds'. -/
def isaFindsUptoCard : Claim7 := { stood := { row := isaFindsUptoRow, standIns := [], harness := (true, "394fed2f0e75029c74fe1e799918f2acd88680b3558079aab78dd9effb63caba"), looks := false }, kinds := [], alts := [], laidByText := true, laidKinds := [.data], laidTests := true, laidLooks := .later }
def IsaFindsUptoCardSaid : Prop := Claim7.holds Tryd.pinned (.plain (OpenSpec.upto isaFindsSpec)) isaFindsUptoCard

/-- THE SECOND FORM's CARD OF 'bulkheadlaw02.IsaTable'. -/
def isaTableUptoCard : Claim7 := { stood := { row := isaTableUptoRow, standIns := [], harness := (true, "394fed2f0e75029c74fe1e799918f2acd88680b3558079aab78dd9effb63caba"), looks := false }, kinds := [], alts := [], laidByText := true, laidKinds := [.data], laidTests := true, laidLooks := .later }
def IsaTableUptoCardSaid : Prop := Claim7.holds Tryd.pinned (.plain (OpenSpec.upto isaTableSpec)) isaTableUptoCard
end Rows
end Go.Proofs.YtdoighcgfbnigaaDoor
