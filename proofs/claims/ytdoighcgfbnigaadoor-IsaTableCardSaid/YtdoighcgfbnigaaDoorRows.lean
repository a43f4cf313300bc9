/-
  NARROWER THAN 'FOR EVERY INPUT', by the rows' own cells (each row's printed sentence says how): IsaWrites: laid · IsaReads: laid · IsaBack: laid · IsaWidth: laid · IsaApart: laid · IsaFinds: laid · IsaTable: laid.
  DERIVED. THE GIVEN ROWS OF THIS SEAT. 7 by the template 'for every input the law returns true; each argument reads behind the call as it read before'; 0 by the template 'total and deterministic' (their statements: YtdoighcgfbnigaaDoorTotals.lean).
  GIVEN WITH THE SEED: the statements are not yours to turn. If you find one false, say at which input.
  Laid BY PROGRAM, IN A SANDBOX (cutbox-rows.mjs): the forced cells as the released guide's own fill.sh prints them over the translation 6b07cd4b8bedeed4… (all of the seat's roots in one cut). By AI agents, Wed Nov 11 2026. No macro, syntax, notation, axiom, sorry.
-/
import Derived.Test.YtdoighcgfbnigaaDoorChecked
import GoSem.Claim
import GoSem.ClaimJoined
import GoSem.ClaimMapViews
import Derived.JoinedTies
import Derived.KernelRfl
namespace Go.Proofs.YtdoighcgfbnigaaDoor
/- THE CELL 'sum', in the pinned program and in every row, IS THE sha256 OF THE DUMP (.gsa) THAT YtdoighcgfbnigaaDoorProg.lean LOADS. Nothing in Lean hashes anything: it is a label: what it is worth is what the hold of that sum in a sandbox is worth. -/
noncomputable def Tryd.pinned : Pinned := { name := "ytdoighcgfbnigaadoor", sum := "6b07cd4b8bedeed41dc1711fc257332774ddcb357d8d583797d2ffa70f346b78", checked := Tryd.checked }
namespace Rows
def none {H : Type} : Left H := { results := [], args := [] }

/- WHAT THE LISTED PACKAGE-LEVEL VARIABLES READ AS WHEN THE CALL BEGINS. Each datum BY PROGRAM (the guide's laid-datum.mjs) off the statement by which the dump's own 'gosem.cut.vars' lays the variable. In a bare row this is a premise. The card (YtdoighcgfbnigaaDoorCards.lean) ties it to the program's text. -/
def laid_bulkhead_isa_rows {H : Type} : DataW H := .agg [.agg [.lit (.string []), .lit (.int .i64 0), .lit (.int .i64 0)], .agg [.lit (.string [110, 111, 112]), .lit (.int .i64 1), .lit (.int .i64 1)], .agg [.lit (.string [109, 111, 118]), .lit (.int .i64 3), .lit (.int .i64 1)], .agg [.lit (.string [108, 105]), .lit (.int .i64 5), .lit (.int .i64 1)], .agg [.lit (.string [104, 105]), .lit (.int .i64 5), .lit (.int .i64 1)], .agg [.lit (.string [97, 100, 100]), .lit (.int .i64 4), .lit (.int .i64 1)], .agg [.lit (.string [115, 117, 98]), .lit (.int .i64 4), .lit (.int .i64 1)], .agg [.lit (.string [109, 117, 108]), .lit (.int .i64 4), .lit (.int .i64 3)], .agg [.lit (.string [100, 105, 118]), .lit (.int .i64 4), .lit (.int .i64 8)], .agg [.lit (.string [114, 101, 109]), .lit (.int .i64 4), .lit (.int .i64 8)], .agg [.lit (.string [97, 110, 100]), .lit (.int .i64 4), .lit (.int .i64 1)], .agg [.lit (.string [111, 114]), .lit (.int .i64 4), .lit (.int .i64 1)], .agg [.lit (.string [120, 111, 114]), .lit (.int .i64 4), .lit (.int .i64 1)], .agg [.lit (.string [115, 104, 108]), .lit (.int .i64 4), .lit (.int .i64 1)], .agg [.lit (.string [115, 104, 114]), .lit (.int .i64 4), .lit (.int .i64 1)], .agg [.lit (.string [115, 97, 114]), .lit (.int .i64 4), .lit (.int .i64 1)], .agg [.lit (.string [115, 108, 116]), .lit (.int .i64 4), .lit (.int .i64 1)], .agg [.lit (.string [115, 108, 116, 117]), .lit (.int .i64 4), .lit (.int .i64 1)], .agg [.lit (.string [97, 100, 100, 105]), .lit (.int .i64 6), .lit (.int .i64 1)], .agg [.lit (.string [108, 100]), .lit (.int .i64 6), .lit (.int .i64 1)], .agg [.lit (.string [115, 116]), .lit (.int .i64 6), .lit (.int .i64 1)], .agg [.lit (.string [98, 101, 113]), .lit (.int .i64 6), .lit (.int .i64 1)], .agg [.lit (.string [98, 110, 101]), .lit (.int .i64 6), .lit (.int .i64 1)], .agg [.lit (.string [98, 108, 116]), .lit (.int .i64 6), .lit (.int .i64 1)], .agg [.lit (.string [98, 103, 101]), .lit (.int .i64 6), .lit (.int .i64 1)], .agg [.lit (.string [98, 108, 116, 117]), .lit (.int .i64 6), .lit (.int .i64 1)], .agg [.lit (.string [106, 109, 112]), .lit (.int .i64 7), .lit (.int .i64 1)], .agg [.lit (.string [106, 97, 108]), .lit (.int .i64 5), .lit (.int .i64 1)], .agg [.lit (.string [106, 114]), .lit (.int .i64 2), .lit (.int .i64 1)], .agg [.lit (.string [99, 121, 99]), .lit (.int .i64 2), .lit (.int .i64 1)], .agg [.lit (.string [104, 121, 112]), .lit (.int .i64 7), .lit (.int .i64 24)]]

/-- 'bulkheadlaw02.IsaWrites': WHATEVER THE INPUT: true; the input reads as it did. -/
def isaWritesSpec : ChangeSpec := { name := "isaWrites", fn := fun _ => fun
  | [d] => { results := [.lit (.bool true)], args := [d] }
  | _ => none }
def isaWritesRow : OpenClaim := { program := "ytdoighcgfbnigaadoor", sum := "6b07cd4b8bedeed41dc1711fc257332774ddcb357d8d583797d2ffa70f346b78", func := "bulkhead/bulkheadlaw02.IsaWrites", spec := "isaWrites", unfollowed := true, recurses := true, named := ["bulkhead/isa.rows"], apart := false, laid := [("bulkhead/isa.rows", laid_bulkhead_isa_rows)] }
def IsaWritesSaid : Prop := isaWritesRow.holds Tryd.pinned (OpenSpec.ofChange isaWritesSpec)

/-- ITS FALSE NEIGHBOUR: 'it returns false'. Refute it at one input. -/
def isaWritesWrong : ChangeSpec := { name := "isaWrites", fn := fun _ => fun
  | [d] => { results := [.lit (.bool false)], args := [d] }
  | _ => none }
def IsaWritesWrongFalsely : Prop := isaWritesRow.holds Tryd.pinned (OpenSpec.ofChange isaWritesWrong)

/-- 'bulkheadlaw02.IsaReads': WHATEVER THE INPUT: true; the input reads as it did. -/
def isaReadsSpec : ChangeSpec := { name := "isaReads", fn := fun _ => fun
  | [d] => { results := [.lit (.bool true)], args := [d] }
  | _ => none }
def isaReadsRow : OpenClaim := { program := "ytdoighcgfbnigaadoor", sum := "6b07cd4b8bedeed41dc1711fc257332774ddcb357d8d583797d2ffa70f346b78", func := "bulkhead/bulkheadlaw02.IsaReads", spec := "isaReads", unfollowed := true, recurses := true, named := ["bulkhead/isa.rows"], apart := false, laid := [("bulkhead/isa.rows", laid_bulkhead_isa_rows)] }
def IsaReadsSaid : Prop := isaReadsRow.holds Tryd.pinned (OpenSpec.ofChange isaReadsSpec)

/-- ITS FALSE NEIGHBOUR: 'it returns false'. Refute it at one input. -/
def isaReadsWrong : ChangeSpec := { name := "isaReads", fn := fun _ => fun
  | [d] => { results := [.lit (.bool false)], args := [d] }
  | _ => none }
def IsaReadsWrongFalsely : Prop := isaReadsRow.holds Tryd.pinned (OpenSpec.ofChange isaReadsWrong)

/-- 'bulkheadlaw02.IsaBack': WHATEVER THE INPUT: true; the input reads as it did. -/
def isaBackSpec : ChangeSpec := { name := "isaBack", fn := fun _ => fun
  | [d1, d2] => { results := [.lit (.bool true)], args := [d1, d2] }
  | _ => none }
def isaBackRow : OpenClaim := { program := "ytdoighcgfbnigaadoor", sum := "6b07cd4b8bedeed41dc1711fc257332774ddcb357d8d583797d2ffa70f346b78", func := "bulkhead/bulkheadlaw02.IsaBack", spec := "isaBack", unfollowed := true, recurses := true, named := ["bulkhead/isa.rows"], apart := false, laid := [("bulkhead/isa.rows", laid_bulkhead_isa_rows)] }
def IsaBackSaid : Prop := isaBackRow.holds Tryd.pinned (OpenSpec.ofChange isaBackSpec)

/-- ITS FALSE NEIGHBOUR: 'it returns false'. Refute it at one input. -/
def isaBackWrong : ChangeSpec := { name := "isaBack", fn := fun _ => fun
  | [d1, d2] => { results := [.lit (.bool false)], args := [d1, d2] }
  | _ => none }
def IsaBackWrongFalsely : Prop := isaBackRow.holds Tryd.pinned (OpenSpec.ofChange isaBackWrong)

/-- 'bulkheadlaw02.IsaWidth': WHATEVER THE INPUT: true; the input reads as it did. -/
def isaWidthSpec : ChangeSpec := { name := "isaWidth", fn := fun _ => fun
  | [d1, d2, d3] => { results := [.lit (.bool true)], args := [d1, d2, d3] }
  | _ => none }
def isaWidthRow : OpenClaim := { program := "ytdoighcgfbnigaadoor", sum := "6b07cd4b8bedeed41dc1711fc257332774ddcb357d8d583797d2ffa70f346b78", func := "bulkhead/bulkheadlaw02.IsaWidth", spec := "isaWidth", unfollowed := true, recurses := true, named := ["bulkhead/isa.rows"], apart := false, laid := [("bulkhead/isa.rows", laid_bulkhead_isa_rows)] }
def IsaWidthSaid : Prop := isaWidthRow.holds Tryd.pinned (OpenSpec.ofChange isaWidthSpec)

/-- ITS FALSE NEIGHBOUR: 'it returns false'. Refute it at one input. -/
def isaWidthWrong : ChangeSpec := { name := "isaWidth", fn := fun _ => fun
  | [d1, d2, d3] => { results := [.lit (.bool false)], args := [d1, d2, d3] }
  | _ => none }
def IsaWidthWrongFalsely : Prop := isaWidthRow.holds Tryd.pinned (OpenSpec.ofChange isaWidthWrong)

/-- 'bulkheadlaw02.IsaApart': WHATEVER THE INPUT: true; the input reads as it did. -/
def isaApartSpec : ChangeSpec := { name := "isaApart", fn := fun _ => fun
  | [d1, d2] => { results := [.lit (.bool true)], args := [d1, d2] }
  | _ => none }
def isaApartRow : OpenClaim := { program := "ytdoighcgfbnigaadoor", sum := "6b07cd4b8bedeed41dc1711fc257332774ddcb357d8d583797d2ffa70f346b78", func := "bulkhead/bulkheadlaw02.IsaApart", spec := "isaApart", unfollowed := true, recurses := true, named := ["bulkhead/isa.rows"], apart := false, laid := [("bulkhead/isa.rows", laid_bulkhead_isa_rows)] }
def IsaApartSaid : Prop := isaApartRow.holds Tryd.pinned (OpenSpec.ofChange isaApartSpec)

/-- ITS FALSE NEIGHBOUR: 'it returns false'. Refute it at one input. -/
def isaApartWrong : ChangeSpec := { name := "isaApart", fn := fun _ => fun
  | [d1, d2] => { results := [.lit (.bool false)], args := [d1, d2] }
  | _ => none }
def IsaApartWrongFalsely : Prop := isaApartRow.holds Tryd.pinned (OpenSpec.ofChange isaApartWrong)

/-- 'bulkheadlaw02.IsaFinds': WHATEVER THE INPUT: true; the input reads as it did. -/
def isaFindsSpec : ChangeSpec := { name := "isaFinds", fn := fun _ => fun
  | [d] => { results := [.lit (.bool true)], args := [d] }
  | _ => none }
def isaFindsRow : OpenClaim := { program := "ytdoighcgfbnigaadoor", sum := "6b07cd4b8bedeed41dc1711fc257332774ddcb357d8d583797d2ffa70f346b78", func := "bulkhead/bulkheadlaw02.IsaFinds", spec := "isaFinds", unfollowed := true, recurses := true, named := ["bulkhead/isa.rows"], apart := false, laid := [("bulkhead/isa.rows", laid_bulkhead_isa_rows)] }
def IsaFindsSaid : Prop := isaFindsRow.holds Tryd.pinned (OpenSpec.ofChange isaFindsSpec)

/-- ITS FALSE NEIGHBOUR: 'it returns false'. Refute it at one input. -/
def isaFindsWrong : ChangeSpec := { name := "isaFinds", fn := fun _ => fun
  | [d] => { results := [.lit (.bool false)], args := [d] }
  | _ => none }
def IsaFindsWrongFalsely : Prop := isaFindsRow.holds Tryd.pinned (OpenSpec.ofChange isaFindsWrong)

/-- 'bulkheadlaw02.IsaTable': WHATEVER THE INPUT: true; the input reads as it did. -/
def isaTableSpec : ChangeSpec := { name := "isaTable", fn := fun _ => fun
  | [d] => { results := [.lit (.bool true)], args := [d] }
  | _ => none }
def isaTableRow : OpenClaim := { program := "ytdoighcgfbnigaadoor", sum := "6b07cd4b8bedeed41dc1711fc257332774ddcb357d8d583797d2ffa70f346b78", func := "bulkhead/bulkheadlaw02.IsaTable", spec := "isaTable", unfollowed := true, recurses := true, named := ["bulkhead/isa.rows"], apart := false, laid := [("bulkhead/isa.rows", laid_bulkhead_isa_rows)] }
def IsaTableSaid : Prop := isaTableRow.holds Tryd.pinned (OpenSpec.ofChange isaTableSpec)

/-- ITS FALSE NEIGHBOUR: 'it returns false'. Refute it at one input. -/
def isaTableWrong : ChangeSpec := { name := "isaTable", fn := fun _ => fun
  | [d] => { results := [.lit (.bool false)], args := [d] }
  | _ => none }
def IsaTableWrongFalsely : Prop := isaTableRow.holds Tryd.pinned (OpenSpec.ofChange isaTableWrong)

/- THE SECOND FORM. 'bulk': how many values and letters a reading holds, each counted each time it is reached (what is shared counts as often as it is met; a slice's spare places count too). A statement '..UptoSaid' is the law's where the arguments, and the package variables that the reading takes, are together of bulk at most 1048576: NARROWER than '..Said'. Prove '..Said' where nothing that the law and all that it calls make is longer than what came in: it says more and counts as full. Else prove '..UptoSaid'. A law counts once. -/
mutual
def uptoBulk {H : Type} : DataW H → Nat
  | .lit (.string bytes) => bytes.length + 1
  | .lit _ => 1
  | .nil => 1
  | .ptr d => uptoBulk d + 1
  | .slice elems spare => uptoBulkAll elems + uptoBulkAll spare + 1
  | .agg parts => uptoBulkAll parts + 1
  | .iface _ d => uptoBulk d + 1
  | .map entries => uptoBulkEntries entries + 1
  | .held _ => 1
def uptoBulkAll {H : Type} : List (DataW H) → Nat
  | [] => 0
  | d :: r => uptoBulk d + uptoBulkAll r
def uptoBulkEntries {H : Type} : List (Lit × DataW H) → Nat
  | [] => 0
  | x :: r => uptoBulkEntry x + uptoBulkEntries r
def uptoBulkEntry {H : Type} : Lit × DataW H → Nat
  | (.string bytes, d) => bytes.length + uptoBulk d + 1
  | (_, d) => uptoBulk d + 1
 end
def uptoSmall : (H : Type) → List (DataW H) → Bool := fun _ ds => decide (uptoBulkAll ds ≤ 1048576)
def OpenSpec.upto (s : _root_.Go.ChangeSpec) : _root_.Go.OpenSpec := { _root_.Go.OpenSpec.ofChange s with cond := some uptoSmall }

/-- 'bulkheadlaw02.IsaWrites', WHERE WHAT IT READS IS OF BULK AT MOST 1048576: true; the input reads as it did. -/
def isaWritesUptoRow : OpenClaim := { program := "ytdoighcgfbnigaadoor", sum := "6b07cd4b8bedeed41dc1711fc257332774ddcb357d8d583797d2ffa70f346b78", func := "bulkhead/bulkheadlaw02.IsaWrites", spec := "isaWrites", unfollowed := true, recurses := true, named := ["bulkhead/isa.rows"], apart := false, laid := [("bulkhead/isa.rows", laid_bulkhead_isa_rows)], narrowed := true }
def IsaWritesUptoSaid : Prop := isaWritesUptoRow.holds Tryd.pinned (OpenSpec.upto isaWritesSpec)

/-- 'bulkheadlaw02.IsaReads', WHERE WHAT IT READS IS OF BULK AT MOST 1048576: true; the input reads as it did. -/
def isaReadsUptoRow : OpenClaim := { program := "ytdoighcgfbnigaadoor", sum := "6b07cd4b8bedeed41dc1711fc257332774ddcb357d8d583797d2ffa70f346b78", func := "bulkhead/bulkheadlaw02.IsaReads", spec := "isaReads", unfollowed := true, recurses := true, named := ["bulkhead/isa.rows"], apart := false, laid := [("bulkhead/isa.rows", laid_bulkhead_isa_rows)], narrowed := true }
def IsaReadsUptoSaid : Prop := isaReadsUptoRow.holds Tryd.pinned (OpenSpec.upto isaReadsSpec)

/-- 'bulkheadlaw02.IsaBack', WHERE WHAT IT READS IS OF BULK AT MOST 1048576: true; the input reads as it did. -/
def isaBackUptoRow : OpenClaim := { program := "ytdoighcgfbnigaadoor", sum := "6b07cd4b8bedeed41dc1711fc257332774ddcb357d8d583797d2ffa70f346b78", func := "bulkhead/bulkheadlaw02.IsaBack", spec := "isaBack", unfollowed := true, recurses := true, named := ["bulkhead/isa.rows"], apart := false, laid := [("bulkhead/isa.rows", laid_bulkhead_isa_rows)], narrowed := true }
def IsaBackUptoSaid : Prop := isaBackUptoRow.holds Tryd.pinned (OpenSpec.upto isaBackSpec)

/-- 'bulkheadlaw02.IsaWidth', WHERE WHAT IT READS IS OF BULK AT MOST 1048576: true; the input reads as it did. -/
def isaWidthUptoRow : OpenClaim := { program := "ytdoighcgfbnigaadoor", sum := "6b07cd4b8bedeed41dc1711fc257332774ddcb357d8d583797d2ffa70f346b78", func := "bulkhead/bulkheadlaw02.IsaWidth", spec := "isaWidth", unfollowed := true, recurses := true, named := ["bulkhead/isa.rows"], apart := false, laid := [("bulkhead/isa.rows", laid_bulkhead_isa_rows)], narrowed := true }
def IsaWidthUptoSaid : Prop := isaWidthUptoRow.holds Tryd.pinned (OpenSpec.upto isaWidthSpec)

/-- 'bulkheadlaw02.IsaApart', WHERE WHAT IT READS IS OF BULK AT MOST 1048576: true; the input reads as it did. -/
def isaApartUptoRow : OpenClaim := { program := "ytdoighcgfbnigaadoor", sum := "6b07cd4b8bedeed41dc1711fc257332774ddcb357d8d583797d2ffa70f346b78", func := "bulkhead/bulkheadlaw02.IsaApart", spec := "isaApart", unfollowed := true, recurses := true, named := ["bulkhead/isa.rows"], apart := false, laid := [("bulkhead/isa.rows", laid_bulkhead_isa_rows)], narrowed := true }
def IsaApartUptoSaid : Prop := isaApartUptoRow.holds Tryd.pinned (OpenSpec.upto isaApartSpec)

/-- 'bulkheadlaw02.IsaFinds', WHERE WHAT IT READS IS OF BULK AT MOST 1048576: true; the input reads as it did. -/
def isaFindsUptoRow : OpenClaim := { program := "ytdoighcgfbnigaadoor", sum := "6b07cd4b8bedeed41dc1711fc257332774ddcb357d8d583797d2ffa70f346b78", func := "bulkhead/bulkheadlaw02.IsaFinds", spec := "isaFinds", unfollowed := true, recurses := true, named := ["bulkhead/isa.rows"], apart := false, laid := [("bulkhead/isa.rows", laid_bulkhead_isa_rows)], narrowed := true }
def IsaFindsUptoSaid : Prop := isaFindsUptoRow.holds Tryd.pinned (OpenSpec.upto isaFindsSpec)

/-- 'bulkheadlaw02.IsaTable', WHERE WHAT IT READS IS OF BULK AT MOST 1048576: true; the input reads as it did. -/
def isaTableUptoRow : OpenClaim := { program := "ytdoighcgfbnigaadoor", sum := "6b07cd4b8bedeed41dc1711fc257332774ddcb357d8d583797d2ffa70f346b78", func := "bulkhead/bulkheadlaw02.IsaTable", spec := "isaTable", unfollowed := true, recurses := true, named := ["bulkhead/isa.rows"], apart := false, laid := [("bulkhead/isa.rows", laid_bulkhead_isa_rows)], narrowed := true }
def IsaTableUptoSaid : Prop := isaTableUptoRow.holds Tryd.pinned (OpenSpec.upto isaTableSpec)

end Rows
end Go.Proofs.YtdoighcgfbnigaaDoor
