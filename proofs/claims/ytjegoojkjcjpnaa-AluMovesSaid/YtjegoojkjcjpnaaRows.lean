/-
  No cell of these rows narrows 'for every input' (looked for: loops, veiled, ifaces, maps, wideKeys, modest, calm, conditions, laid).
  DERIVED. THE GIVEN ROWS OF THIS SEAT. 7 by the template 'for every input the law returns true; each argument reads behind the call as it read before'; 0 by the template 'total and deterministic' (their statements: YtjegoojkjcjpnaaTotals.lean).
  GIVEN WITH THE SEED: the statements are not yours to turn. If you find one false, say at which input.
  Laid BY PROGRAM, IN A SANDBOX (cutbox-rows.mjs): the forced cells as the released guide's own fill.sh prints them over the translation 0a9a802e4f185643… (all of the seat's roots in one cut). By AI agents, Wed Nov 11 2026. No macro, syntax, notation, axiom, sorry.
-/
import Derived.Test.YtjegoojkjcjpnaaChecked
import GoSem.Claim
import GoSem.ClaimJoined
import GoSem.ClaimMapViews
import Derived.JoinedTies
import Derived.KernelRfl
namespace Go.Proofs.Ytjegoojkjcjpnaa
/- THE CELL 'sum', in the pinned program and in every row, IS THE sha256 OF THE DUMP (.gsa) THAT YtjegoojkjcjpnaaProg.lean LOADS. Nothing in Lean hashes anything: it is a label: what it is worth is what the hold of that sum in a sandbox is worth. -/
noncomputable def Try.pinned : Pinned := { name := "ytjegoojkjcjpnaa", sum := "0a9a802e4f185643699dc71ae425d343089125abbd228a7aa011aaa8a23da7fb", checked := Try.checked }
namespace Rows
def none {H : Type} : Left H := { results := [], args := [] }

/-- 'bulkheadlaw03.AluTakes': WHATEVER THE INPUT: true; the input reads as it did. -/
def aluTakesSpec : ChangeSpec := { name := "aluTakes", fn := fun _ => fun
  | [d] => { results := [.lit (.bool true)], args := [d] }
  | _ => none }
def aluTakesRow : OpenClaim := { program := "ytjegoojkjcjpnaa", sum := "0a9a802e4f185643699dc71ae425d343089125abbd228a7aa011aaa8a23da7fb", func := "bulkhead/bulkheadlaw03.AluTakes", spec := "aluTakes", apart := false }
def AluTakesSaid : Prop := aluTakesRow.holds Try.pinned (OpenSpec.ofChange aluTakesSpec)

/-- ITS FALSE NEIGHBOUR: 'it returns false'. Refute it at one input. -/
def aluTakesWrong : ChangeSpec := { name := "aluTakes", fn := fun _ => fun
  | [d] => { results := [.lit (.bool false)], args := [d] }
  | _ => none }
def AluTakesWrongFalsely : Prop := aluTakesRow.holds Try.pinned (OpenSpec.ofChange aluTakesWrong)

/-- 'bulkheadlaw03.AluDivides': WHATEVER THE INPUT: true; the input reads as it did. -/
def aluDividesSpec : ChangeSpec := { name := "aluDivides", fn := fun _ => fun
  | [d1, d2] => { results := [.lit (.bool true)], args := [d1, d2] }
  | _ => none }
def aluDividesRow : OpenClaim := { program := "ytjegoojkjcjpnaa", sum := "0a9a802e4f185643699dc71ae425d343089125abbd228a7aa011aaa8a23da7fb", func := "bulkhead/bulkheadlaw03.AluDivides", spec := "aluDivides", apart := false }
def AluDividesSaid : Prop := aluDividesRow.holds Try.pinned (OpenSpec.ofChange aluDividesSpec)

/-- ITS FALSE NEIGHBOUR: 'it returns false'. Refute it at one input. -/
def aluDividesWrong : ChangeSpec := { name := "aluDivides", fn := fun _ => fun
  | [d1, d2] => { results := [.lit (.bool false)], args := [d1, d2] }
  | _ => none }
def AluDividesWrongFalsely : Prop := aluDividesRow.holds Try.pinned (OpenSpec.ofChange aluDividesWrong)

/-- 'bulkheadlaw03.AluMoves': WHATEVER THE INPUT: true; the input reads as it did. -/
def aluMovesSpec : ChangeSpec := { name := "aluMoves", fn := fun _ => fun
  | [d1, d2, d3] => { results := [.lit (.bool true)], args := [d1, d2, d3] }
  | _ => none }
def aluMovesRow : OpenClaim := { program := "ytjegoojkjcjpnaa", sum := "0a9a802e4f185643699dc71ae425d343089125abbd228a7aa011aaa8a23da7fb", func := "bulkhead/bulkheadlaw03.AluMoves", spec := "aluMoves", apart := false }
def AluMovesSaid : Prop := aluMovesRow.holds Try.pinned (OpenSpec.ofChange aluMovesSpec)

/-- ITS FALSE NEIGHBOUR: 'it returns false'. Refute it at one input. -/
def aluMovesWrong : ChangeSpec := { name := "aluMoves", fn := fun _ => fun
  | [d1, d2, d3] => { results := [.lit (.bool false)], args := [d1, d2, d3] }
  | _ => none }
def AluMovesWrongFalsely : Prop := aluMovesRow.holds Try.pinned (OpenSpec.ofChange aluMovesWrong)

/-- 'bulkheadlaw03.AluTurns': WHATEVER THE INPUT: true; the input reads as it did. -/
def aluTurnsSpec : ChangeSpec := { name := "aluTurns", fn := fun _ => fun
  | [d1, d2] => { results := [.lit (.bool true)], args := [d1, d2] }
  | _ => none }
def aluTurnsRow : OpenClaim := { program := "ytjegoojkjcjpnaa", sum := "0a9a802e4f185643699dc71ae425d343089125abbd228a7aa011aaa8a23da7fb", func := "bulkhead/bulkheadlaw03.AluTurns", spec := "aluTurns", apart := false }
def AluTurnsSaid : Prop := aluTurnsRow.holds Try.pinned (OpenSpec.ofChange aluTurnsSpec)

/-- ITS FALSE NEIGHBOUR: 'it returns false'. Refute it at one input. -/
def aluTurnsWrong : ChangeSpec := { name := "aluTurns", fn := fun _ => fun
  | [d1, d2] => { results := [.lit (.bool false)], args := [d1, d2] }
  | _ => none }
def AluTurnsWrongFalsely : Prop := aluTurnsRow.holds Try.pinned (OpenSpec.ofChange aluTurnsWrong)

/-- 'bulkheadlaw03.AluNames': WHATEVER THE INPUT: true; the input reads as it did. -/
def aluNamesSpec : ChangeSpec := { name := "aluNames", fn := fun _ => fun
  | [] => { results := [.lit (.bool true)], args := [] }
  | _ => none }
def aluNamesRow : OpenClaim := { program := "ytjegoojkjcjpnaa", sum := "0a9a802e4f185643699dc71ae425d343089125abbd228a7aa011aaa8a23da7fb", func := "bulkhead/bulkheadlaw03.AluNames", spec := "aluNames", apart := false }
def AluNamesSaid : Prop := aluNamesRow.holds Try.pinned (OpenSpec.ofChange aluNamesSpec)

/-- ITS FALSE NEIGHBOUR: 'it returns false'. Refute it at one input. -/
def aluNamesWrong : ChangeSpec := { name := "aluNames", fn := fun _ => fun
  | [] => { results := [.lit (.bool false)], args := [] }
  | _ => none }
def AluNamesWrongFalsely : Prop := aluNamesRow.holds Try.pinned (OpenSpec.ofChange aluNamesWrong)

/-- 'bulkheadlaw03.AluDoes': WHATEVER THE INPUT: true; the input reads as it did. -/
def aluDoesSpec : ChangeSpec := { name := "aluDoes", fn := fun _ => fun
  | [d] => { results := [.lit (.bool true)], args := [d] }
  | _ => none }
def aluDoesRow : OpenClaim := { program := "ytjegoojkjcjpnaa", sum := "0a9a802e4f185643699dc71ae425d343089125abbd228a7aa011aaa8a23da7fb", func := "bulkhead/bulkheadlaw03.AluDoes", spec := "aluDoes", apart := false }
def AluDoesSaid : Prop := aluDoesRow.holds Try.pinned (OpenSpec.ofChange aluDoesSpec)

/-- ITS FALSE NEIGHBOUR: 'it returns false'. Refute it at one input. -/
def aluDoesWrong : ChangeSpec := { name := "aluDoes", fn := fun _ => fun
  | [d] => { results := [.lit (.bool false)], args := [d] }
  | _ => none }
def AluDoesWrongFalsely : Prop := aluDoesRow.holds Try.pinned (OpenSpec.ofChange aluDoesWrong)

/-- 'bulkheadlaw03.AluOrders': WHATEVER THE INPUT: true; the input reads as it did. -/
def aluOrdersSpec : ChangeSpec := { name := "aluOrders", fn := fun _ => fun
  | [d1, d2] => { results := [.lit (.bool true)], args := [d1, d2] }
  | _ => none }
def aluOrdersRow : OpenClaim := { program := "ytjegoojkjcjpnaa", sum := "0a9a802e4f185643699dc71ae425d343089125abbd228a7aa011aaa8a23da7fb", func := "bulkhead/bulkheadlaw03.AluOrders", spec := "aluOrders", apart := false }
def AluOrdersSaid : Prop := aluOrdersRow.holds Try.pinned (OpenSpec.ofChange aluOrdersSpec)

/-- ITS FALSE NEIGHBOUR: 'it returns false'. Refute it at one input. -/
def aluOrdersWrong : ChangeSpec := { name := "aluOrders", fn := fun _ => fun
  | [d1, d2] => { results := [.lit (.bool false)], args := [d1, d2] }
  | _ => none }
def AluOrdersWrongFalsely : Prop := aluOrdersRow.holds Try.pinned (OpenSpec.ofChange aluOrdersWrong)

/- THE SECOND FORM. 'bulk': how many values and letters a reading holds, each counted each time it is reached (what is shared counts as often as it is met; a slice's spare places count too). A statement '..UptoSaid' is the law's where the arguments, and the package variables that the reading takes, are together of bulk at most 1048576: NARROWER than '..Said'. Prove '..Said' where nothing that the law and all that it calls make is longer than what came in: it says more and counts as full. Else prove '..UptoSaid'. A law counts once. -/
mutual
def uptoBulk {H : Type} : DataW H → Nat
  | .lit (.string bytes) => bytes.length + 1
  | .lit _ => 1
  | .nil => 1
  | .ptr d => uptoBulk d + 1
  | .slice elems spare => uptoBulkAll elems + uptoBulkAll spare + 1
  | .agg parts => uptoBulkAll parts + 1
  | .iface _ d => uptoBulk d + 1
  | .map entries => uptoBulkEntries entries + 1
  | .held _ => 1
def uptoBulkAll {H : Type} : List (DataW H) → Nat
  | [] => 0
  | d :: r => uptoBulk d + uptoBulkAll r
def uptoBulkEntries {H : Type} : List (Lit × DataW H) → Nat
  | [] => 0
  | x :: r => uptoBulkEntry x + uptoBulkEntries r
def uptoBulkEntry {H : Type} : Lit × DataW H → Nat
  | (.string bytes, d) => bytes.length + uptoBulk d + 1
  | (_, d) => uptoBulk d + 1
 end
def uptoSmall : (H : Type) → List (DataW H) → Bool := fun _ ds => decide (uptoBulkAll ds ≤ 1048576)
def OpenSpec.upto (s : _root_.Go.ChangeSpec) : _root_.Go.OpenSpec := { _root_.Go.OpenSpec.ofChange s with cond := some uptoSmall }

/-- 'bulkheadlaw03.AluTakes', WHERE WHAT IT READS IS OF BULK AT MOST 1048576: true; the input reads as it did. -/
def aluTakesUptoRow : OpenClaim := { program := "ytjegoojkjcjpnaa", sum := "0a9a802e4f185643699dc71ae425d343089125abbd228a7aa011aaa8a23da7fb", func := "bulkhead/bulkheadlaw03.AluTakes", spec := "aluTakes", apart := false, narrowed := true }
def AluTakesUptoSaid : Prop := aluTakesUptoRow.holds Try.pinned (OpenSpec.upto aluTakesSpec)

/-- 'bulkheadlaw03.AluDivides', WHERE WHAT IT READS IS OF BULK AT MOST 1048576: true; the input reads as it did. -/
def aluDividesUptoRow : OpenClaim := { program := "ytjegoojkjcjpnaa", sum := "0a9a802e4f185643699dc71ae425d343089125abbd228a7aa011aaa8a23da7fb", func := "bulkhead/bulkheadlaw03.AluDivides", spec := "aluDivides", apart := false, narrowed := true }
def AluDividesUptoSaid : Prop := aluDividesUptoRow.holds Try.pinned (OpenSpec.upto aluDividesSpec)

/-- 'bulkheadlaw03.AluMoves', WHERE WHAT IT READS IS OF BULK AT MOST 1048576: true; the input reads as it did. -/
def aluMovesUptoRow : OpenClaim := { program := "ytjegoojkjcjpnaa", sum := "0a9a802e4f185643699dc71ae425d343089125abbd228a7aa011aaa8a23da7fb", func := "bulkhead/bulkheadlaw03.AluMoves", spec := "aluMoves", apart := false, narrowed := true }
def AluMovesUptoSaid : Prop := aluMovesUptoRow.holds Try.pinned (OpenSpec.upto aluMovesSpec)

/-- 'bulkheadlaw03.AluTurns', WHERE WHAT IT READS IS OF BULK AT MOST 1048576: true; the input reads as it did. -/
def aluTurnsUptoRow : OpenClaim := { program := "ytjegoojkjcjpnaa", sum := "0a9a802e4f185643699dc71ae425d343089125abbd228a7aa011aaa8a23da7fb", func := "bulkhead/bulkheadlaw03.AluTurns", spec := "aluTurns", apart := false, narrowed := true }
def AluTurnsUptoSaid : Prop := aluTurnsUptoRow.holds Try.pinned (OpenSpec.upto aluTurnsSpec)

/-- 'bulkheadlaw03.AluNames', WHERE WHAT IT READS IS OF BULK AT MOST 1048576: true; the input reads as it did. -/
def aluNamesUptoRow : OpenClaim := { program := "ytjegoojkjcjpnaa", sum := "0a9a802e4f185643699dc71ae425d343089125abbd228a7aa011aaa8a23da7fb", func := "bulkhead/bulkheadlaw03.AluNames", spec := "aluNames", apart := false, narrowed := true }
def AluNamesUptoSaid : Prop := aluNamesUptoRow.holds Try.pinned (OpenSpec.upto aluNamesSpec)

/-- 'bulkheadlaw03.AluDoes', WHERE WHAT IT READS IS OF BULK AT MOST 1048576: true; the input reads as it did. -/
def aluDoesUptoRow : OpenClaim := { program := "ytjegoojkjcjpnaa", sum := "0a9a802e4f185643699dc71ae425d343089125abbd228a7aa011aaa8a23da7fb", func := "bulkhead/bulkheadlaw03.AluDoes", spec := "aluDoes", apart := false, narrowed := true }
def AluDoesUptoSaid : Prop := aluDoesUptoRow.holds Try.pinned (OpenSpec.upto aluDoesSpec)

/-- 'bulkheadlaw03.AluOrders', WHERE WHAT IT READS IS OF BULK AT MOST 1048576: true; the input reads as it did. -/
def aluOrdersUptoRow : OpenClaim := { program := "ytjegoojkjcjpnaa", sum := "0a9a802e4f185643699dc71ae425d343089125abbd228a7aa011aaa8a23da7fb", func := "bulkhead/bulkheadlaw03.AluOrders", spec := "aluOrders", apart := false, narrowed := true }
def AluOrdersUptoSaid : Prop := aluOrdersUptoRow.holds Try.pinned (OpenSpec.upto aluOrdersSpec)

end Rows
end Go.Proofs.Ytjegoojkjcjpnaa
