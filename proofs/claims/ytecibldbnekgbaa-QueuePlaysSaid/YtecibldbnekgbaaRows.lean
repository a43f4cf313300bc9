/-
  No cell of these rows narrows 'for every input' (looked for: loops, veiled, ifaces, maps, wideKeys, modest, calm, conditions, laid).
  DERIVED. THE GIVEN ROWS OF THIS SEAT. 4 by the template 'for every input the law returns true; each argument reads behind the call as it read before'; 0 by the template 'total and deterministic' (their statements: YtecibldbnekgbaaTotals.lean).
  GIVEN WITH THE SEED: the statements are not yours to turn. If you find one false, say at which input.
  Laid BY PROGRAM, IN A SANDBOX (cutbox-rows.mjs): the forced cells as the released guide's own fill.sh prints them over the translation f52beedc8ebe28b9… (all of the seat's roots in one cut). By AI agents, Wed Nov 11 2026. No macro, syntax, notation, axiom, sorry.
-/
import Derived.Test.YtecibldbnekgbaaChecked
import GoSem.Claim
import GoSem.ClaimJoined
import GoSem.ClaimMapViews
import Derived.JoinedTies
import Derived.KernelRfl
namespace Go.Proofs.Ytecibldbnekgbaa
/- THE CELL 'sum', in the pinned program and in every row, IS THE sha256 OF THE DUMP (.gsa) THAT YtecibldbnekgbaaProg.lean LOADS. Nothing in Lean hashes anything: it is a label: what it is worth is what the hold of that sum in a sandbox is worth. -/
noncomputable def Try.pinned : Pinned := { name := "ytecibldbnekgbaa", sum := "f52beedc8ebe28b9ca85111708faddd1fa1d45fef87f3dbeb10dc6c0a533276d", checked := Try.checked }
namespace Rows
def none {H : Type} : Left H := { results := [], args := [] }

/-- 'bulkheadlaw20.QueueNil': WHATEVER THE INPUT: true; the input reads as it did. -/
def queueNilSpec : ChangeSpec := { name := "queueNil", fn := fun _ => fun
  | [d1, d2, d3] => { results := [.lit (.bool true)], args := [d1, d2, d3] }
  | _ => none }
def queueNilRow : OpenClaim := { program := "ytecibldbnekgbaa", sum := "f52beedc8ebe28b9ca85111708faddd1fa1d45fef87f3dbeb10dc6c0a533276d", func := "bulkhead/bulkheadlaw20.QueueNil", spec := "queueNil", apart := false }
def QueueNilSaid : Prop := queueNilRow.holds Try.pinned (OpenSpec.ofChange queueNilSpec)

/-- ITS FALSE NEIGHBOUR: 'it returns false'. Refute it at one input. -/
def queueNilWrong : ChangeSpec := { name := "queueNil", fn := fun _ => fun
  | [d1, d2, d3] => { results := [.lit (.bool false)], args := [d1, d2, d3] }
  | _ => none }
def QueueNilWrongFalsely : Prop := queueNilRow.holds Try.pinned (OpenSpec.ofChange queueNilWrong)

/-- 'bulkheadlaw20.QueueRow': WHATEVER THE INPUT: true; the input reads as it did. -/
def queueRowSpec : ChangeSpec := { name := "queueRow", fn := fun _ => fun
  | [d1, d2, d3] => { results := [.lit (.bool true)], args := [d1, d2, d3] }
  | _ => none }
def queueRowRow : OpenClaim := { program := "ytecibldbnekgbaa", sum := "f52beedc8ebe28b9ca85111708faddd1fa1d45fef87f3dbeb10dc6c0a533276d", func := "bulkhead/bulkheadlaw20.QueueRow", spec := "queueRow", apart := false }
def QueueRowSaid : Prop := queueRowRow.holds Try.pinned (OpenSpec.ofChange queueRowSpec)

/-- ITS FALSE NEIGHBOUR: 'it returns false'. Refute it at one input. -/
def queueRowWrong : ChangeSpec := { name := "queueRow", fn := fun _ => fun
  | [d1, d2, d3] => { results := [.lit (.bool false)], args := [d1, d2, d3] }
  | _ => none }
def QueueRowWrongFalsely : Prop := queueRowRow.holds Try.pinned (OpenSpec.ofChange queueRowWrong)

/-- 'bulkheadlaw20.QueuePlays': WHATEVER THE INPUT: true; the input reads as it did. -/
def queuePlaysSpec : ChangeSpec := { name := "queuePlays", fn := fun _ => fun
  | [d] => { results := [.lit (.bool true)], args := [d] }
  | _ => none }
def queuePlaysRow : OpenClaim := { program := "ytecibldbnekgbaa", sum := "f52beedc8ebe28b9ca85111708faddd1fa1d45fef87f3dbeb10dc6c0a533276d", func := "bulkhead/bulkheadlaw20.QueuePlays", spec := "queuePlays", apart := false }
def QueuePlaysSaid : Prop := queuePlaysRow.holds Try.pinned (OpenSpec.ofChange queuePlaysSpec)

/-- ITS FALSE NEIGHBOUR: 'it returns false'. Refute it at one input. -/
def queuePlaysWrong : ChangeSpec := { name := "queuePlays", fn := fun _ => fun
  | [d] => { results := [.lit (.bool false)], args := [d] }
  | _ => none }
def QueuePlaysWrongFalsely : Prop := queuePlaysRow.holds Try.pinned (OpenSpec.ofChange queuePlaysWrong)

/-- 'bulkheadlaw20.QueueOwn': WHATEVER THE INPUT: true; the input reads as it did. -/
def queueOwnSpec : ChangeSpec := { name := "queueOwn", fn := fun _ => fun
  | [d] => { results := [.lit (.bool true)], args := [d] }
  | _ => none }
def queueOwnRow : OpenClaim := { program := "ytecibldbnekgbaa", sum := "f52beedc8ebe28b9ca85111708faddd1fa1d45fef87f3dbeb10dc6c0a533276d", func := "bulkhead/bulkheadlaw20.QueueOwn", spec := "queueOwn", apart := false }
def QueueOwnSaid : Prop := queueOwnRow.holds Try.pinned (OpenSpec.ofChange queueOwnSpec)

/-- ITS FALSE NEIGHBOUR: 'it returns false'. Refute it at one input. -/
def queueOwnWrong : ChangeSpec := { name := "queueOwn", fn := fun _ => fun
  | [d] => { results := [.lit (.bool false)], args := [d] }
  | _ => none }
def QueueOwnWrongFalsely : Prop := queueOwnRow.holds Try.pinned (OpenSpec.ofChange queueOwnWrong)

/- THE SECOND FORM. 'bulk': how many values and letters a reading holds, each counted each time it is reached (what is shared counts as often as it is met; a slice's spare places count too). A statement '..UptoSaid' is the law's where the arguments, and the package variables that the reading takes, are together of bulk at most 1048576: NARROWER than '..Said'. Prove '..Said' where nothing that the law and all that it calls make is longer than what came in: it says more and counts as full. Else prove '..UptoSaid'. A law counts once. -/
mutual
def uptoBulk {H : Type} : DataW H → Nat
  | .lit (.string bytes) => bytes.length + 1
  | .lit _ => 1
  | .nil => 1
  | .ptr d => uptoBulk d + 1
  | .slice elems spare => uptoBulkAll elems + uptoBulkAll spare + 1
  | .agg parts => uptoBulkAll parts + 1
  | .iface _ d => uptoBulk d + 1
  | .map entries => uptoBulkEntries entries + 1
  | .held _ => 1
def uptoBulkAll {H : Type} : List (DataW H) → Nat
  | [] => 0
  | d :: r => uptoBulk d + uptoBulkAll r
def uptoBulkEntries {H : Type} : List (Lit × DataW H) → Nat
  | [] => 0
  | x :: r => uptoBulkEntry x + uptoBulkEntries r
def uptoBulkEntry {H : Type} : Lit × DataW H → Nat
  | (.string bytes, d) => bytes.length + uptoBulk d + 1
  | (_, d) => uptoBulk d + 1
 end
def uptoSmall : (H : Type) → List (DataW H) → Bool := fun _ ds => decide (uptoBulkAll ds ≤ 1048576)
def OpenSpec.upto (s : _root_.Go.ChangeSpec) : _root_.Go.OpenSpec := { _root_.Go.OpenSpec.ofChange s with cond := some uptoSmall }

/-- 'bulkheadlaw20.QueueNil', WHERE WHAT IT READS IS OF BULK AT MOST 1048576: true; the input reads as it did. -/
def queueNilUptoRow : OpenClaim := { program := "ytecibldbnekgbaa", sum := "f52beedc8ebe28b9ca85111708faddd1fa1d45fef87f3dbeb10dc6c0a533276d", func := "bulkhead/bulkheadlaw20.QueueNil", spec := "queueNil", apart := false, narrowed := true }
def QueueNilUptoSaid : Prop := queueNilUptoRow.holds Try.pinned (OpenSpec.upto queueNilSpec)

/-- 'bulkheadlaw20.QueueRow', WHERE WHAT IT READS IS OF BULK AT MOST 1048576: true; the input reads as it did. -/
def queueRowUptoRow : OpenClaim := { program := "ytecibldbnekgbaa", sum := "f52beedc8ebe28b9ca85111708faddd1fa1d45fef87f3dbeb10dc6c0a533276d", func := "bulkhead/bulkheadlaw20.QueueRow", spec := "queueRow", apart := false, narrowed := true }
def QueueRowUptoSaid : Prop := queueRowUptoRow.holds Try.pinned (OpenSpec.upto queueRowSpec)

/-- 'bulkheadlaw20.QueuePlays', WHERE WHAT IT READS IS OF BULK AT MOST 1048576: true; the input reads as it did. -/
def queuePlaysUptoRow : OpenClaim := { program := "ytecibldbnekgbaa", sum := "f52beedc8ebe28b9ca85111708faddd1fa1d45fef87f3dbeb10dc6c0a533276d", func := "bulkhead/bulkheadlaw20.QueuePlays", spec := "queuePlays", apart := false, narrowed := true }
def QueuePlaysUptoSaid : Prop := queuePlaysUptoRow.holds Try.pinned (OpenSpec.upto queuePlaysSpec)

/-- 'bulkheadlaw20.QueueOwn', WHERE WHAT IT READS IS OF BULK AT MOST 1048576: true; the input reads as it did. -/
def queueOwnUptoRow : OpenClaim := { program := "ytecibldbnekgbaa", sum := "f52beedc8ebe28b9ca85111708faddd1fa1d45fef87f3dbeb10dc6c0a533276d", func := "bulkhead/bulkheadlaw20.QueueOwn", spec := "queueOwn", apart := false, narrowed := true }
def QueueOwnUptoSaid : Prop := queueOwnUptoRow.holds Try.pinned (OpenSpec.upto queueOwnSpec)

end Rows
end Go.Proofs.Ytecibldbnekgbaa
