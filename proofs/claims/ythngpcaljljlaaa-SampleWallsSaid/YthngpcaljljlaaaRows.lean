/-
  No cell of these rows narrows 'for every input' (looked for: loops, veiled, ifaces, maps, wideKeys, modest, calm, conditions, laid).
  DERIVED. THE GIVEN ROWS OF THIS SEAT. 5 by the template 'for every input the law returns true; each argument reads behind the call as it read before'; 0 by the template 'total and deterministic' (their statements: YthngpcaljljlaaaTotals.lean).
  GIVEN WITH THE SEED: the statements are not yours to turn. If you find one false, say at which input.
  Laid BY PROGRAM, IN A SANDBOX (cutbox-rows.mjs): the forced cells as the released guide's own fill.sh prints them over the translation 794bf3b4e34597a9… (all of the seat's roots in one cut). By AI agents, Wed Nov 11 2026. No macro, syntax, notation, axiom, sorry.
-/
import Derived.Test.YthngpcaljljlaaaChecked
import GoSem.Claim
import GoSem.ClaimJoined
import GoSem.ClaimMapViews
import Derived.JoinedTies
import Derived.KernelRfl
namespace Go.Proofs.Ythngpcaljljlaaa
/- THE CELL 'sum', in the pinned program and in every row, IS THE sha256 OF THE DUMP (.gsa) THAT YthngpcaljljlaaaProg.lean LOADS. Nothing in Lean hashes anything: it is a label: what it is worth is what the hold of that sum in a sandbox is worth. -/
noncomputable def Try.pinned : Pinned := { name := "ythngpcaljljlaaa", sum := "794bf3b4e34597a990c15877deab2c2f580b08a877c74f7ddda893f046015556", checked := Try.checked }
namespace Rows
def none {H : Type} : Left H := { results := [], args := [] }

/-- 'bulkheadlaw19.SampleNames': WHATEVER THE INPUT: true; the input reads as it did. -/
def sampleNamesSpec : ChangeSpec := { name := "sampleNames", fn := fun _ => fun
  | [] => { results := [.lit (.bool true)], args := [] }
  | _ => none }
def sampleNamesRow : OpenClaim := { program := "ythngpcaljljlaaa", sum := "794bf3b4e34597a990c15877deab2c2f580b08a877c74f7ddda893f046015556", func := "bulkhead/bulkheadlaw19.SampleNames", spec := "sampleNames", apart := false }
def SampleNamesSaid : Prop := sampleNamesRow.holds Try.pinned (OpenSpec.ofChange sampleNamesSpec)

/-- ITS FALSE NEIGHBOUR: 'it returns false'. Refute it at one input. -/
def sampleNamesWrong : ChangeSpec := { name := "sampleNames", fn := fun _ => fun
  | [] => { results := [.lit (.bool false)], args := [] }
  | _ => none }
def SampleNamesWrongFalsely : Prop := sampleNamesRow.holds Try.pinned (OpenSpec.ofChange sampleNamesWrong)

/-- 'bulkheadlaw19.SampleKeeps': WHATEVER THE INPUT: true; the input reads as it did. -/
def sampleKeepsSpec : ChangeSpec := { name := "sampleKeeps", fn := fun _ => fun
  | [d1, d2] => { results := [.lit (.bool true)], args := [d1, d2] }
  | _ => none }
def sampleKeepsRow : OpenClaim := { program := "ythngpcaljljlaaa", sum := "794bf3b4e34597a990c15877deab2c2f580b08a877c74f7ddda893f046015556", func := "bulkhead/bulkheadlaw19.SampleKeeps", spec := "sampleKeeps", apart := false }
def SampleKeepsSaid : Prop := sampleKeepsRow.holds Try.pinned (OpenSpec.ofChange sampleKeepsSpec)

/-- ITS FALSE NEIGHBOUR: 'it returns false'. Refute it at one input. -/
def sampleKeepsWrong : ChangeSpec := { name := "sampleKeeps", fn := fun _ => fun
  | [d1, d2] => { results := [.lit (.bool false)], args := [d1, d2] }
  | _ => none }
def SampleKeepsWrongFalsely : Prop := sampleKeepsRow.holds Try.pinned (OpenSpec.ofChange sampleKeepsWrong)

/-- 'bulkheadlaw19.SampleLast': WHATEVER THE INPUT: true; the input reads as it did. -/
def sampleLastSpec : ChangeSpec := { name := "sampleLast", fn := fun _ => fun
  | [d1, d2, d3] => { results := [.lit (.bool true)], args := [d1, d2, d3] }
  | _ => none }
def sampleLastRow : OpenClaim := { program := "ythngpcaljljlaaa", sum := "794bf3b4e34597a990c15877deab2c2f580b08a877c74f7ddda893f046015556", func := "bulkhead/bulkheadlaw19.SampleLast", spec := "sampleLast", apart := false }
def SampleLastSaid : Prop := sampleLastRow.holds Try.pinned (OpenSpec.ofChange sampleLastSpec)

/-- ITS FALSE NEIGHBOUR: 'it returns false'. Refute it at one input. -/
def sampleLastWrong : ChangeSpec := { name := "sampleLast", fn := fun _ => fun
  | [d1, d2, d3] => { results := [.lit (.bool false)], args := [d1, d2, d3] }
  | _ => none }
def SampleLastWrongFalsely : Prop := sampleLastRow.holds Try.pinned (OpenSpec.ofChange sampleLastWrong)

/-- 'bulkheadlaw19.SampleRuns': WHATEVER THE INPUT: true; the input reads as it did. -/
def sampleRunsSpec : ChangeSpec := { name := "sampleRuns", fn := fun _ => fun
  | [d1, d2] => { results := [.lit (.bool true)], args := [d1, d2] }
  | _ => none }
def sampleRunsRow : OpenClaim := { program := "ythngpcaljljlaaa", sum := "794bf3b4e34597a990c15877deab2c2f580b08a877c74f7ddda893f046015556", func := "bulkhead/bulkheadlaw19.SampleRuns", spec := "sampleRuns", apart := false }
def SampleRunsSaid : Prop := sampleRunsRow.holds Try.pinned (OpenSpec.ofChange sampleRunsSpec)

/-- ITS FALSE NEIGHBOUR: 'it returns false'. Refute it at one input. -/
def sampleRunsWrong : ChangeSpec := { name := "sampleRuns", fn := fun _ => fun
  | [d1, d2] => { results := [.lit (.bool false)], args := [d1, d2] }
  | _ => none }
def SampleRunsWrongFalsely : Prop := sampleRunsRow.holds Try.pinned (OpenSpec.ofChange sampleRunsWrong)

/-- 'bulkheadlaw19.SampleWalls': WHATEVER THE INPUT: true; the input reads as it did. -/
def sampleWallsSpec : ChangeSpec := { name := "sampleWalls", fn := fun _ => fun
  | [d1, d2] => { results := [.lit (.bool true)], args := [d1, d2] }
  | _ => none }
def sampleWallsRow : OpenClaim := { program := "ythngpcaljljlaaa", sum := "794bf3b4e34597a990c15877deab2c2f580b08a877c74f7ddda893f046015556", func := "bulkhead/bulkheadlaw19.SampleWalls", spec := "sampleWalls", apart := false }
def SampleWallsSaid : Prop := sampleWallsRow.holds Try.pinned (OpenSpec.ofChange sampleWallsSpec)

/-- ITS FALSE NEIGHBOUR: 'it returns false'. Refute it at one input. -/
def sampleWallsWrong : ChangeSpec := { name := "sampleWalls", fn := fun _ => fun
  | [d1, d2] => { results := [.lit (.bool false)], args := [d1, d2] }
  | _ => none }
def SampleWallsWrongFalsely : Prop := sampleWallsRow.holds Try.pinned (OpenSpec.ofChange sampleWallsWrong)

/- THE SECOND FORM. 'bulk': how many values and letters a reading holds, each counted each time it is reached (what is shared counts as often as it is met; a slice's spare places count too). A statement '..UptoSaid' is the law's where the arguments, and the package variables that the reading takes, are together of bulk at most 1048576: NARROWER than '..Said'. Prove '..Said' where nothing that the law and all that it calls make is longer than what came in: it says more and counts as full. Else prove '..UptoSaid'. A law counts once. -/
mutual
def uptoBulk {H : Type} : DataW H → Nat
  | .lit (.string bytes) => bytes.length + 1
  | .lit _ => 1
  | .nil => 1
  | .ptr d => uptoBulk d + 1
  | .slice elems spare => uptoBulkAll elems + uptoBulkAll spare + 1
  | .agg parts => uptoBulkAll parts + 1
  | .iface _ d => uptoBulk d + 1
  | .map entries => uptoBulkEntries entries + 1
  | .held _ => 1
def uptoBulkAll {H : Type} : List (DataW H) → Nat
  | [] => 0
  | d :: r => uptoBulk d + uptoBulkAll r
def uptoBulkEntries {H : Type} : List (Lit × DataW H) → Nat
  | [] => 0
  | x :: r => uptoBulkEntry x + uptoBulkEntries r
def uptoBulkEntry {H : Type} : Lit × DataW H → Nat
  | (.string bytes, d) => bytes.length + uptoBulk d + 1
  | (_, d) => uptoBulk d + 1
 end
def uptoSmall : (H : Type) → List (DataW H) → Bool := fun _ ds => decide (uptoBulkAll ds ≤ 1048576)
def OpenSpec.upto (s : _root_.Go.ChangeSpec) : _root_.Go.OpenSpec := { _root_.Go.OpenSpec.ofChange s with cond := some uptoSmall }

/-- 'bulkheadlaw19.SampleNames', WHERE WHAT IT READS IS OF BULK AT MOST 1048576: true; the input reads as it did. -/
def sampleNamesUptoRow : OpenClaim := { program := "ythngpcaljljlaaa", sum := "794bf3b4e34597a990c15877deab2c2f580b08a877c74f7ddda893f046015556", func := "bulkhead/bulkheadlaw19.SampleNames", spec := "sampleNames", apart := false, narrowed := true }
def SampleNamesUptoSaid : Prop := sampleNamesUptoRow.holds Try.pinned (OpenSpec.upto sampleNamesSpec)

/-- 'bulkheadlaw19.SampleKeeps', WHERE WHAT IT READS IS OF BULK AT MOST 1048576: true; the input reads as it did. -/
def sampleKeepsUptoRow : OpenClaim := { program := "ythngpcaljljlaaa", sum := "794bf3b4e34597a990c15877deab2c2f580b08a877c74f7ddda893f046015556", func := "bulkhead/bulkheadlaw19.SampleKeeps", spec := "sampleKeeps", apart := false, narrowed := true }
def SampleKeepsUptoSaid : Prop := sampleKeepsUptoRow.holds Try.pinned (OpenSpec.upto sampleKeepsSpec)

/-- 'bulkheadlaw19.SampleLast', WHERE WHAT IT READS IS OF BULK AT MOST 1048576: true; the input reads as it did. -/
def sampleLastUptoRow : OpenClaim := { program := "ythngpcaljljlaaa", sum := "794bf3b4e34597a990c15877deab2c2f580b08a877c74f7ddda893f046015556", func := "bulkhead/bulkheadlaw19.SampleLast", spec := "sampleLast", apart := false, narrowed := true }
def SampleLastUptoSaid : Prop := sampleLastUptoRow.holds Try.pinned (OpenSpec.upto sampleLastSpec)

/-- 'bulkheadlaw19.SampleRuns', WHERE WHAT IT READS IS OF BULK AT MOST 1048576: true; the input reads as it did. -/
def sampleRunsUptoRow : OpenClaim := { program := "ythngpcaljljlaaa", sum := "794bf3b4e34597a990c15877deab2c2f580b08a877c74f7ddda893f046015556", func := "bulkhead/bulkheadlaw19.SampleRuns", spec := "sampleRuns", apart := false, narrowed := true }
def SampleRunsUptoSaid : Prop := sampleRunsUptoRow.holds Try.pinned (OpenSpec.upto sampleRunsSpec)

/-- 'bulkheadlaw19.SampleWalls', WHERE WHAT IT READS IS OF BULK AT MOST 1048576: true; the input reads as it did. -/
def sampleWallsUptoRow : OpenClaim := { program := "ythngpcaljljlaaa", sum := "794bf3b4e34597a990c15877deab2c2f580b08a877c74f7ddda893f046015556", func := "bulkhead/bulkheadlaw19.SampleWalls", spec := "sampleWalls", apart := false, narrowed := true }
def SampleWallsUptoSaid : Prop := sampleWallsUptoRow.holds Try.pinned (OpenSpec.upto sampleWallsSpec)

end Rows
end Go.Proofs.Ythngpcaljljlaaa
