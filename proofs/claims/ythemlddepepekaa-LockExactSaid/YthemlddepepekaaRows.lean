/-
  No cell of these rows narrows 'for every input' (looked for: loops, veiled, ifaces, maps, wideKeys, modest, calm, conditions, laid).
  DERIVED. THE GIVEN ROWS OF THIS SEAT. 4 by the template 'for every input the law returns true; each argument reads behind the call as it read before'; 0 by the template 'total and deterministic' (their statements: YthemlddepepekaaTotals.lean).
  GIVEN WITH THE SEED: the statements are not yours to turn. If you find one false, say at which input.
  Laid BY PROGRAM, IN A SANDBOX (cutbox-rows.mjs): the forced cells as the released guide's own fill.sh prints them over the translation 379d0c5fe157ada5… (all of the seat's roots in one cut). By AI agents, Wed Nov 11 2026. No macro, syntax, notation, axiom, sorry.
-/
import Derived.Test.YthemlddepepekaaChecked
import GoSem.Claim
import GoSem.ClaimJoined
import GoSem.ClaimMapViews
import Derived.JoinedTies
import Derived.KernelRfl
namespace Go.Proofs.Ythemlddepepekaa
/- THE CELL 'sum', in the pinned program and in every row, IS THE sha256 OF THE DUMP (.gsa) THAT YthemlddepepekaaProg.lean LOADS. Nothing in Lean hashes anything: it is a label: what it is worth is what the hold of that sum in a sandbox is worth. -/
noncomputable def Try.pinned : Pinned := { name := "ythemlddepepekaa", sum := "379d0c5fe157ada5c265155f45fc34132cc5b36b3137576ff9f288da8de81436", checked := Try.checked }
namespace Rows
def none {H : Type} : Left H := { results := [], args := [] }

/-- 'bulkheadlaw17.LockNames': WHATEVER THE INPUT: true; the input reads as it did. -/
def lockNamesSpec : ChangeSpec := { name := "lockNames", fn := fun _ => fun
  | [] => { results := [.lit (.bool true)], args := [] }
  | _ => none }
def lockNamesRow : OpenClaim := { program := "ythemlddepepekaa", sum := "379d0c5fe157ada5c265155f45fc34132cc5b36b3137576ff9f288da8de81436", func := "bulkhead/bulkheadlaw17.LockNames", spec := "lockNames", apart := false }
def LockNamesSaid : Prop := lockNamesRow.holds Try.pinned (OpenSpec.ofChange lockNamesSpec)

/-- ITS FALSE NEIGHBOUR: 'it returns false'. Refute it at one input. -/
def lockNamesWrong : ChangeSpec := { name := "lockNames", fn := fun _ => fun
  | [] => { results := [.lit (.bool false)], args := [] }
  | _ => none }
def LockNamesWrongFalsely : Prop := lockNamesRow.holds Try.pinned (OpenSpec.ofChange lockNamesWrong)

/-- 'bulkheadlaw17.LockFair': WHATEVER THE INPUT: true; the input reads as it did. -/
def lockFairSpec : ChangeSpec := { name := "lockFair", fn := fun _ => fun
  | [d1, d2] => { results := [.lit (.bool true)], args := [d1, d2] }
  | _ => none }
def lockFairRow : OpenClaim := { program := "ythemlddepepekaa", sum := "379d0c5fe157ada5c265155f45fc34132cc5b36b3137576ff9f288da8de81436", func := "bulkhead/bulkheadlaw17.LockFair", spec := "lockFair", apart := false }
def LockFairSaid : Prop := lockFairRow.holds Try.pinned (OpenSpec.ofChange lockFairSpec)

/-- ITS FALSE NEIGHBOUR: 'it returns false'. Refute it at one input. -/
def lockFairWrong : ChangeSpec := { name := "lockFair", fn := fun _ => fun
  | [d1, d2] => { results := [.lit (.bool false)], args := [d1, d2] }
  | _ => none }
def LockFairWrongFalsely : Prop := lockFairRow.holds Try.pinned (OpenSpec.ofChange lockFairWrong)

/-- 'bulkheadlaw17.LockExact': WHATEVER THE INPUT: true; the input reads as it did. -/
def lockExactSpec : ChangeSpec := { name := "lockExact", fn := fun _ => fun
  | [d] => { results := [.lit (.bool true)], args := [d] }
  | _ => none }
def lockExactRow : OpenClaim := { program := "ythemlddepepekaa", sum := "379d0c5fe157ada5c265155f45fc34132cc5b36b3137576ff9f288da8de81436", func := "bulkhead/bulkheadlaw17.LockExact", spec := "lockExact", apart := false }
def LockExactSaid : Prop := lockExactRow.holds Try.pinned (OpenSpec.ofChange lockExactSpec)

/-- ITS FALSE NEIGHBOUR: 'it returns false'. Refute it at one input. -/
def lockExactWrong : ChangeSpec := { name := "lockExact", fn := fun _ => fun
  | [d] => { results := [.lit (.bool false)], args := [d] }
  | _ => none }
def LockExactWrongFalsely : Prop := lockExactRow.holds Try.pinned (OpenSpec.ofChange lockExactWrong)

/-- 'bulkheadlaw17.LockAgain': WHATEVER THE INPUT: true; the input reads as it did. -/
def lockAgainSpec : ChangeSpec := { name := "lockAgain", fn := fun _ => fun
  | [d] => { results := [.lit (.bool true)], args := [d] }
  | _ => none }
def lockAgainRow : OpenClaim := { program := "ythemlddepepekaa", sum := "379d0c5fe157ada5c265155f45fc34132cc5b36b3137576ff9f288da8de81436", func := "bulkhead/bulkheadlaw17.LockAgain", spec := "lockAgain", apart := false }
def LockAgainSaid : Prop := lockAgainRow.holds Try.pinned (OpenSpec.ofChange lockAgainSpec)

/-- ITS FALSE NEIGHBOUR: 'it returns false'. Refute it at one input. -/
def lockAgainWrong : ChangeSpec := { name := "lockAgain", fn := fun _ => fun
  | [d] => { results := [.lit (.bool false)], args := [d] }
  | _ => none }
def LockAgainWrongFalsely : Prop := lockAgainRow.holds Try.pinned (OpenSpec.ofChange lockAgainWrong)

/- THE SECOND FORM. 'bulk': how many values and letters a reading holds, each counted each time it is reached (what is shared counts as often as it is met; a slice's spare places count too). A statement '..UptoSaid' is the law's where the arguments, and the package variables that the reading takes, are together of bulk at most 1048576: NARROWER than '..Said'. Prove '..Said' where nothing that the law and all that it calls make is longer than what came in: it says more and counts as full. Else prove '..UptoSaid'. A law counts once. -/
mutual
def uptoBulk {H : Type} : DataW H → Nat
  | .lit (.string bytes) => bytes.length + 1
  | .lit _ => 1
  | .nil => 1
  | .ptr d => uptoBulk d + 1
  | .slice elems spare => uptoBulkAll elems + uptoBulkAll spare + 1
  | .agg parts => uptoBulkAll parts + 1
  | .iface _ d => uptoBulk d + 1
  | .map entries => uptoBulkEntries entries + 1
  | .held _ => 1
def uptoBulkAll {H : Type} : List (DataW H) → Nat
  | [] => 0
  | d :: r => uptoBulk d + uptoBulkAll r
def uptoBulkEntries {H : Type} : List (Lit × DataW H) → Nat
  | [] => 0
  | x :: r => uptoBulkEntry x + uptoBulkEntries r
def uptoBulkEntry {H : Type} : Lit × DataW H → Nat
  | (.string bytes, d) => bytes.length + uptoBulk d + 1
  | (_, d) => uptoBulk d + 1
 end
def uptoSmall : (H : Type) → List (DataW H) → Bool := fun _ ds => decide (uptoBulkAll ds ≤ 1048576)
def OpenSpec.upto (s : _root_.Go.ChangeSpec) : _root_.Go.OpenSpec := { _root_.Go.OpenSpec.ofChange s with cond := some uptoSmall }

/-- 'bulkheadlaw17.LockNames', WHERE WHAT IT READS IS OF BULK AT MOST 1048576: true; the input reads as it did. -/
def lockNamesUptoRow : OpenClaim := { program := "ythemlddepepekaa", sum := "379d0c5fe157ada5c265155f45fc34132cc5b36b3137576ff9f288da8de81436", func := "bulkhead/bulkheadlaw17.LockNames", spec := "lockNames", apart := false, narrowed := true }
def LockNamesUptoSaid : Prop := lockNamesUptoRow.holds Try.pinned (OpenSpec.upto lockNamesSpec)

/-- 'bulkheadlaw17.LockFair', WHERE WHAT IT READS IS OF BULK AT MOST 1048576: true; the input reads as it did. -/
def lockFairUptoRow : OpenClaim := { program := "ythemlddepepekaa", sum := "379d0c5fe157ada5c265155f45fc34132cc5b36b3137576ff9f288da8de81436", func := "bulkhead/bulkheadlaw17.LockFair", spec := "lockFair", apart := false, narrowed := true }
def LockFairUptoSaid : Prop := lockFairUptoRow.holds Try.pinned (OpenSpec.upto lockFairSpec)

/-- 'bulkheadlaw17.LockExact', WHERE WHAT IT READS IS OF BULK AT MOST 1048576: true; the input reads as it did. -/
def lockExactUptoRow : OpenClaim := { program := "ythemlddepepekaa", sum := "379d0c5fe157ada5c265155f45fc34132cc5b36b3137576ff9f288da8de81436", func := "bulkhead/bulkheadlaw17.LockExact", spec := "lockExact", apart := false, narrowed := true }
def LockExactUptoSaid : Prop := lockExactUptoRow.holds Try.pinned (OpenSpec.upto lockExactSpec)

/-- 'bulkheadlaw17.LockAgain', WHERE WHAT IT READS IS OF BULK AT MOST 1048576: true; the input reads as it did. -/
def lockAgainUptoRow : OpenClaim := { program := "ythemlddepepekaa", sum := "379d0c5fe157ada5c265155f45fc34132cc5b36b3137576ff9f288da8de81436", func := "bulkhead/bulkheadlaw17.LockAgain", spec := "lockAgain", apart := false, narrowed := true }
def LockAgainUptoSaid : Prop := lockAgainUptoRow.holds Try.pinned (OpenSpec.upto lockAgainSpec)

end Rows
end Go.Proofs.Ythemlddepepekaa
