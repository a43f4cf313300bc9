/-
  No cell of these rows narrows 'for every input' (looked for: loops, veiled, ifaces, maps, wideKeys, modest, calm, conditions, laid).
  DERIVED. THE GIVEN ROWS OF THIS SEAT. 6 by the template 'for every input the law returns true; each argument reads behind the call as it read before'; 0 by the template 'total and deterministic' (their statements: YtnkmhhjldfapdaaTotals.lean).
  GIVEN WITH THE SEED: the statements are not yours to turn. If you find one false, say at which input.
  Laid BY PROGRAM, IN A SANDBOX (cutbox-rows.mjs): the forced cells as the released guide's own fill.sh prints them over the translation afe10c1266d8fd2a… (all of the seat's roots in one cut). By AI agents, Wed Nov 11 2026. No macro, syntax, notation, axiom, sorry.
-/
import Derived.Test.YtnkmhhjldfapdaaChecked
import GoSem.Claim
import GoSem.ClaimJoined
import GoSem.ClaimMapViews
import Derived.JoinedTies
import Derived.KernelRfl
namespace Go.Proofs.Ytnkmhhjldfapdaa
/- THE CELL 'sum', in the pinned program and in every row, IS THE sha256 OF THE DUMP (.gsa) THAT YtnkmhhjldfapdaaProg.lean LOADS. Nothing in Lean hashes anything: it is a label: what it is worth is what the hold of that sum in a sandbox is worth. -/
noncomputable def Try.pinned : Pinned := { name := "ytnkmhhjldfapdaa", sum := "afe10c1266d8fd2a9363f4932c6e26e451f9a816c55ceb4a894b0e61a12954f9", checked := Try.checked }
namespace Rows
def none {H : Type} : Left H := { results := [], args := [] }

/-- 'bulkheadlaw01.BitsNames': WHATEVER THE INPUT: true; the input reads as it did. -/
def bitsNamesSpec : ChangeSpec := { name := "bitsNames", fn := fun _ => fun
  | [] => { results := [.lit (.bool true)], args := [] }
  | _ => none }
def bitsNamesRow : OpenClaim := { program := "ytnkmhhjldfapdaa", sum := "afe10c1266d8fd2a9363f4932c6e26e451f9a816c55ceb4a894b0e61a12954f9", func := "bulkhead/bulkheadlaw01.BitsNames", spec := "bitsNames", apart := false }
def BitsNamesSaid : Prop := bitsNamesRow.holds Try.pinned (OpenSpec.ofChange bitsNamesSpec)

/-- ITS FALSE NEIGHBOUR: 'it returns false'. Refute it at one input. -/
def bitsNamesWrong : ChangeSpec := { name := "bitsNames", fn := fun _ => fun
  | [] => { results := [.lit (.bool false)], args := [] }
  | _ => none }
def BitsNamesWrongFalsely : Prop := bitsNamesRow.holds Try.pinned (OpenSpec.ofChange bitsNamesWrong)

/-- 'bulkheadlaw01.BitsFields': WHATEVER THE INPUT: true; the input reads as it did. -/
def bitsFieldsSpec : ChangeSpec := { name := "bitsFields", fn := fun _ => fun
  | [d] => { results := [.lit (.bool true)], args := [d] }
  | _ => none }
def bitsFieldsRow : OpenClaim := { program := "ytnkmhhjldfapdaa", sum := "afe10c1266d8fd2a9363f4932c6e26e451f9a816c55ceb4a894b0e61a12954f9", func := "bulkhead/bulkheadlaw01.BitsFields", spec := "bitsFields", apart := false }
def BitsFieldsSaid : Prop := bitsFieldsRow.holds Try.pinned (OpenSpec.ofChange bitsFieldsSpec)

/-- ITS FALSE NEIGHBOUR: 'it returns false'. Refute it at one input. -/
def bitsFieldsWrong : ChangeSpec := { name := "bitsFields", fn := fun _ => fun
  | [d] => { results := [.lit (.bool false)], args := [d] }
  | _ => none }
def BitsFieldsWrongFalsely : Prop := bitsFieldsRow.holds Try.pinned (OpenSpec.ofChange bitsFieldsWrong)

/-- 'bulkheadlaw01.BitsSigned': WHATEVER THE INPUT: true; the input reads as it did. -/
def bitsSignedSpec : ChangeSpec := { name := "bitsSigned", fn := fun _ => fun
  | [d1, d2, d3] => { results := [.lit (.bool true)], args := [d1, d2, d3] }
  | _ => none }
def bitsSignedRow : OpenClaim := { program := "ytnkmhhjldfapdaa", sum := "afe10c1266d8fd2a9363f4932c6e26e451f9a816c55ceb4a894b0e61a12954f9", func := "bulkhead/bulkheadlaw01.BitsSigned", spec := "bitsSigned", apart := false }
def BitsSignedSaid : Prop := bitsSignedRow.holds Try.pinned (OpenSpec.ofChange bitsSignedSpec)

/-- ITS FALSE NEIGHBOUR: 'it returns false'. Refute it at one input. -/
def bitsSignedWrong : ChangeSpec := { name := "bitsSigned", fn := fun _ => fun
  | [d1, d2, d3] => { results := [.lit (.bool false)], args := [d1, d2, d3] }
  | _ => none }
def BitsSignedWrongFalsely : Prop := bitsSignedRow.holds Try.pinned (OpenSpec.ofChange bitsSignedWrong)

/-- 'bulkheadlaw01.BitsSum': WHATEVER THE INPUT: true; the input reads as it did. -/
def bitsSumSpec : ChangeSpec := { name := "bitsSum", fn := fun _ => fun
  | [d1, d2, d3] => { results := [.lit (.bool true)], args := [d1, d2, d3] }
  | _ => none }
def bitsSumRow : OpenClaim := { program := "ytnkmhhjldfapdaa", sum := "afe10c1266d8fd2a9363f4932c6e26e451f9a816c55ceb4a894b0e61a12954f9", func := "bulkhead/bulkheadlaw01.BitsSum", spec := "bitsSum", apart := false }
def BitsSumSaid : Prop := bitsSumRow.holds Try.pinned (OpenSpec.ofChange bitsSumSpec)

/-- ITS FALSE NEIGHBOUR: 'it returns false'. Refute it at one input. -/
def bitsSumWrong : ChangeSpec := { name := "bitsSum", fn := fun _ => fun
  | [d1, d2, d3] => { results := [.lit (.bool false)], args := [d1, d2, d3] }
  | _ => none }
def BitsSumWrongFalsely : Prop := bitsSumRow.holds Try.pinned (OpenSpec.ofChange bitsSumWrong)

/-- 'bulkheadlaw01.BitsExact': WHATEVER THE INPUT: true; the input reads as it did. -/
def bitsExactSpec : ChangeSpec := { name := "bitsExact", fn := fun _ => fun
  | [d] => { results := [.lit (.bool true)], args := [d] }
  | _ => none }
def bitsExactRow : OpenClaim := { program := "ytnkmhhjldfapdaa", sum := "afe10c1266d8fd2a9363f4932c6e26e451f9a816c55ceb4a894b0e61a12954f9", func := "bulkhead/bulkheadlaw01.BitsExact", spec := "bitsExact", apart := false }
def BitsExactSaid : Prop := bitsExactRow.holds Try.pinned (OpenSpec.ofChange bitsExactSpec)

/-- ITS FALSE NEIGHBOUR: 'it returns false'. Refute it at one input. -/
def bitsExactWrong : ChangeSpec := { name := "bitsExact", fn := fun _ => fun
  | [d] => { results := [.lit (.bool false)], args := [d] }
  | _ => none }
def BitsExactWrongFalsely : Prop := bitsExactRow.holds Try.pinned (OpenSpec.ofChange bitsExactWrong)

/-- 'bulkheadlaw01.BitsBack': WHATEVER THE INPUT: true; the input reads as it did. -/
def bitsBackSpec : ChangeSpec := { name := "bitsBack", fn := fun _ => fun
  | [d1, d2, d3] => { results := [.lit (.bool true)], args := [d1, d2, d3] }
  | _ => none }
def bitsBackRow : OpenClaim := { program := "ytnkmhhjldfapdaa", sum := "afe10c1266d8fd2a9363f4932c6e26e451f9a816c55ceb4a894b0e61a12954f9", func := "bulkhead/bulkheadlaw01.BitsBack", spec := "bitsBack", apart := false }
def BitsBackSaid : Prop := bitsBackRow.holds Try.pinned (OpenSpec.ofChange bitsBackSpec)

/-- ITS FALSE NEIGHBOUR: 'it returns false'. Refute it at one input. -/
def bitsBackWrong : ChangeSpec := { name := "bitsBack", fn := fun _ => fun
  | [d1, d2, d3] => { results := [.lit (.bool false)], args := [d1, d2, d3] }
  | _ => none }
def BitsBackWrongFalsely : Prop := bitsBackRow.holds Try.pinned (OpenSpec.ofChange bitsBackWrong)

/- THE SECOND FORM. 'bulk': how many values and letters a reading holds, each counted each time it is reached (what is shared counts as often as it is met; a slice's spare places count too). A statement '..UptoSaid' is the law's where the arguments, and the package variables that the reading takes, are together of bulk at most 1048576: NARROWER than '..Said'. Prove '..Said' where nothing that the law and all that it calls make is longer than what came in: it says more and counts as full. Else prove '..UptoSaid'. A law counts once. -/
mutual
def uptoBulk {H : Type} : DataW H → Nat
  | .lit (.string bytes) => bytes.length + 1
  | .lit _ => 1
  | .nil => 1
  | .ptr d => uptoBulk d + 1
  | .slice elems spare => uptoBulkAll elems + uptoBulkAll spare + 1
  | .agg parts => uptoBulkAll parts + 1
  | .iface _ d => uptoBulk d + 1
  | .map entries => uptoBulkEntries entries + 1
  | .held _ => 1
def uptoBulkAll {H : Type} : List (DataW H) → Nat
  | [] => 0
  | d :: r => uptoBulk d + uptoBulkAll r
def uptoBulkEntries {H : Type} : List (Lit × DataW H) → Nat
  | [] => 0
  | x :: r => uptoBulkEntry x + uptoBulkEntries r
def uptoBulkEntry {H : Type} : Lit × DataW H → Nat
  | (.string bytes, d) => bytes.length + uptoBulk d + 1
  | (_, d) => uptoBulk d + 1
 end
def uptoSmall : (H : Type) → List (DataW H) → Bool := fun _ ds => decide (uptoBulkAll ds ≤ 1048576)
def OpenSpec.upto (s : _root_.Go.ChangeSpec) : _root_.Go.OpenSpec := { _root_.Go.OpenSpec.ofChange s with cond := some uptoSmall }

/-- 'bulkheadlaw01.BitsNames', WHERE WHAT IT READS IS OF BULK AT MOST 1048576: true; the input reads as it did. -/
def bitsNamesUptoRow : OpenClaim := { program := "ytnkmhhjldfapdaa", sum := "afe10c1266d8fd2a9363f4932c6e26e451f9a816c55ceb4a894b0e61a12954f9", func := "bulkhead/bulkheadlaw01.BitsNames", spec := "bitsNames", apart := false, narrowed := true }
def BitsNamesUptoSaid : Prop := bitsNamesUptoRow.holds Try.pinned (OpenSpec.upto bitsNamesSpec)

/-- 'bulkheadlaw01.BitsFields', WHERE WHAT IT READS IS OF BULK AT MOST 1048576: true; the input reads as it did. -/
def bitsFieldsUptoRow : OpenClaim := { program := "ytnkmhhjldfapdaa", sum := "afe10c1266d8fd2a9363f4932c6e26e451f9a816c55ceb4a894b0e61a12954f9", func := "bulkhead/bulkheadlaw01.BitsFields", spec := "bitsFields", apart := false, narrowed := true }
def BitsFieldsUptoSaid : Prop := bitsFieldsUptoRow.holds Try.pinned (OpenSpec.upto bitsFieldsSpec)

/-- 'bulkheadlaw01.BitsSigned', WHERE WHAT IT READS IS OF BULK AT MOST 1048576: true; the input reads as it did. -/
def bitsSignedUptoRow : OpenClaim := { program := "ytnkmhhjldfapdaa", sum := "afe10c1266d8fd2a9363f4932c6e26e451f9a816c55ceb4a894b0e61a12954f9", func := "bulkhead/bulkheadlaw01.BitsSigned", spec := "bitsSigned", apart := false, narrowed := true }
def BitsSignedUptoSaid : Prop := bitsSignedUptoRow.holds Try.pinned (OpenSpec.upto bitsSignedSpec)

/-- 'bulkheadlaw01.BitsSum', WHERE WHAT IT READS IS OF BULK AT MOST 1048576: true; the input reads as it did. -/
def bitsSumUptoRow : OpenClaim := { program := "ytnkmhhjldfapdaa", sum := "afe10c1266d8fd2a9363f4932c6e26e451f9a816c55ceb4a894b0e61a12954f9", func := "bulkhead/bulkheadlaw01.BitsSum", spec := "bitsSum", apart := false, narrowed := true }
def BitsSumUptoSaid : Prop := bitsSumUptoRow.holds Try.pinned (OpenSpec.upto bitsSumSpec)

/-- 'bulkheadlaw01.BitsExact', WHERE WHAT IT READS IS OF BULK AT MOST 1048576: true; the input reads as it did. -/
def bitsExactUptoRow : OpenClaim := { program := "ytnkmhhjldfapdaa", sum := "afe10c1266d8fd2a9363f4932c6e26e451f9a816c55ceb4a894b0e61a12954f9", func := "bulkhead/bulkheadlaw01.BitsExact", spec := "bitsExact", apart := false, narrowed := true }
def BitsExactUptoSaid : Prop := bitsExactUptoRow.holds Try.pinned (OpenSpec.upto bitsExactSpec)

/-- 'bulkheadlaw01.BitsBack', WHERE WHAT IT READS IS OF BULK AT MOST 1048576: true; the input reads as it did. -/
def bitsBackUptoRow : OpenClaim := { program := "ytnkmhhjldfapdaa", sum := "afe10c1266d8fd2a9363f4932c6e26e451f9a816c55ceb4a894b0e61a12954f9", func := "bulkhead/bulkheadlaw01.BitsBack", spec := "bitsBack", apart := false, narrowed := true }
def BitsBackUptoSaid : Prop := bitsBackUptoRow.holds Try.pinned (OpenSpec.upto bitsBackSpec)

end Rows
end Go.Proofs.Ytnkmhhjldfapdaa
