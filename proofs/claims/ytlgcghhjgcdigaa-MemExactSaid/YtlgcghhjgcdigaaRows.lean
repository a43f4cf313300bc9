/-
  No cell of these rows narrows 'for every input' (looked for: loops, veiled, ifaces, maps, wideKeys, modest, calm, conditions, laid).
  DERIVED. THE GIVEN ROWS OF THIS SEAT. 5 by the template 'for every input the law returns true; each argument reads behind the call as it read before'; 0 by the template 'total and deterministic' (their statements: YtlgcghhjgcdigaaTotals.lean).
  GIVEN WITH THE SEED: the statements are not yours to turn. If you find one false, say at which input.
  Laid BY PROGRAM, IN A SANDBOX (cutbox-rows.mjs): the forced cells as the released guide's own fill.sh prints them over the translation 716f7afdde4ea47a… (all of the seat's roots in one cut). By AI agents, Wed Nov 11 2026. No macro, syntax, notation, axiom, sorry.
-/
import Derived.Test.YtlgcghhjgcdigaaChecked
import GoSem.Claim
import GoSem.ClaimJoined
import GoSem.ClaimMapViews
import Derived.JoinedTies
import Derived.KernelRfl
namespace Go.Proofs.Ytlgcghhjgcdigaa
/- THE CELL 'sum', in the pinned program and in every row, IS THE sha256 OF THE DUMP (.gsa) THAT YtlgcghhjgcdigaaProg.lean LOADS. Nothing in Lean hashes anything: it is a label: what it is worth is what the hold of that sum in a sandbox is worth. -/
noncomputable def Try.pinned : Pinned := { name := "ytlgcghhjgcdigaa", sum := "716f7afdde4ea47a7030563c011ae13b1b293bf9833ccee931f1cc9813ba463e", checked := Try.checked }
namespace Rows
def none {H : Type} : Left H := { results := [], args := [] }

/-- 'bulkheadlaw05.MemNames': WHATEVER THE INPUT: true; the input reads as it did. -/
def memNamesSpec : ChangeSpec := { name := "memNames", fn := fun _ => fun
  | [] => { results := [.lit (.bool true)], args := [] }
  | _ => none }
def memNamesRow : OpenClaim := { program := "ytlgcghhjgcdigaa", sum := "716f7afdde4ea47a7030563c011ae13b1b293bf9833ccee931f1cc9813ba463e", func := "bulkhead/bulkheadlaw05.MemNames", spec := "memNames", apart := false }
def MemNamesSaid : Prop := memNamesRow.holds Try.pinned (OpenSpec.ofChange memNamesSpec)

/-- ITS FALSE NEIGHBOUR: 'it returns false'. Refute it at one input. -/
def memNamesWrong : ChangeSpec := { name := "memNames", fn := fun _ => fun
  | [] => { results := [.lit (.bool false)], args := [] }
  | _ => none }
def MemNamesWrongFalsely : Prop := memNamesRow.holds Try.pinned (OpenSpec.ofChange memNamesWrong)

/-- 'bulkheadlaw05.MemDiffer': WHATEVER THE INPUT: true; the input reads as it did. -/
def memDifferSpec : ChangeSpec := { name := "memDiffer", fn := fun _ => fun
  | [d1, d2] => { results := [.lit (.bool true)], args := [d1, d2] }
  | _ => none }
def memDifferRow : OpenClaim := { program := "ytlgcghhjgcdigaa", sum := "716f7afdde4ea47a7030563c011ae13b1b293bf9833ccee931f1cc9813ba463e", func := "bulkhead/bulkheadlaw05.MemDiffer", spec := "memDiffer", unfollowed := true, recurses := true, apart := false }
def MemDifferSaid : Prop := memDifferRow.holds Try.pinned (OpenSpec.ofChange memDifferSpec)

/-- ITS FALSE NEIGHBOUR: 'it returns false'. Refute it at one input. -/
def memDifferWrong : ChangeSpec := { name := "memDiffer", fn := fun _ => fun
  | [d1, d2] => { results := [.lit (.bool false)], args := [d1, d2] }
  | _ => none }
def MemDifferWrongFalsely : Prop := memDifferRow.holds Try.pinned (OpenSpec.ofChange memDifferWrong)

/-- 'bulkheadlaw05.MemLive': WHATEVER THE INPUT: true; the input reads as it did. -/
def memLiveSpec : ChangeSpec := { name := "memLive", fn := fun _ => fun
  | [d1, d2, d3] => { results := [.lit (.bool true)], args := [d1, d2, d3] }
  | _ => none }
def memLiveRow : OpenClaim := { program := "ytlgcghhjgcdigaa", sum := "716f7afdde4ea47a7030563c011ae13b1b293bf9833ccee931f1cc9813ba463e", func := "bulkhead/bulkheadlaw05.MemLive", spec := "memLive", unfollowed := true, recurses := true, apart := false }
def MemLiveSaid : Prop := memLiveRow.holds Try.pinned (OpenSpec.ofChange memLiveSpec)

/-- ITS FALSE NEIGHBOUR: 'it returns false'. Refute it at one input. -/
def memLiveWrong : ChangeSpec := { name := "memLive", fn := fun _ => fun
  | [d1, d2, d3] => { results := [.lit (.bool false)], args := [d1, d2, d3] }
  | _ => none }
def MemLiveWrongFalsely : Prop := memLiveRow.holds Try.pinned (OpenSpec.ofChange memLiveWrong)

/-- 'bulkheadlaw05.MemKept': WHATEVER THE INPUT: true; the input reads as it did. -/
def memKeptSpec : ChangeSpec := { name := "memKept", fn := fun _ => fun
  | [d1, d2] => { results := [.lit (.bool true)], args := [d1, d2] }
  | _ => none }
def memKeptRow : OpenClaim := { program := "ytlgcghhjgcdigaa", sum := "716f7afdde4ea47a7030563c011ae13b1b293bf9833ccee931f1cc9813ba463e", func := "bulkhead/bulkheadlaw05.MemKept", spec := "memKept", apart := false }
def MemKeptSaid : Prop := memKeptRow.holds Try.pinned (OpenSpec.ofChange memKeptSpec)

/-- ITS FALSE NEIGHBOUR: 'it returns false'. Refute it at one input. -/
def memKeptWrong : ChangeSpec := { name := "memKept", fn := fun _ => fun
  | [d1, d2] => { results := [.lit (.bool false)], args := [d1, d2] }
  | _ => none }
def MemKeptWrongFalsely : Prop := memKeptRow.holds Try.pinned (OpenSpec.ofChange memKeptWrong)

/-- 'bulkheadlaw05.MemExact': WHATEVER THE INPUT: true; the input reads as it did. -/
def memExactSpec : ChangeSpec := { name := "memExact", fn := fun _ => fun
  | [d] => { results := [.lit (.bool true)], args := [d] }
  | _ => none }
def memExactRow : OpenClaim := { program := "ytlgcghhjgcdigaa", sum := "716f7afdde4ea47a7030563c011ae13b1b293bf9833ccee931f1cc9813ba463e", func := "bulkhead/bulkheadlaw05.MemExact", spec := "memExact", unfollowed := true, recurses := true, apart := false }
def MemExactSaid : Prop := memExactRow.holds Try.pinned (OpenSpec.ofChange memExactSpec)

/-- ITS FALSE NEIGHBOUR: 'it returns false'. Refute it at one input. -/
def memExactWrong : ChangeSpec := { name := "memExact", fn := fun _ => fun
  | [d] => { results := [.lit (.bool false)], args := [d] }
  | _ => none }
def MemExactWrongFalsely : Prop := memExactRow.holds Try.pinned (OpenSpec.ofChange memExactWrong)

/- THE SECOND FORM. 'bulk': how many values and letters a reading holds, each counted each time it is reached (what is shared counts as often as it is met; a slice's spare places count too). A statement '..UptoSaid' is the law's where the arguments, and the package variables that the reading takes, are together of bulk at most 1048576: NARROWER than '..Said'. Prove '..Said' where nothing that the law and all that it calls make is longer than what came in: it says more and counts as full. Else prove '..UptoSaid'. A law counts once. -/
mutual
def uptoBulk {H : Type} : DataW H → Nat
  | .lit (.string bytes) => bytes.length + 1
  | .lit _ => 1
  | .nil => 1
  | .ptr d => uptoBulk d + 1
  | .slice elems spare => uptoBulkAll elems + uptoBulkAll spare + 1
  | .agg parts => uptoBulkAll parts + 1
  | .iface _ d => uptoBulk d + 1
  | .map entries => uptoBulkEntries entries + 1
  | .held _ => 1
def uptoBulkAll {H : Type} : List (DataW H) → Nat
  | [] => 0
  | d :: r => uptoBulk d + uptoBulkAll r
def uptoBulkEntries {H : Type} : List (Lit × DataW H) → Nat
  | [] => 0
  | x :: r => uptoBulkEntry x + uptoBulkEntries r
def uptoBulkEntry {H : Type} : Lit × DataW H → Nat
  | (.string bytes, d) => bytes.length + uptoBulk d + 1
  | (_, d) => uptoBulk d + 1
 end
def uptoSmall : (H : Type) → List (DataW H) → Bool := fun _ ds => decide (uptoBulkAll ds ≤ 1048576)
def OpenSpec.upto (s : _root_.Go.ChangeSpec) : _root_.Go.OpenSpec := { _root_.Go.OpenSpec.ofChange s with cond := some uptoSmall }

/-- 'bulkheadlaw05.MemNames', WHERE WHAT IT READS IS OF BULK AT MOST 1048576: true; the input reads as it did. -/
def memNamesUptoRow : OpenClaim := { program := "ytlgcghhjgcdigaa", sum := "716f7afdde4ea47a7030563c011ae13b1b293bf9833ccee931f1cc9813ba463e", func := "bulkhead/bulkheadlaw05.MemNames", spec := "memNames", apart := false, narrowed := true }
def MemNamesUptoSaid : Prop := memNamesUptoRow.holds Try.pinned (OpenSpec.upto memNamesSpec)

/-- 'bulkheadlaw05.MemDiffer', WHERE WHAT IT READS IS OF BULK AT MOST 1048576: true; the input reads as it did. -/
def memDifferUptoRow : OpenClaim := { program := "ytlgcghhjgcdigaa", sum := "716f7afdde4ea47a7030563c011ae13b1b293bf9833ccee931f1cc9813ba463e", func := "bulkhead/bulkheadlaw05.MemDiffer", spec := "memDiffer", unfollowed := true, recurses := true, apart := false, narrowed := true }
def MemDifferUptoSaid : Prop := memDifferUptoRow.holds Try.pinned (OpenSpec.upto memDifferSpec)

/-- 'bulkheadlaw05.MemLive', WHERE WHAT IT READS IS OF BULK AT MOST 1048576: true; the input reads as it did. -/
def memLiveUptoRow : OpenClaim := { program := "ytlgcghhjgcdigaa", sum := "716f7afdde4ea47a7030563c011ae13b1b293bf9833ccee931f1cc9813ba463e", func := "bulkhead/bulkheadlaw05.MemLive", spec := "memLive", unfollowed := true, recurses := true, apart := false, narrowed := true }
def MemLiveUptoSaid : Prop := memLiveUptoRow.holds Try.pinned (OpenSpec.upto memLiveSpec)

/-- 'bulkheadlaw05.MemKept', WHERE WHAT IT READS IS OF BULK AT MOST 1048576: true; the input reads as it did. -/
def memKeptUptoRow : OpenClaim := { program := "ytlgcghhjgcdigaa", sum := "716f7afdde4ea47a7030563c011ae13b1b293bf9833ccee931f1cc9813ba463e", func := "bulkhead/bulkheadlaw05.MemKept", spec := "memKept", apart := false, narrowed := true }
def MemKeptUptoSaid : Prop := memKeptUptoRow.holds Try.pinned (OpenSpec.upto memKeptSpec)

/-- 'bulkheadlaw05.MemExact', WHERE WHAT IT READS IS OF BULK AT MOST 1048576: true; the input reads as it did. -/
def memExactUptoRow : OpenClaim := { program := "ytlgcghhjgcdigaa", sum := "716f7afdde4ea47a7030563c011ae13b1b293bf9833ccee931f1cc9813ba463e", func := "bulkhead/bulkheadlaw05.MemExact", spec := "memExact", unfollowed := true, recurses := true, apart := false, narrowed := true }
def MemExactUptoSaid : Prop := memExactUptoRow.holds Try.pinned (OpenSpec.upto memExactSpec)

end Rows
end Go.Proofs.Ytlgcghhjgcdigaa
