/-
  No cell of these rows narrows 'for every input' (looked for: loops, veiled, ifaces, maps, wideKeys, modest, calm, conditions, laid).
  DERIVED. THE GIVEN ROWS OF THIS SEAT. 4 by the template 'for every input the law returns true; each argument reads behind the call as it read before'; 0 by the template 'total and deterministic' (their statements: YtoflbmjdpngdiaaTotals.lean).
  GIVEN WITH THE SEED: the statements are not yours to turn. If you find one false, say at which input.
  Laid BY PROGRAM, IN A SANDBOX (cutbox-rows.mjs): the forced cells as the released guide's own fill.sh prints them over the translation caa62f9c8c12aa86… (all of the seat's roots in one cut). By AI agents, Wed Nov 11 2026. No macro, syntax, notation, axiom, sorry.
-/
import Derived.Test.YtoflbmjdpngdiaaChecked
import GoSem.Claim
import GoSem.ClaimJoined
import GoSem.ClaimMapViews
import Derived.JoinedTies
import Derived.KernelRfl
namespace Go.Proofs.Ytoflbmjdpngdiaa
/- THE CELL 'sum', in the pinned program and in every row, IS THE sha256 OF THE DUMP (.gsa) THAT YtoflbmjdpngdiaaProg.lean LOADS. Nothing in Lean hashes anything: it is a label: what it is worth is what the hold of that sum in a sandbox is worth. -/
noncomputable def Try.pinned : Pinned := { name := "ytoflbmjdpngdiaa", sum := "caa62f9c8c12aa864825af6cee895ae738c972172313d17b40f72f242b1e9c97", checked := Try.checked }
namespace Rows
def none {H : Type} : Left H := { results := [], args := [] }

/-- 'bulkheadlaw18.BarrierNames': WHATEVER THE INPUT: true; the input reads as it did. -/
def barrierNamesSpec : ChangeSpec := { name := "barrierNames", fn := fun _ => fun
  | [] => { results := [.lit (.bool true)], args := [] }
  | _ => none }
def barrierNamesRow : OpenClaim := { program := "ytoflbmjdpngdiaa", sum := "caa62f9c8c12aa864825af6cee895ae738c972172313d17b40f72f242b1e9c97", func := "bulkhead/bulkheadlaw18.BarrierNames", spec := "barrierNames", apart := false }
def BarrierNamesSaid : Prop := barrierNamesRow.holds Try.pinned (OpenSpec.ofChange barrierNamesSpec)

/-- ITS FALSE NEIGHBOUR: 'it returns false'. Refute it at one input. -/
def barrierNamesWrong : ChangeSpec := { name := "barrierNames", fn := fun _ => fun
  | [] => { results := [.lit (.bool false)], args := [] }
  | _ => none }
def BarrierNamesWrongFalsely : Prop := barrierNamesRow.holds Try.pinned (OpenSpec.ofChange barrierNamesWrong)

/-- 'bulkheadlaw18.BarrierMeets': WHATEVER THE INPUT: true; the input reads as it did. -/
def barrierMeetsSpec : ChangeSpec := { name := "barrierMeets", fn := fun _ => fun
  | [d1, d2, d3] => { results := [.lit (.bool true)], args := [d1, d2, d3] }
  | _ => none }
def barrierMeetsRow : OpenClaim := { program := "ytoflbmjdpngdiaa", sum := "caa62f9c8c12aa864825af6cee895ae738c972172313d17b40f72f242b1e9c97", func := "bulkhead/bulkheadlaw18.BarrierMeets", spec := "barrierMeets", apart := false }
def BarrierMeetsSaid : Prop := barrierMeetsRow.holds Try.pinned (OpenSpec.ofChange barrierMeetsSpec)

/-- ITS FALSE NEIGHBOUR: 'it returns false'. Refute it at one input. -/
def barrierMeetsWrong : ChangeSpec := { name := "barrierMeets", fn := fun _ => fun
  | [d1, d2, d3] => { results := [.lit (.bool false)], args := [d1, d2, d3] }
  | _ => none }
def BarrierMeetsWrongFalsely : Prop := barrierMeetsRow.holds Try.pinned (OpenSpec.ofChange barrierMeetsWrong)

/-- 'bulkheadlaw18.BarrierPlays': WHATEVER THE INPUT: true; the input reads as it did. -/
def barrierPlaysSpec : ChangeSpec := { name := "barrierPlays", fn := fun _ => fun
  | [d1, d2] => { results := [.lit (.bool true)], args := [d1, d2] }
  | _ => none }
def barrierPlaysRow : OpenClaim := { program := "ytoflbmjdpngdiaa", sum := "caa62f9c8c12aa864825af6cee895ae738c972172313d17b40f72f242b1e9c97", func := "bulkhead/bulkheadlaw18.BarrierPlays", spec := "barrierPlays", apart := false }
def BarrierPlaysSaid : Prop := barrierPlaysRow.holds Try.pinned (OpenSpec.ofChange barrierPlaysSpec)

/-- ITS FALSE NEIGHBOUR: 'it returns false'. Refute it at one input. -/
def barrierPlaysWrong : ChangeSpec := { name := "barrierPlays", fn := fun _ => fun
  | [d1, d2] => { results := [.lit (.bool false)], args := [d1, d2] }
  | _ => none }
def BarrierPlaysWrongFalsely : Prop := barrierPlaysRow.holds Try.pinned (OpenSpec.ofChange barrierPlaysWrong)

/-- 'bulkheadlaw18.BarrierOthers': WHATEVER THE INPUT: true; the input reads as it did. -/
def barrierOthersSpec : ChangeSpec := { name := "barrierOthers", fn := fun _ => fun
  | [d1, d2] => { results := [.lit (.bool true)], args := [d1, d2] }
  | _ => none }
def barrierOthersRow : OpenClaim := { program := "ytoflbmjdpngdiaa", sum := "caa62f9c8c12aa864825af6cee895ae738c972172313d17b40f72f242b1e9c97", func := "bulkhead/bulkheadlaw18.BarrierOthers", spec := "barrierOthers", apart := false }
def BarrierOthersSaid : Prop := barrierOthersRow.holds Try.pinned (OpenSpec.ofChange barrierOthersSpec)

/-- ITS FALSE NEIGHBOUR: 'it returns false'. Refute it at one input. -/
def barrierOthersWrong : ChangeSpec := { name := "barrierOthers", fn := fun _ => fun
  | [d1, d2] => { results := [.lit (.bool false)], args := [d1, d2] }
  | _ => none }
def BarrierOthersWrongFalsely : Prop := barrierOthersRow.holds Try.pinned (OpenSpec.ofChange barrierOthersWrong)

/- THE SECOND FORM. 'bulk': how many values and letters a reading holds, each counted each time it is reached (what is shared counts as often as it is met; a slice's spare places count too). A statement '..UptoSaid' is the law's where the arguments, and the package variables that the reading takes, are together of bulk at most 1048576: NARROWER than '..Said'. Prove '..Said' where nothing that the law and all that it calls make is longer than what came in: it says more and counts as full. Else prove '..UptoSaid'. A law counts once. -/
mutual
def uptoBulk {H : Type} : DataW H → Nat
  | .lit (.string bytes) => bytes.length + 1
  | .lit _ => 1
  | .nil => 1
  | .ptr d => uptoBulk d + 1
  | .slice elems spare => uptoBulkAll elems + uptoBulkAll spare + 1
  | .agg parts => uptoBulkAll parts + 1
  | .iface _ d => uptoBulk d + 1
  | .map entries => uptoBulkEntries entries + 1
  | .held _ => 1
def uptoBulkAll {H : Type} : List (DataW H) → Nat
  | [] => 0
  | d :: r => uptoBulk d + uptoBulkAll r
def uptoBulkEntries {H : Type} : List (Lit × DataW H) → Nat
  | [] => 0
  | x :: r => uptoBulkEntry x + uptoBulkEntries r
def uptoBulkEntry {H : Type} : Lit × DataW H → Nat
  | (.string bytes, d) => bytes.length + uptoBulk d + 1
  | (_, d) => uptoBulk d + 1
 end
def uptoSmall : (H : Type) → List (DataW H) → Bool := fun _ ds => decide (uptoBulkAll ds ≤ 1048576)
def OpenSpec.upto (s : _root_.Go.ChangeSpec) : _root_.Go.OpenSpec := { _root_.Go.OpenSpec.ofChange s with cond := some uptoSmall }

/-- 'bulkheadlaw18.BarrierNames', WHERE WHAT IT READS IS OF BULK AT MOST 1048576: true; the input reads as it did. -/
def barrierNamesUptoRow : OpenClaim := { program := "ytoflbmjdpngdiaa", sum := "caa62f9c8c12aa864825af6cee895ae738c972172313d17b40f72f242b1e9c97", func := "bulkhead/bulkheadlaw18.BarrierNames", spec := "barrierNames", apart := false, narrowed := true }
def BarrierNamesUptoSaid : Prop := barrierNamesUptoRow.holds Try.pinned (OpenSpec.upto barrierNamesSpec)

/-- 'bulkheadlaw18.BarrierMeets', WHERE WHAT IT READS IS OF BULK AT MOST 1048576: true; the input reads as it did. -/
def barrierMeetsUptoRow : OpenClaim := { program := "ytoflbmjdpngdiaa", sum := "caa62f9c8c12aa864825af6cee895ae738c972172313d17b40f72f242b1e9c97", func := "bulkhead/bulkheadlaw18.BarrierMeets", spec := "barrierMeets", apart := false, narrowed := true }
def BarrierMeetsUptoSaid : Prop := barrierMeetsUptoRow.holds Try.pinned (OpenSpec.upto barrierMeetsSpec)

/-- 'bulkheadlaw18.BarrierPlays', WHERE WHAT IT READS IS OF BULK AT MOST 1048576: true; the input reads as it did. -/
def barrierPlaysUptoRow : OpenClaim := { program := "ytoflbmjdpngdiaa", sum := "caa62f9c8c12aa864825af6cee895ae738c972172313d17b40f72f242b1e9c97", func := "bulkhead/bulkheadlaw18.BarrierPlays", spec := "barrierPlays", apart := false, narrowed := true }
def BarrierPlaysUptoSaid : Prop := barrierPlaysUptoRow.holds Try.pinned (OpenSpec.upto barrierPlaysSpec)

/-- 'bulkheadlaw18.BarrierOthers', WHERE WHAT IT READS IS OF BULK AT MOST 1048576: true; the input reads as it did. -/
def barrierOthersUptoRow : OpenClaim := { program := "ytoflbmjdpngdiaa", sum := "caa62f9c8c12aa864825af6cee895ae738c972172313d17b40f72f242b1e9c97", func := "bulkhead/bulkheadlaw18.BarrierOthers", spec := "barrierOthers", apart := false, narrowed := true }
def BarrierOthersUptoSaid : Prop := barrierOthersUptoRow.holds Try.pinned (OpenSpec.upto barrierOthersSpec)

end Rows
end Go.Proofs.Ytoflbmjdpngdiaa
