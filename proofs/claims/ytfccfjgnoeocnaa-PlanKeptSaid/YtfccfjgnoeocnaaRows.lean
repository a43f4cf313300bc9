/-
  No cell of these rows narrows 'for every input' (looked for: loops, veiled, ifaces, maps, wideKeys, modest, calm, conditions, laid).
  DERIVED. THE GIVEN ROWS OF THIS SEAT. 8 by the template 'for every input the law returns true; each argument reads behind the call as it read before'; 0 by the template 'total and deterministic' (their statements: YtfccfjgnoeocnaaTotals.lean).
  GIVEN WITH THE SEED: the statements are not yours to turn. If you find one false, say at which input.
  Laid BY PROGRAM, IN A SANDBOX (cutbox-rows.mjs): the forced cells as the released guide's own fill.sh prints them over the translation 39786d05e24a35f6… (all of the seat's roots in one cut). By AI agents, Wed Nov 11 2026. No macro, syntax, notation, axiom, sorry.
-/
import Derived.Test.YtfccfjgnoeocnaaChecked
import GoSem.Claim
import GoSem.ClaimJoined
import GoSem.ClaimMapViews
import Derived.JoinedTies
import Derived.KernelRfl
namespace Go.Proofs.Ytfccfjgnoeocnaa
/- THE CELL 'sum', in the pinned program and in every row, IS THE sha256 OF THE DUMP (.gsa) THAT YtfccfjgnoeocnaaProg.lean LOADS. Nothing in Lean hashes anything: it is a label: what it is worth is what the hold of that sum in a sandbox is worth. -/
noncomputable def Try.pinned : Pinned := { name := "ytfccfjgnoeocnaa", sum := "39786d05e24a35f6a3b95b6670b8ca30f31c70e3a048a73abe9eec005d0e80cf", checked := Try.checked }
namespace Rows
def none {H : Type} : Left H := { results := [], args := [] }

/-- 'bulkheadlaw14.PlanNames': WHATEVER THE INPUT: true; the input reads as it did. -/
def planNamesSpec : ChangeSpec := { name := "planNames", fn := fun _ => fun
  | [] => { results := [.lit (.bool true)], args := [] }
  | _ => none }
def planNamesRow : OpenClaim := { program := "ytfccfjgnoeocnaa", sum := "39786d05e24a35f6a3b95b6670b8ca30f31c70e3a048a73abe9eec005d0e80cf", func := "bulkhead/bulkheadlaw14.PlanNames", spec := "planNames", apart := false }
def PlanNamesSaid : Prop := planNamesRow.holds Try.pinned (OpenSpec.ofChange planNamesSpec)

/-- ITS FALSE NEIGHBOUR: 'it returns false'. Refute it at one input. -/
def planNamesWrong : ChangeSpec := { name := "planNames", fn := fun _ => fun
  | [] => { results := [.lit (.bool false)], args := [] }
  | _ => none }
def PlanNamesWrongFalsely : Prop := planNamesRow.holds Try.pinned (OpenSpec.ofChange planNamesWrong)

/-- 'bulkheadlaw14.PlanTimes': WHATEVER THE INPUT: true; the input reads as it did. -/
def planTimesSpec : ChangeSpec := { name := "planTimes", fn := fun _ => fun
  | [d1, d2, d3] => { results := [.lit (.bool true)], args := [d1, d2, d3] }
  | _ => none }
def planTimesRow : OpenClaim := { program := "ytfccfjgnoeocnaa", sum := "39786d05e24a35f6a3b95b6670b8ca30f31c70e3a048a73abe9eec005d0e80cf", func := "bulkhead/bulkheadlaw14.PlanTimes", spec := "planTimes", apart := false }
def PlanTimesSaid : Prop := planTimesRow.holds Try.pinned (OpenSpec.ofChange planTimesSpec)

/-- ITS FALSE NEIGHBOUR: 'it returns false'. Refute it at one input. -/
def planTimesWrong : ChangeSpec := { name := "planTimes", fn := fun _ => fun
  | [d1, d2, d3] => { results := [.lit (.bool false)], args := [d1, d2, d3] }
  | _ => none }
def PlanTimesWrongFalsely : Prop := planTimesRow.holds Try.pinned (OpenSpec.ofChange planTimesWrong)

/-- 'bulkheadlaw14.PlanTiles': WHATEVER THE INPUT: true; the input reads as it did. -/
def planTilesSpec : ChangeSpec := { name := "planTiles", fn := fun _ => fun
  | [d1, d2, d3] => { results := [.lit (.bool true)], args := [d1, d2, d3] }
  | _ => none }
def planTilesRow : OpenClaim := { program := "ytfccfjgnoeocnaa", sum := "39786d05e24a35f6a3b95b6670b8ca30f31c70e3a048a73abe9eec005d0e80cf", func := "bulkhead/bulkheadlaw14.PlanTiles", spec := "planTiles", apart := false }
def PlanTilesSaid : Prop := planTilesRow.holds Try.pinned (OpenSpec.ofChange planTilesSpec)

/-- ITS FALSE NEIGHBOUR: 'it returns false'. Refute it at one input. -/
def planTilesWrong : ChangeSpec := { name := "planTiles", fn := fun _ => fun
  | [d1, d2, d3] => { results := [.lit (.bool false)], args := [d1, d2, d3] }
  | _ => none }
def PlanTilesWrongFalsely : Prop := planTilesRow.holds Try.pinned (OpenSpec.ofChange planTilesWrong)

/-- 'bulkheadlaw14.PlanRounds': WHATEVER THE INPUT: true; the input reads as it did. -/
def planRoundsSpec : ChangeSpec := { name := "planRounds", fn := fun _ => fun
  | [d] => { results := [.lit (.bool true)], args := [d] }
  | _ => none }
def planRoundsRow : OpenClaim := { program := "ytfccfjgnoeocnaa", sum := "39786d05e24a35f6a3b95b6670b8ca30f31c70e3a048a73abe9eec005d0e80cf", func := "bulkhead/bulkheadlaw14.PlanRounds", spec := "planRounds", apart := false }
def PlanRoundsSaid : Prop := planRoundsRow.holds Try.pinned (OpenSpec.ofChange planRoundsSpec)

/-- ITS FALSE NEIGHBOUR: 'it returns false'. Refute it at one input. -/
def planRoundsWrong : ChangeSpec := { name := "planRounds", fn := fun _ => fun
  | [d] => { results := [.lit (.bool false)], args := [d] }
  | _ => none }
def PlanRoundsWrongFalsely : Prop := planRoundsRow.holds Try.pinned (OpenSpec.ofChange planRoundsWrong)

/-- 'bulkheadlaw14.PlanLists': WHATEVER THE INPUT: true; the input reads as it did. -/
def planListsSpec : ChangeSpec := { name := "planLists", fn := fun _ => fun
  | [d1, d2, d3] => { results := [.lit (.bool true)], args := [d1, d2, d3] }
  | _ => none }
def planListsRow : OpenClaim := { program := "ytfccfjgnoeocnaa", sum := "39786d05e24a35f6a3b95b6670b8ca30f31c70e3a048a73abe9eec005d0e80cf", func := "bulkhead/bulkheadlaw14.PlanLists", spec := "planLists", apart := false }
def PlanListsSaid : Prop := planListsRow.holds Try.pinned (OpenSpec.ofChange planListsSpec)

/-- ITS FALSE NEIGHBOUR: 'it returns false'. Refute it at one input. -/
def planListsWrong : ChangeSpec := { name := "planLists", fn := fun _ => fun
  | [d1, d2, d3] => { results := [.lit (.bool false)], args := [d1, d2, d3] }
  | _ => none }
def PlanListsWrongFalsely : Prop := planListsRow.holds Try.pinned (OpenSpec.ofChange planListsWrong)

/-- 'bulkheadlaw14.PlanApart': WHATEVER THE INPUT: true; the input reads as it did. -/
def planApartSpec : ChangeSpec := { name := "planApart", fn := fun _ => fun
  | [d1, d2] => { results := [.lit (.bool true)], args := [d1, d2] }
  | _ => none }
def planApartRow : OpenClaim := { program := "ytfccfjgnoeocnaa", sum := "39786d05e24a35f6a3b95b6670b8ca30f31c70e3a048a73abe9eec005d0e80cf", func := "bulkhead/bulkheadlaw14.PlanApart", spec := "planApart", apart := false }
def PlanApartSaid : Prop := planApartRow.holds Try.pinned (OpenSpec.ofChange planApartSpec)

/-- ITS FALSE NEIGHBOUR: 'it returns false'. Refute it at one input. -/
def planApartWrong : ChangeSpec := { name := "planApart", fn := fun _ => fun
  | [d1, d2] => { results := [.lit (.bool false)], args := [d1, d2] }
  | _ => none }
def PlanApartWrongFalsely : Prop := planApartRow.holds Try.pinned (OpenSpec.ofChange planApartWrong)

/-- 'bulkheadlaw14.PlanShares': WHATEVER THE INPUT: true; the input reads as it did. -/
def planSharesSpec : ChangeSpec := { name := "planShares", fn := fun _ => fun
  | [d1, d2] => { results := [.lit (.bool true)], args := [d1, d2] }
  | _ => none }
def planSharesRow : OpenClaim := { program := "ytfccfjgnoeocnaa", sum := "39786d05e24a35f6a3b95b6670b8ca30f31c70e3a048a73abe9eec005d0e80cf", func := "bulkhead/bulkheadlaw14.PlanShares", spec := "planShares", apart := false }
def PlanSharesSaid : Prop := planSharesRow.holds Try.pinned (OpenSpec.ofChange planSharesSpec)

/-- ITS FALSE NEIGHBOUR: 'it returns false'. Refute it at one input. -/
def planSharesWrong : ChangeSpec := { name := "planShares", fn := fun _ => fun
  | [d1, d2] => { results := [.lit (.bool false)], args := [d1, d2] }
  | _ => none }
def PlanSharesWrongFalsely : Prop := planSharesRow.holds Try.pinned (OpenSpec.ofChange planSharesWrong)

/-- 'bulkheadlaw14.PlanKept': WHATEVER THE INPUT: true; the input reads as it did. -/
def planKeptSpec : ChangeSpec := { name := "planKept", fn := fun _ => fun
  | [d1, d2, d3] => { results := [.lit (.bool true)], args := [d1, d2, d3] }
  | _ => none }
def planKeptRow : OpenClaim := { program := "ytfccfjgnoeocnaa", sum := "39786d05e24a35f6a3b95b6670b8ca30f31c70e3a048a73abe9eec005d0e80cf", func := "bulkhead/bulkheadlaw14.PlanKept", spec := "planKept", apart := false }
def PlanKeptSaid : Prop := planKeptRow.holds Try.pinned (OpenSpec.ofChange planKeptSpec)

/-- ITS FALSE NEIGHBOUR: 'it returns false'. Refute it at one input. -/
def planKeptWrong : ChangeSpec := { name := "planKept", fn := fun _ => fun
  | [d1, d2, d3] => { results := [.lit (.bool false)], args := [d1, d2, d3] }
  | _ => none }
def PlanKeptWrongFalsely : Prop := planKeptRow.holds Try.pinned (OpenSpec.ofChange planKeptWrong)

/- THE SECOND FORM. 'bulk': how many values and letters a reading holds, each counted each time it is reached (what is shared counts as often as it is met; a slice's spare places count too). A statement '..UptoSaid' is the law's where the arguments, and the package variables that the reading takes, are together of bulk at most 1048576: NARROWER than '..Said'. Prove '..Said' where nothing that the law and all that it calls make is longer than what came in: it says more and counts as full. Else prove '..UptoSaid'. A law counts once. -/
mutual
def uptoBulk {H : Type} : DataW H → Nat
  | .lit (.string bytes) => bytes.length + 1
  | .lit _ => 1
  | .nil => 1
  | .ptr d => uptoBulk d + 1
  | .slice elems spare => uptoBulkAll elems + uptoBulkAll spare + 1
  | .agg parts => uptoBulkAll parts + 1
  | .iface _ d => uptoBulk d + 1
  | .map entries => uptoBulkEntries entries + 1
  | .held _ => 1
def uptoBulkAll {H : Type} : List (DataW H) → Nat
  | [] => 0
  | d :: r => uptoBulk d + uptoBulkAll r
def uptoBulkEntries {H : Type} : List (Lit × DataW H) → Nat
  | [] => 0
  | x :: r => uptoBulkEntry x + uptoBulkEntries r
def uptoBulkEntry {H : Type} : Lit × DataW H → Nat
  | (.string bytes, d) => bytes.length + uptoBulk d + 1
  | (_, d) => uptoBulk d + 1
 end
def uptoSmall : (H : Type) → List (DataW H) → Bool := fun _ ds => decide (uptoBulkAll ds ≤ 1048576)
def OpenSpec.upto (s : _root_.Go.ChangeSpec) : _root_.Go.OpenSpec := { _root_.Go.OpenSpec.ofChange s with cond := some uptoSmall }

/-- 'bulkheadlaw14.PlanNames', WHERE WHAT IT READS IS OF BULK AT MOST 1048576: true; the input reads as it did. -/
def planNamesUptoRow : OpenClaim := { program := "ytfccfjgnoeocnaa", sum := "39786d05e24a35f6a3b95b6670b8ca30f31c70e3a048a73abe9eec005d0e80cf", func := "bulkhead/bulkheadlaw14.PlanNames", spec := "planNames", apart := false, narrowed := true }
def PlanNamesUptoSaid : Prop := planNamesUptoRow.holds Try.pinned (OpenSpec.upto planNamesSpec)

/-- 'bulkheadlaw14.PlanTimes', WHERE WHAT IT READS IS OF BULK AT MOST 1048576: true; the input reads as it did. -/
def planTimesUptoRow : OpenClaim := { program := "ytfccfjgnoeocnaa", sum := "39786d05e24a35f6a3b95b6670b8ca30f31c70e3a048a73abe9eec005d0e80cf", func := "bulkhead/bulkheadlaw14.PlanTimes", spec := "planTimes", apart := false, narrowed := true }
def PlanTimesUptoSaid : Prop := planTimesUptoRow.holds Try.pinned (OpenSpec.upto planTimesSpec)

/-- 'bulkheadlaw14.PlanTiles', WHERE WHAT IT READS IS OF BULK AT MOST 1048576: true; the input reads as it did. -/
def planTilesUptoRow : OpenClaim := { program := "ytfccfjgnoeocnaa", sum := "39786d05e24a35f6a3b95b6670b8ca30f31c70e3a048a73abe9eec005d0e80cf", func := "bulkhead/bulkheadlaw14.PlanTiles", spec := "planTiles", apart := false, narrowed := true }
def PlanTilesUptoSaid : Prop := planTilesUptoRow.holds Try.pinned (OpenSpec.upto planTilesSpec)

/-- 'bulkheadlaw14.PlanRounds', WHERE WHAT IT READS IS OF BULK AT MOST 1048576: true; the input reads as it did. -/
def planRoundsUptoRow : OpenClaim := { program := "ytfccfjgnoeocnaa", sum := "39786d05e24a35f6a3b95b6670b8ca30f31c70e3a048a73abe9eec005d0e80cf", func := "bulkhead/bulkheadlaw14.PlanRounds", spec := "planRounds", apart := false, narrowed := true }
def PlanRoundsUptoSaid : Prop := planRoundsUptoRow.holds Try.pinned (OpenSpec.upto planRoundsSpec)

/-- 'bulkheadlaw14.PlanLists', WHERE WHAT IT READS IS OF BULK AT MOST 1048576: true; the input reads as it did. -/
def planListsUptoRow : OpenClaim := { program := "ytfccfjgnoeocnaa", sum := "39786d05e24a35f6a3b95b6670b8ca30f31c70e3a048a73abe9eec005d0e80cf", func := "bulkhead/bulkheadlaw14.PlanLists", spec := "planLists", apart := false, narrowed := true }
def PlanListsUptoSaid : Prop := planListsUptoRow.holds Try.pinned (OpenSpec.upto planListsSpec)

/-- 'bulkheadlaw14.PlanApart', WHERE WHAT IT READS IS OF BULK AT MOST 1048576: true; the input reads as it did. -/
def planApartUptoRow : OpenClaim := { program := "ytfccfjgnoeocnaa", sum := "39786d05e24a35f6a3b95b6670b8ca30f31c70e3a048a73abe9eec005d0e80cf", func := "bulkhead/bulkheadlaw14.PlanApart", spec := "planApart", apart := false, narrowed := true }
def PlanApartUptoSaid : Prop := planApartUptoRow.holds Try.pinned (OpenSpec.upto planApartSpec)

/-- 'bulkheadlaw14.PlanShares', WHERE WHAT IT READS IS OF BULK AT MOST 1048576: true; the input reads as it did. -/
def planSharesUptoRow : OpenClaim := { program := "ytfccfjgnoeocnaa", sum := "39786d05e24a35f6a3b95b6670b8ca30f31c70e3a048a73abe9eec005d0e80cf", func := "bulkhead/bulkheadlaw14.PlanShares", spec := "planShares", apart := false, narrowed := true }
def PlanSharesUptoSaid : Prop := planSharesUptoRow.holds Try.pinned (OpenSpec.upto planSharesSpec)

/-- 'bulkheadlaw14.PlanKept', WHERE WHAT IT READS IS OF BULK AT MOST 1048576: true; the input reads as it did. -/
def planKeptUptoRow : OpenClaim := { program := "ytfccfjgnoeocnaa", sum := "39786d05e24a35f6a3b95b6670b8ca30f31c70e3a048a73abe9eec005d0e80cf", func := "bulkhead/bulkheadlaw14.PlanKept", spec := "planKept", apart := false, narrowed := true }
def PlanKeptUptoSaid : Prop := planKeptUptoRow.holds Try.pinned (OpenSpec.upto planKeptSpec)

end Rows
end Go.Proofs.Ytfccfjgnoeocnaa
