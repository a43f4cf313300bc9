/-
  No cell of these rows narrows 'for every input' (looked for: loops, veiled, ifaces, maps, wideKeys, modest, calm, conditions, laid).
  DERIVED. THE GIVEN ROWS OF THIS SEAT. 5 by the template 'for every input the law returns true; each argument reads behind the call as it read before'; 0 by the template 'total and deterministic' (their statements: YtjfibfbknfeflaaTotals.lean).
  GIVEN WITH THE SEED: the statements are not yours to turn. If you find one false, say at which input.
  Laid BY PROGRAM, IN A SANDBOX (cutbox-rows.mjs): the forced cells as the released guide's own fill.sh prints them over the translation aa4575f8d631873a… (all of the seat's roots in one cut). By AI agents, Wed Nov 11 2026. No macro, syntax, notation, axiom, sorry.
-/
import Derived.Test.YtjfibfbknfeflaaChecked
import GoSem.Claim
import GoSem.ClaimJoined
import GoSem.ClaimMapViews
import Derived.JoinedTies
import Derived.KernelRfl
namespace Go.Proofs.Ytjfibfbknfeflaa
/- THE CELL 'sum', in the pinned program and in every row, IS THE sha256 OF THE DUMP (.gsa) THAT YtjfibfbknfeflaaProg.lean LOADS. Nothing in Lean hashes anything: it is a label: what it is worth is what the hold of that sum in a sandbox is worth. -/
noncomputable def Try.pinned : Pinned := { name := "ytjfibfbknfeflaa", sum := "aa4575f8d631873a282562d850bc7ef613ef57564844a4d85808f723ec4e114c", checked := Try.checked }
namespace Rows
def none {H : Type} : Left H := { results := [], args := [] }

/-- 'bulkheadlaw06.ShelfKeeps': WHATEVER THE INPUT: true; the input reads as it did. -/
def shelfKeepsSpec : ChangeSpec := { name := "shelfKeeps", fn := fun _ => fun
  | [d1, d2] => { results := [.lit (.bool true)], args := [d1, d2] }
  | _ => none }
def shelfKeepsRow : OpenClaim := { program := "ytjfibfbknfeflaa", sum := "aa4575f8d631873a282562d850bc7ef613ef57564844a4d85808f723ec4e114c", func := "bulkhead/bulkheadlaw06.ShelfKeeps", spec := "shelfKeeps", apart := false }
def ShelfKeepsSaid : Prop := shelfKeepsRow.holds Try.pinned (OpenSpec.ofChange shelfKeepsSpec)

/-- ITS FALSE NEIGHBOUR: 'it returns false'. Refute it at one input. -/
def shelfKeepsWrong : ChangeSpec := { name := "shelfKeeps", fn := fun _ => fun
  | [d1, d2] => { results := [.lit (.bool false)], args := [d1, d2] }
  | _ => none }
def ShelfKeepsWrongFalsely : Prop := shelfKeepsRow.holds Try.pinned (OpenSpec.ofChange shelfKeepsWrong)

/-- 'bulkheadlaw06.ShelfLately': WHATEVER THE INPUT: true; the input reads as it did. -/
def shelfLatelySpec : ChangeSpec := { name := "shelfLately", fn := fun _ => fun
  | [d1, d2, d3] => { results := [.lit (.bool true)], args := [d1, d2, d3] }
  | _ => none }
def shelfLatelyRow : OpenClaim := { program := "ytjfibfbknfeflaa", sum := "aa4575f8d631873a282562d850bc7ef613ef57564844a4d85808f723ec4e114c", func := "bulkhead/bulkheadlaw06.ShelfLately", spec := "shelfLately", unfollowed := true, recurses := true, apart := false }
def ShelfLatelySaid : Prop := shelfLatelyRow.holds Try.pinned (OpenSpec.ofChange shelfLatelySpec)

/-- ITS FALSE NEIGHBOUR: 'it returns false'. Refute it at one input. -/
def shelfLatelyWrong : ChangeSpec := { name := "shelfLately", fn := fun _ => fun
  | [d1, d2, d3] => { results := [.lit (.bool false)], args := [d1, d2, d3] }
  | _ => none }
def ShelfLatelyWrongFalsely : Prop := shelfLatelyRow.holds Try.pinned (OpenSpec.ofChange shelfLatelyWrong)

/-- 'bulkheadlaw06.ShelfWalks': WHATEVER THE INPUT: true; the input reads as it did. -/
def shelfWalksSpec : ChangeSpec := { name := "shelfWalks", fn := fun _ => fun
  | [d1, d2, d3, d4] => { results := [.lit (.bool true)], args := [d1, d2, d3, d4] }
  | _ => none }
def shelfWalksRow : OpenClaim := { program := "ytjfibfbknfeflaa", sum := "aa4575f8d631873a282562d850bc7ef613ef57564844a4d85808f723ec4e114c", func := "bulkhead/bulkheadlaw06.ShelfWalks", spec := "shelfWalks", unfollowed := true, recurses := true, apart := false }
def ShelfWalksSaid : Prop := shelfWalksRow.holds Try.pinned (OpenSpec.ofChange shelfWalksSpec)

/-- ITS FALSE NEIGHBOUR: 'it returns false'. Refute it at one input. -/
def shelfWalksWrong : ChangeSpec := { name := "shelfWalks", fn := fun _ => fun
  | [d1, d2, d3, d4] => { results := [.lit (.bool false)], args := [d1, d2, d3, d4] }
  | _ => none }
def ShelfWalksWrongFalsely : Prop := shelfWalksRow.holds Try.pinned (OpenSpec.ofChange shelfWalksWrong)

/-- 'bulkheadlaw06.ShelfNone': WHATEVER THE INPUT: true; the input reads as it did. -/
def shelfNoneSpec : ChangeSpec := { name := "shelfNone", fn := fun _ => fun
  | [] => { results := [.lit (.bool true)], args := [] }
  | _ => none }
def shelfNoneRow : OpenClaim := { program := "ytjfibfbknfeflaa", sum := "aa4575f8d631873a282562d850bc7ef613ef57564844a4d85808f723ec4e114c", func := "bulkhead/bulkheadlaw06.ShelfNone", spec := "shelfNone", unfollowed := true, recurses := true, apart := false }
def ShelfNoneSaid : Prop := shelfNoneRow.holds Try.pinned (OpenSpec.ofChange shelfNoneSpec)

/-- ITS FALSE NEIGHBOUR: 'it returns false'. Refute it at one input. -/
def shelfNoneWrong : ChangeSpec := { name := "shelfNone", fn := fun _ => fun
  | [] => { results := [.lit (.bool false)], args := [] }
  | _ => none }
def ShelfNoneWrongFalsely : Prop := shelfNoneRow.holds Try.pinned (OpenSpec.ofChange shelfNoneWrong)

/-- 'bulkheadlaw06.ShelfApart': WHATEVER THE INPUT: true; the input reads as it did. -/
def shelfApartSpec : ChangeSpec := { name := "shelfApart", fn := fun _ => fun
  | [d1, d2, d3] => { results := [.lit (.bool true)], args := [d1, d2, d3] }
  | _ => none }
def shelfApartRow : OpenClaim := { program := "ytjfibfbknfeflaa", sum := "aa4575f8d631873a282562d850bc7ef613ef57564844a4d85808f723ec4e114c", func := "bulkhead/bulkheadlaw06.ShelfApart", spec := "shelfApart", unfollowed := true, recurses := true, apart := false }
def ShelfApartSaid : Prop := shelfApartRow.holds Try.pinned (OpenSpec.ofChange shelfApartSpec)

/-- ITS FALSE NEIGHBOUR: 'it returns false'. Refute it at one input. -/
def shelfApartWrong : ChangeSpec := { name := "shelfApart", fn := fun _ => fun
  | [d1, d2, d3] => { results := [.lit (.bool false)], args := [d1, d2, d3] }
  | _ => none }
def ShelfApartWrongFalsely : Prop := shelfApartRow.holds Try.pinned (OpenSpec.ofChange shelfApartWrong)

/- THE SECOND FORM. 'bulk': how many values and letters a reading holds, each counted each time it is reached (what is shared counts as often as it is met; a slice's spare places count too). A statement '..UptoSaid' is the law's where the arguments, and the package variables that the reading takes, are together of bulk at most 1048576: NARROWER than '..Said'. Prove '..Said' where nothing that the law and all that it calls make is longer than what came in: it says more and counts as full. Else prove '..UptoSaid'. A law counts once. -/
mutual
def uptoBulk {H : Type} : DataW H → Nat
  | .lit (.string bytes) => bytes.length + 1
  | .lit _ => 1
  | .nil => 1
  | .ptr d => uptoBulk d + 1
  | .slice elems spare => uptoBulkAll elems + uptoBulkAll spare + 1
  | .agg parts => uptoBulkAll parts + 1
  | .iface _ d => uptoBulk d + 1
  | .map entries => uptoBulkEntries entries + 1
  | .held _ => 1
def uptoBulkAll {H : Type} : List (DataW H) → Nat
  | [] => 0
  | d :: r => uptoBulk d + uptoBulkAll r
def uptoBulkEntries {H : Type} : List (Lit × DataW H) → Nat
  | [] => 0
  | x :: r => uptoBulkEntry x + uptoBulkEntries r
def uptoBulkEntry {H : Type} : Lit × DataW H → Nat
  | (.string bytes, d) => bytes.length + uptoBulk d + 1
  | (_, d) => uptoBulk d + 1
 end
def uptoSmall : (H : Type) → List (DataW H) → Bool := fun _ ds => decide (uptoBulkAll ds ≤ 1048576)
def OpenSpec.upto (s : _root_.Go.ChangeSpec) : _root_.Go.OpenSpec := { _root_.Go.OpenSpec.ofChange s with cond := some uptoSmall }

/-- 'bulkheadlaw06.ShelfKeeps', WHERE WHAT IT READS IS OF BULK AT MOST 1048576: true; the input reads as it did. -/
def shelfKeepsUptoRow : OpenClaim := { program := "ytjfibfbknfeflaa", sum := "aa4575f8d631873a282562d850bc7ef613ef57564844a4d85808f723ec4e114c", func := "bulkhead/bulkheadlaw06.ShelfKeeps", spec := "shelfKeeps", apart := false, narrowed := true }
def ShelfKeepsUptoSaid : Prop := shelfKeepsUptoRow.holds Try.pinned (OpenSpec.upto shelfKeepsSpec)

/-- 'bulkheadlaw06.ShelfLately', WHERE WHAT IT READS IS OF BULK AT MOST 1048576: true; the input reads as it did. -/
def shelfLatelyUptoRow : OpenClaim := { program := "ytjfibfbknfeflaa", sum := "aa4575f8d631873a282562d850bc7ef613ef57564844a4d85808f723ec4e114c", func := "bulkhead/bulkheadlaw06.ShelfLately", spec := "shelfLately", unfollowed := true, recurses := true, apart := false, narrowed := true }
def ShelfLatelyUptoSaid : Prop := shelfLatelyUptoRow.holds Try.pinned (OpenSpec.upto shelfLatelySpec)

/-- 'bulkheadlaw06.ShelfWalks', WHERE WHAT IT READS IS OF BULK AT MOST 1048576: true; the input reads as it did. -/
def shelfWalksUptoRow : OpenClaim := { program := "ytjfibfbknfeflaa", sum := "aa4575f8d631873a282562d850bc7ef613ef57564844a4d85808f723ec4e114c", func := "bulkhead/bulkheadlaw06.ShelfWalks", spec := "shelfWalks", unfollowed := true, recurses := true, apart := false, narrowed := true }
def ShelfWalksUptoSaid : Prop := shelfWalksUptoRow.holds Try.pinned (OpenSpec.upto shelfWalksSpec)

/-- 'bulkheadlaw06.ShelfNone', WHERE WHAT IT READS IS OF BULK AT MOST 1048576: true; the input reads as it did. -/
def shelfNoneUptoRow : OpenClaim := { program := "ytjfibfbknfeflaa", sum := "aa4575f8d631873a282562d850bc7ef613ef57564844a4d85808f723ec4e114c", func := "bulkhead/bulkheadlaw06.ShelfNone", spec := "shelfNone", unfollowed := true, recurses := true, apart := false, narrowed := true }
def ShelfNoneUptoSaid : Prop := shelfNoneUptoRow.holds Try.pinned (OpenSpec.upto shelfNoneSpec)

/-- 'bulkheadlaw06.ShelfApart', WHERE WHAT IT READS IS OF BULK AT MOST 1048576: true; the input reads as it did. -/
def shelfApartUptoRow : OpenClaim := { program := "ytjfibfbknfeflaa", sum := "aa4575f8d631873a282562d850bc7ef613ef57564844a4d85808f723ec4e114c", func := "bulkhead/bulkheadlaw06.ShelfApart", spec := "shelfApart", unfollowed := true, recurses := true, apart := false, narrowed := true }
def ShelfApartUptoSaid : Prop := shelfApartUptoRow.holds Try.pinned (OpenSpec.upto shelfApartSpec)

end Rows
end Go.Proofs.Ytjfibfbknfeflaa
