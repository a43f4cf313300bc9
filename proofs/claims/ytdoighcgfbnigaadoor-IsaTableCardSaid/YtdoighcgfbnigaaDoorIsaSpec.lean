/- Isa: what the table, Encode and Decode are in plain numbers. -/
import Derived.RowKit
import Derived.Laws.BitsAllLaws
namespace Go.Proofs.YtdoighcgfbnigaaDoor.Isa
set_option linter.unusedVariables false
set_option linter.unusedSimpArgs false
open Go.RowKit

/-- The names, by the operation's number (0: none). -/
def names : List (List UInt8) := [[], [110, 111, 112], [109, 111, 118], [108, 105], [104, 105], [97, 100, 100], [115, 117, 98], [109, 117, 108], [100, 105, 118], [114, 101, 109], [97, 110, 100], [111, 114], [120, 111, 114], [115, 104, 108], [115, 104, 114], [115, 97, 114], [115, 108, 116], [115, 108, 116, 117], [97, 100, 100, 105], [108, 100], [115, 116], [98, 101, 113], [98, 110, 101], [98, 108, 116], [98, 103, 101], [98, 108, 116, 117], [106, 109, 112], [106, 97, 108], [106, 114], [99, 121, 99], [104, 121, 112]]
def forms : List Int := [0, 1, 3, 5, 5, 4, 4, 4, 4, 4, 4, 4, 4, 4, 4, 4, 4, 4, 6, 6, 6, 6, 6, 6, 6, 6, 7, 5, 2, 2, 7]
def costs : List Int := [0, 1, 1, 1, 1, 1, 1, 3, 8, 8, 1, 1, 1, 1, 1, 1, 1, 1, 1, 1, 1, 1, 1, 1, 1, 1, 1, 1, 1, 1, 24]

def formOf (op : Int) : Int := if 0 ≤ op ∧ op < 31 then forms.getD op.toNat 0 else 0
def costOf (op : Int) : Int := if 0 ≤ op ∧ op < 31 then costs.getD op.toNat 0 else 0
def nameOf (op : Int) : List UInt8 := if 0 ≤ op ∧ op < 31 then names.getD op.toNat [] else []

def hasA (f : Int) : Bool := decide (2 ≤ f ∧ f ≤ 6)
def hasB (f : Int) : Bool := decide (f = 3 ∨ f = 4 ∨ f = 6)
def hasC (f : Int) : Bool := decide (f = 4)
def hasI (f : Int) : Bool := decide (f = 5 ∨ f = 6 ∨ f = 7)
def fits (there : Bool) (n least most : Int) : Bool := if there then decide (least ≤ n ∧ n ≤ most) else decide (n = 0)

/-- May an instruction be written? -/
def okIns (op a b c i : Int) : Bool :=
  decide (formOf op ≠ 0) && fits (hasA (formOf op)) a 0 15 && fits (hasB (formOf op)) b 0 15 && fits (hasC (formOf op)) c 0 15 && fits (hasI (formOf op)) i (-131072) 131071

/-- Its word. -/
def word (op a b c i : Int) : Int := op * 67108864 + a * 4194304 + b * 262144 + c * 16384 + i % 262144
end Go.Proofs.YtdoighcgfbnigaaDoor.Isa
