-- PRINTED BY print.sh 35421559b90ae4d0a3588c463048766b98c2df88dd9212a6774a882060cdf62d: not written by this session
import Derived.Test.YtdoighcgfbnigaaDoorProg
import Derived.Below
import Derived.Deep.Draws
import Derived.Deep.AppendLies
import Derived.Maps.AppendAt
import Derived.OwnWalk
import Derived.Laws.BytesArg
import Derived.Laws.MakeOwn
import Derived.Laws.OwnMore
import Derived.Deep.OwnRows
import Derived.Tactics
import Derived.Lib.ConvBytes
import Derived.Laws.Slices
import Derived.WalkKit
import Derived.KernelRfl
import Derived.RowKit3
import Derived.Deep.LoopGhost
import Derived.Deep.QuietTactic
import Derived.BigQuiet
import Derived.WideLaws
import Derived.Deep.DeepCutAuto
import Derived.Deep.CutBlock
import Derived.Deep.RegionHeld3
import Derived.Laws.Rows
import Derived.Lib.AppendStr
import Derived.ArgAppend
import Derived.Laws.IdiomCopy
import Derived.OrdersHeld
import Derived.Laws.BitsLemmas
import Derived.RowKit
import Derived.Test.YtdoighcgfbnigaaDoorWWords
import Derived.Test.YtdoighcgfbnigaaDoorWLast
import Derived.Test.YtdoighcgfbnigaaDoorWTab
import Derived.Test.YtdoighcgfbnigaaDoorWFour
import Derived.Test.YtdoighcgfbnigaaDoorWQPut
import Derived.Test.YtdoighcgfbnigaaDoorWApart
import Derived.Test.YtdoighcgfbnigaaDoorWArr
import Derived.Test.YtdoighcgfbnigaaDoorWZeros
import Derived.Test.YtdoighcgfbnigaaDoorWFoot
import Derived.Test.YtdoighcgfbnigaaDoorWKept
import Derived.Test.YtdoighcgfbnigaaDoorWShare
import Derived.Test.YtdoighcgfbnigaaDoorWN
import Derived.Test.YtdoighcgfbnigaaDoorWFootNe
import Derived.Test.YtdoighcgfbnigaaDoorWAt
import Derived.Test.YtdoighcgfbnigaaDoorWEqStruct
import Derived.Test.YtdoighcgfbnigaaDoorWRepsOne
import Derived.Test.YtdoighcgfbnigaaDoorWInv
import Derived.Test.YtdoighcgfbnigaaDoorWInvWords
import Derived.Test.YtdoighcgfbnigaaDoorWGuard
import Derived.Test.YtdoighcgfbnigaaDoorWNEv
import Derived.Test.YtdoighcgfbnigaaDoorWMore
namespace Go.Proofs.YtdoighcgfbnigaaDoor.Phas
open Go.RowKit Go.Proofs.YtdoighcgfbnigaaDoorW.PrintWords Go.Proofs.YtdoighcgfbnigaaDoorW.PrintLast Go.Proofs.YtdoighcgfbnigaaDoorW.PrintMore
attribute [local go_sem] max2_int min2_int max_two min_two max_three min_three max_four min_four   -- for this text's walks alone
set_option linter.unusedVariables false
set_option linter.unusedSimpArgs false



def errW : Option Int → Value
  | none => .nilIface
  | some c => .iface 0 (.int .i64 c)
theorem errW_none : errW none = .nilIface := rfl
theorem errW_some (c : Int) : errW (some c) = .iface 0 (.int .i64 c) := rfl

-- the values' own types

end Go.Proofs.YtdoighcgfbnigaaDoor.Phas
