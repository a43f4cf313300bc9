/- The plain law of BitsNames: each error has its number. -/
import Derived.Test.YtnkmhhjldfapdaaPBitsNamesx1
namespace Go.Proofs.Ytnkmhhjldfapdaa.Pure
open Go.RowKit Go.Proofs.Ytnkmhhjldfapdaa.PBitsNames Go.Proofs.YtnkmhhjldfapdaaW.PrintWords Go.Proofs.YtnkmhhjldfapdaaW.PrintLast

theorem BitsNames : bulkheadlaw01_BitsNames.Pure := rfl

end Go.Proofs.Ytnkmhhjldfapdaa.Pure
