/- The plain law of IsaNames: the operations, forms and errors have their numbers. -/
import Derived.Test.YtdoighcgfbnigaaPIsaNamesx1
namespace Go.Proofs.Ytdoighcgfbnigaa.Pure
open Go.RowKit Go.Proofs.Ytdoighcgfbnigaa.PIsaNames Go.Proofs.YtdoighcgfbnigaaW.PrintWords Go.Proofs.YtdoighcgfbnigaaW.PrintLast

theorem IsaNames : bulkheadlaw02_IsaNames.Pure := ⟨50, by decide +kernel⟩

end Go.Proofs.Ytdoighcgfbnigaa.Pure
