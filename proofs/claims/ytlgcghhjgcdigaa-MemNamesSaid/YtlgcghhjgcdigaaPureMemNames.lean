/- The plain law of MemNames: each error and limit has its number. -/
import Derived.Test.YtlgcghhjgcdigaaPMemNamesx1
namespace Go.Proofs.Ytlgcghhjgcdigaa.Pure
open Go.RowKit Go.Proofs.Ytlgcghhjgcdigaa.PMemNames Go.Proofs.YtlgcghhjgcdigaaW.PrintWords Go.Proofs.YtlgcghhjgcdigaaW.PrintLast

theorem MemNames : bulkheadlaw05_MemNames.Pure := rfl

end Go.Proofs.Ytlgcghhjgcdigaa.Pure
