/- The plain law of LockNames: the error has its number. -/
import Derived.Test.YthemlddepepekaaPLockNamesx1
namespace Go.Proofs.Ythemlddepepekaa.Pure
open Go.RowKit Go.Proofs.Ythemlddepepekaa.PLockNames Go.Proofs.YthemlddepepekaaW.PrintWords Go.Proofs.YthemlddepepekaaW.PrintLast

theorem LockNames : bulkheadlaw17_LockNames.Pure := rfl

end Go.Proofs.Ythemlddepepekaa.Pure
