/- The plain law of AluNames: the errors and the operations have their numbers. -/
import Derived.Test.YtjegoojkjcjpnaaPAluNamesx1
namespace Go.Proofs.Ytjegoojkjcjpnaa.Pure
open Go.RowKit Go.Proofs.Ytjegoojkjcjpnaa.PAluNames Go.Proofs.YtjegoojkjcjpnaaW.PrintWords Go.Proofs.YtjegoojkjcjpnaaW.PrintLast

theorem AluNames : bulkheadlaw03_AluNames.Pure := ⟨1, by simp [bulkheadlaw03_AluNames.f, alu_Do.f, alu_Do.j0, alu_plain.f]⟩

end Go.Proofs.Ytjegoojkjcjpnaa.Pure
