import Derived.Test.YtlgcghhjgcdigaaLDiff
namespace Go.Proofs.Ytlgcghhjgcdigaa.Fw
open Go Go.Proofs
set_option linter.unusedVariables false
set_option linter.unusedSimpArgs false
set_option maxRecDepth 10000

theorem ir_arg {W : World} {kd : IntKind} {a : Option Addr} {n c : Nat} {X : List Int} (hl : X.length = n) (hx : (n = 0 ∧ (a = none → c = 0)) ∨ ∃ b o, a = some ⟨b, o, none⟩ ∧ ∀ (j : Nat) u, (ints kd X)[j]? = some u → W.cell? ⟨b, o + j, none⟩ = some u) : IR W [Old W] kd a n X := by
  refine ⟨hl, ?_⟩
  rcases hx with ⟨h, _⟩ | ⟨b, o, h, hr⟩
  · exact .inl h
  · exact .inr ⟨b, o, h, RowAt.old (by simp) hr⟩
end Go.Proofs.Ytlgcghhjgcdigaa.Fw
