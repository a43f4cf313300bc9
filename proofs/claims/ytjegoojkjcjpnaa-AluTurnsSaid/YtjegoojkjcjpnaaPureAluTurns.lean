/- The plain law of AluTurns: adding and taking away undo one another, and the bits of two words that are parted are joined again; for every two words. -/
import Derived.Test.YtjegoojkjcjpnaaPAluTurnsx1
import Derived.Test.YtjegoojkjcjpnaaAluPlain
namespace Go.Proofs.Ytjegoojkjcjpnaa.Pure
open Go.RowKit Go.Proofs.Ytjegoojkjcjpnaa.PAluTurns Go.Proofs.YtjegoojkjcjpnaaW.PrintWords Go.Proofs.YtjegoojkjcjpnaaW.PrintLast

theorem AluTurns : bulkheadlaw03_AluTurns.Pure := by
  intro a b ha hb
  obtain ⟨a0, a1⟩ := Plain.u32_bounds ha
  obtain ⟨b0, b1⟩ := Plain.u32_bounds hb
  refine ⟨1, ?_⟩
  have e1 : (a + b + -b) % 4294967296 = a := by omega
  have n1 := Plain.nat_and_add_or a.toNat b.toNat
  have n2 := Plain.nat_and_add_xor a.toNat b.toNat
  have l1 : a.toNat ||| b.toNat < 4294967296 := Nat.or_lt_two_pow (n := 32) (by omega) (by omega)
  have e2 : (((a.toNat &&& b.toNat : Nat) : Int) + ((a.toNat ||| b.toNat : Nat) : Int)) % 4294967296 = (a + b) % 4294967296 := by omega
  have e3 : (((a.toNat &&& b.toNat : Nat) : Int) + ((a.toNat ^^^ b.toNat : Nat) : Int)) % 4294967296 = ((a.toNat ||| b.toNat : Nat) : Int) := by omega
  simp [bulkheadlaw03_AluTurns.f, bulkheadlaw03_done.f, alu_Do.f, alu_Do.j0, alu_plain.f, u32_and a b a0 a1 b0 b1, u32_or a b a0 a1 b0 b1, u32_xor a b a0 a1 b0 b1, e1, e2, e3]

end Go.Proofs.Ytjegoojkjcjpnaa.Pure
