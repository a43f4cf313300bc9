import Derived.RowKit
import Derived.Laws.BitsAllLaws
import Derived.Test.YtjegoojkjcjpnaaWMore
namespace Go.Proofs.Ytjegoojkjcjpnaa.Plain
open Go.RowKit Go.Proofs.YtjegoojkjcjpnaaW.PrintWords

theorem nat_and_add_or (a b : Nat) : (a &&& b) + (a ||| b) = a + b := by
  induction a using Nat.strongRecOn generalizing b with
  | ind a ih =>
    by_cases h0 : a = 0
    · subst h0; simp
    · have h := ih (a / 2) (by omega) (b / 2)
      have h1 : (a &&& b) / 2 = a / 2 &&& b / 2 := Nat.and_div_two
      have h2 : (a ||| b) / 2 = a / 2 ||| b / 2 := Nat.or_div_two
      have m1 := @Nat.and_mod_two_eq_one a b
      have m2 := @Nat.or_mod_two_eq_one a b
      omega

theorem nat_and_add_xor (a b : Nat) : (a &&& b) + (a ^^^ b) = a ||| b := by
  induction a using Nat.strongRecOn generalizing b with
  | ind a ih =>
    by_cases h0 : a = 0
    · subst h0; simp
    · have h := ih (a / 2) (by omega) (b / 2)
      have h1 : (a &&& b) / 2 = a / 2 &&& b / 2 := Nat.and_div_two
      have h2 : (a ||| b) / 2 = a / 2 ||| b / 2 := Nat.or_div_two
      have h3 : (a ^^^ b) / 2 = a / 2 ^^^ b / 2 := Nat.xor_div_two
      have m1 := @Nat.and_mod_two_eq_one a b
      have m2 := @Nat.or_mod_two_eq_one a b
      have m3 := @Nat.xor_mod_two_eq_one a b
      omega

theorem u32_bounds {a : Int} (h : (Lit.int .u32 a).wf = true) : 0 ≤ a ∧ a < 4294967296 := by
  simp [Lit.wf, IntKind.min, IntKind.max, IntKind.signed, IntKind.bits] at h
  omega

theorem u8_bounds {a : Int} (h : (Lit.int .u8 a).wf = true) : 0 ≤ a ∧ a < 256 := by
  simp [Lit.wf, IntKind.min, IntKind.max, IntKind.signed, IntKind.bits] at h
  omega

theorem i64_bounds {a : Int} (h : (Lit.int .i64 a).wf = true) : -9223372036854775808 ≤ a ∧ a < 9223372036854775808 := by
  simp [Lit.wf, IntKind.min, IntKind.max, IntKind.signed, IntKind.bits] at h
  omega

theorem shl32 (x n : Int) (h0 : 0 ≤ n) (h1 : n < 32) : shl .u32 x n = x * 2 ^ n.toNat % 4294967296 := by
  unfold shl
  rw [Nat.min_eq_left (by simp only [IntKind.bits]; omega)]
  simp [IntKind.wrap, IntKind.signed, IntKind.bits]

theorem shr32 (k : IntKind) (hk : k.bits = 32) (x n : Int) (h1 : n < 32) : shr k x n = x / 2 ^ n.toNat := by
  unfold shr
  rw [Nat.min_eq_left (by rw [hk]; omega)]

end Go.Proofs.Ytjegoojkjcjpnaa.Plain
