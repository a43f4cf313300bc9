import Derived.Test.YtjegoojkjcjpnaaDoesMixed
namespace Go.Proofs.Ytjegoojkjcjpnaa.DoesWalk
set_option linter.unusedVariables false
set_option linter.unusedSimpArgs false
open Go.RowKit Go.Proofs.YtjegoojkjcjpnaaW.PrintWords Go.Proofs.YtjegoojkjcjpnaaW.PrintLast Go.Proofs.YtjegoojkjcjpnaaW.PrintMore

theorem mword_f (n : Int) (n0 : 0 ≤ n) (n1 : n < 9223372036854775808) : Pmoved.bulkheadref03_word.f n = some (n % 4294967296) := by
  unfold Pmoved.bulkheadref03_word.f
  rw [Int.tmod_eq_emod_of_nonneg n0, if_neg (by omega)]
  congr 1; omega

/-- What 'moved' makes. -/
def mov (op x : Int) (n : Nat) : Int := if op = 13 then x * 2 ^ n % 4294967296 else if op = 15 then wrap32 x / 2 ^ n % 4294967296 else x / 2 ^ n

theorem mov_zero (op x : Int) (x0 : 0 ≤ x) (x1 : x < 4294967296) : mov op x 0 = x := by
  unfold mov; split
  · omega
  · split
    · unfold wrap32; omega
    · simp

theorem mov_shl (x : Int) (n : Nat) : mov 13 (2 * x % 4294967296) n = mov 13 x (n + 1) := by
  unfold mov; rw [if_pos rfl, if_pos rfl, Int.pow_succ, Int.mul_comm (2 ^ n) 2, ← Int.mul_assoc, Int.mul_comm x 2]
  rw [Int.mul_emod (2 * x) (2 ^ n), Int.mul_emod (2 * x % 4294967296) (2 ^ n), Int.emod_emod_of_dvd _ (Int.dvd_refl _)]

theorem mov_sar (x x' : Int) (n : Nat) (h : wrap32 x' = wrap32 x / 2) : mov 15 x' n = mov 15 x (n + 1) := by
  unfold mov; simp only [show ¬ (15 : Int) = 13 by decide, if_false, if_true]
  rw [h, Int.ediv_ediv_of_nonneg (by decide), Int.pow_succ, Int.mul_comm (2 ^ n) 2]

theorem mov_shr (op x : Int) (n : Nat) (h1 : op ≠ 13) (h2 : op ≠ 15) : mov op (x / 2) n = mov op x (n + 1) := by
  unfold mov; rw [if_neg h1, if_neg h1, if_neg h2, if_neg h2, Int.ediv_ediv_of_nonneg (by decide), Int.pow_succ, Int.mul_comm (2 ^ n) 2]

theorem moved_l (op : Int) (n : Nat) : ∀ (k : Nat) (x : Int), n ≤ 31 → n < k → 0 ≤ x → x < 4294967296 → Pmoved.bulkheadref03_moved.l0 k op x n = some (mov op x n) := by
  induction n with
  | zero =>
    intro k x _ hk x0 x1
    obtain ⟨k, rfl⟩ : ∃ m, k = m + 1 := ⟨k - 1, by omega⟩
    simp only [Pmoved.bulkheadref03_moved.l0]
    rw [if_neg (by omega), mov_zero op x x0 x1]
  | succ n ih =>
    intro k x hn hk x0 x1
    obtain ⟨k, rfl⟩ : ∃ m, k = m + 1 := ⟨k - 1, by omega⟩
    have e1 : (((n + 1 : Nat) : Int) - 1) % 4294967296 = n := by omega
    have hb := bit_f x.toNat 31 (by omega)
    have hx : ((x.toNat : Nat) : Int) = x := Int.toNat_of_nonneg x0
    rw [hx] at hb
    have w1 : wrap64 x = x := by unfold wrap64; omega
    have w2 : wrap64 (2 * x) = 2 * x := by unfold wrap64; omega
    have td : Int.tdiv x 2 = x / 2 := Int.tdiv_eq_ediv_of_nonneg x0
    have td' : x / 2 % 4294967296 = x / 2 := by omega
    simp only [Pmoved.bulkheadref03_moved.l0]
    rw [if_pos (by omega), show (31 : Int) = ((31 : Nat) : Int) from rfl, hb, e1]
    simp only [Option.bind_some]
    rw [w1, w2, mword_f (2 * x) (by omega) (by omega), td, td']
    simp only [Option.bind_some]
    by_cases h13 : op = 13
    · subst h13
      rw [if_pos rfl, ih k _ (by omega) (by omega) (by omega) (by omega), mov_shl]
    · rw [if_neg h13]
      by_cases h15 : op = 15
      · subst h15
        rw [if_pos rfl]
        split
        · rw [ih k _ (by omega) (by omega) (by omega) (by omega), mov_sar]; unfold wrap32; omega
        · rw [ih k _ (by omega) (by omega) (by omega) (by omega), mov_sar]; unfold wrap32; omega
      · rw [if_neg h15, ih k _ (by omega) (by omega) (by omega) (by omega), mov_shr op x n h13 h15]

theorem moved_any (op x y : Int) (w : World) (x0 : 0 ≤ x) (x1 : x < 4294967296) (y0 : 0 ≤ y) :
    Calls Try.prog 27 #[.int .i64 op, .int .u32 x, .int .u32 y] w fun e w' => e = .returned (.int .u32 (mov op x (y % 32).toNat)) ∧ Drawn0 w w' := by
  refine Pmoved.bulkheadref03_moved.calls 32 op x y _ w ?_
  unfold Pmoved.bulkheadref03_moved.f
  have h := moved_l op (y % 32).toNat 32 x (by omega) (by omega) x0 x1
  rw [Int.toNat_of_nonneg (by omega)] at h
  rw [Int.tmod_eq_emod_of_nonneg y0]
  exact h

open Go.Proofs.Ytjegoojkjcjpnaa.PAluDoes
theorem times_l (d : Nat) : ∀ (k : Nat) (x y a : Int), d < k → 0 ≤ x → x < 4294967296 → 0 ≤ y → y < 2 ^ d → y < 4294967296 → 0 ≤ a → a < 4294967296 →
    bulkheadref03_times.l0 k x y a = some ((a + x * y) % 4294967296) := by
  induction d with
  | zero =>
    intro k x y a hk x0 x1 y0 y1 y2 a0 a1
    obtain ⟨k, rfl⟩ : ∃ m, k = m + 1 := ⟨k - 1, by omega⟩
    obtain rfl : y = 0 := by simp at y1; omega
    simp only [bulkheadref03_times.l0]
    rw [if_neg (by omega)]; simp
  | succ d ih =>
    intro k x y a hk x0 x1 y0 y1 y2 a0 a1
    obtain ⟨k, rfl⟩ : ∃ m, k = m + 1 := ⟨k - 1, by omega⟩
    simp only [bulkheadref03_times.l0]
    have w1 : wrap64 x = x := by unfold wrap64; omega
    have w2 : wrap64 (2 * x) = 2 * x := by unfold wrap64; omega
    have w3 : wrap64 (a + x) = a + x := by unfold wrap64; omega
    have td : Int.tdiv y 2 = y / 2 := Int.tdiv_eq_ediv_of_nonneg y0
    have tm : Int.tmod y 2 = y % 2 := Int.tmod_eq_emod_of_nonneg y0
    have td' : y / 2 % 4294967296 = y / 2 := by omega
    have ta : Int.tmod (a + x) 4294967296 = (a + x) % 4294967296 := Int.tmod_eq_emod_of_nonneg (by omega)
    have y3 : y / 2 < 2 ^ d := by rw [Int.pow_succ] at y1; omega
    by_cases hy : y > 0
    · rw [if_pos hy, w1, w2, word_f (2 * x) (by omega) (by omega), w3, td, tm, td', ta]
      simp only [Option.bind_some]
      have key : ∀ t : Int, (t % 4294967296 + 2 * x % 4294967296 * (y / 2)) % 4294967296 = (t + 2 * x * (y / 2)) % 4294967296 := by
        intro t
        rw [Int.add_emod, Int.emod_emod_of_dvd _ (Int.dvd_refl _), Int.mul_emod (2 * x % 4294967296), Int.emod_emod_of_dvd _ (Int.dvd_refl _), ← Int.mul_emod, ← Int.add_emod]
      split
      · rw [ih k _ _ _ (by omega) (by omega) (by omega) (by omega) y3 (by omega) (by omega) (by omega), key]
        have e : x * y = x + 2 * x * (y / 2) := by
          have : y = 1 + 2 * (y / 2) := by omega
          conv => lhs; rw [this]
          rw [Int.mul_add, Int.mul_one, Int.mul_comm 2 x, Int.mul_assoc]
        rw [e, Int.add_assoc]
      · rw [ih k _ _ _ (by omega) (by omega) (by omega) (by omega) y3 (by omega) a0 a1]
        have k2 := key a
        rw [Int.emod_eq_of_lt a0 a1] at k2
        rw [k2]
        have e : x * y = 2 * x * (y / 2) := by
          have : y = 2 * (y / 2) := by omega
          conv => lhs; rw [this]
          rw [Int.mul_comm 2 x, Int.mul_assoc]
        rw [e]
    · obtain rfl : y = 0 := by omega
      rw [if_neg hy]; simp

theorem times_any (x y : Int) (w : World) (x0 : 0 ≤ x) (x1 : x < 4294967296) (y0 : 0 ≤ y) (y1 : y < 4294967296) :
    Calls Try.prog 24 #[.int .u32 x, .int .u32 y] w fun e w' => e = .returned (.int .u32 (x * y % 4294967296)) ∧ Drawn0 w w' := by
  refine bulkheadref03_times.calls 33 x y _ w ?_
  have h := times_l 32 33 x y 0 (by omega) x0 x1 y0 (by simpa using y1) y1 (by omega) (by omega)
  rw [Int.zero_add] at h
  exact h

theorem below_slt (x y : Int) (w : World) (x0 : 0 ≤ x) (x1 : x < 4294967296) (y0 : 0 ≤ y) (y1 : y < 4294967296) :
    Calls Try.prog 20 #[.int .i64 16, .int .u32 x, .int .u32 y] w fun e w' => e = .returned (.bool (decide (wrap32 x < wrap32 y))) ∧ Drawn0 w w' := by
  refine bulkheadref03_below.calls 1 16 x y _ w ?_
  simp [bulkheadref03_below.f, bulkheadref03_below.j0, signed_f x x0 x1, signed_f y y0 y1]

theorem below_sltu (x y : Int) (w : World) :
    Calls Try.prog 20 #[.int .i64 17, .int .u32 x, .int .u32 y] w fun e w' => e = .returned (.bool (decide (x < y))) ∧ Drawn0 w w' := by
  refine bulkheadref03_below.calls 1 17 x y _ w ?_
  simp [bulkheadref03_below.f, bulkheadref03_below.j0]

theorem does_any (op : Int) (w : World) : Calls Try.prog 18 #[.int .i64 op] w fun e w' => e = .returned (.bool (decide (5 ≤ op ∧ op ≤ 17))) ∧ Drawn0 w w' := by
  refine bulkheadref03_Does.calls op _ w ?_
  unfold bulkheadref03_Does.f
  by_cases h : op ≥ 5
  · rw [if_pos h]; simp; omega
  · rw [if_neg h]; simp; omega

end Go.Proofs.Ytjegoojkjcjpnaa.DoesWalk
