import Derived.Test.YtjegoojkjcjpnaaPAluDoesx1
import Derived.Test.YtjegoojkjcjpnaaAluPlain
namespace Go.Proofs.Ytjegoojkjcjpnaa.DoesWalk
set_option linter.unusedVariables false
set_option linter.unusedSimpArgs false
open Go.RowKit Go.Proofs.YtjegoojkjcjpnaaW.PrintWords Go.Proofs.YtjegoojkjcjpnaaW.PrintLast Go.Proofs.YtjegoojkjcjpnaaW.PrintMore
open Go.Proofs.Ytjegoojkjcjpnaa.PAluDoes

theorem signed_f (x : Int) (x0 : 0 ≤ x) (x1 : x < 4294967296) : bulkheadref03_Signed.f x = some (wrap32 x) := by
  have w : wrap64 x = x := by unfold wrap64; omega
  unfold bulkheadref03_Signed.f
  rw [w]
  split
  · congr 1; unfold wrap32 wrap64; omega
  · congr 1; unfold wrap32; omega

theorem word_f (n : Int) (n0 : -9223372036854775808 ≤ n) (n1 : n < 9223372036854775808) : bulkheadref03_word.f n = some (n % 4294967296) := by
  unfold bulkheadref03_word.f
  by_cases h : 0 ≤ n
  · rw [Int.tmod_eq_emod_of_nonneg h, if_neg (by omega)]
    congr 1; omega
  · have e : Int.tmod n 4294967296 = -(-n % 4294967296) := by
      rw [← Int.tmod_eq_emod_of_nonneg (by omega), Int.neg_tmod, Int.neg_neg]
    rw [e]
    split
    · congr 1; unfold wrap64; omega
    · congr 1; omega

theorem signed_any (x : Int) (w : World) (x0 : 0 ≤ x) (x1 : x < 4294967296) :
    Calls Try.prog 28 #[.int .u32 x] w fun e w' => e = .returned (.int .i64 (wrap32 x)) ∧ Drawn0 w w' :=
  bulkheadref03_Signed.calls x _ w (signed_f x x0 x1)

theorem word_any (n : Int) (w : World) (n0 : -9223372036854775808 ≤ n) (n1 : n < 9223372036854775808) :
    Calls Try.prog 23 #[.int .i64 n] w fun e w' => e = .returned (.int .u32 (n % 4294967296)) ∧ Drawn0 w w' :=
  bulkheadref03_word.calls n _ w (word_f n n0 n1)

theorem magnitude_any (n : Int) (w : World) (n0 : -2147483648 ≤ n) (n1 : n < 2147483648) :
    Calls Try.prog 31 #[.int .i64 n] w fun e w' => e = .returned (.int .i64 (if n < 0 then -n else n)) ∧ Drawn0 w w' := by
  refine bulkheadref03_magnitude.calls n _ w ?_
  unfold bulkheadref03_magnitude.f
  split
  · congr 1; unfold wrap64; omega
  · rfl

/-- The long division, place by place. -/
theorem quotient_l (n d : Int) (n0 : 0 ≤ n) (n1 : n < 8589934592) (d0 : 0 < d) (d1 : d ≤ 2147483648) (i : Nat) : ∀ (k : Nat) (q r : Int), i ≤ 33 → i < k → q = n / 2 ^ i / d → r = n / 2 ^ i % d →
    bulkheadref03_quotient.l0 k n d q r ((i : Int) - 1) = some (n / d, n % d) := by
  induction i with
  | zero =>
    intro k q r _ hk hq hr
    obtain ⟨k, rfl⟩ : ∃ m, k = m + 1 := ⟨k - 1, by omega⟩
    simp only [bulkheadref03_quotient.l0]
    rw [if_neg (by omega), hq, hr]; simp
  | succ i ih =>
    intro k q r hi hk hq hr
    obtain ⟨k, rfl⟩ : ∃ m, k = m + 1 := ⟨k - 1, by omega⟩
    have e0 : (((i + 1 : Nat) : Int) - 1) = i := by omega
    have w1 : wrap64 ((i : Int) - 1) = (i : Int) - 1 := by unfold wrap64; omega
    have hp : (0 : Int) < 2 ^ i := Int.pow_pos (by decide)
    have hn : n / 2 ^ (i + 1) = n / 2 ^ i / 2 := by
      rw [Int.ediv_ediv_of_nonneg (Int.le_of_lt hp), ← Int.pow_succ]
    have hm0 : 0 ≤ n / 2 ^ i := Int.ediv_nonneg n0 (Int.le_of_lt hp)
    have hm1 : n / 2 ^ i < 8589934592 := by
      refine Int.lt_of_le_of_lt (Int.ediv_le_self _ n0) n1
    have hsh : shr .i64 n i = n / 2 ^ i := by
      unfold shr; rw [Nat.min_eq_left (by simp only [IntKind.bits]; omega)]; simp
    have hc : ∀ (q' r' : Int), q' = n / 2 ^ i / d → r' = n / 2 ^ i % d → bulkheadref03_quotient.l0 k n d q' r' ((i : Int) - 1) = some (n / d, n % d) := fun q' r' => ih k q' r' (by omega) (by omega)
    rw [hn] at hq hr
    generalize n / 2 ^ i = m at *
    have b0 : 0 ≤ r := by rw [hr]; exact Int.emod_nonneg _ (by omega)
    have b1 : r < d := by rw [hr]; exact Int.emod_lt_of_pos _ d0
    have hqr : m / 2 = q * d + r := by
      have := Int.mul_ediv_add_emod (m / 2) d
      rw [hq, hr, Int.mul_comm]; omega
    have q0 : 0 ≤ q := by rw [hq]; exact Int.ediv_nonneg (by omega) (by omega)
    have q1 : q ≤ m / 2 := by rw [hq]; exact Int.ediv_le_self _ (by omega)
    have two : ∀ (Q R : Int), m = Q * d + R → 0 ≤ R → R < d → Q = m / d ∧ R = m % d := by
      intro Q R h h0 h1
      have hQ : m / d = Q := by
        rw [h, Int.add_comm, Int.add_mul_ediv_right _ _ (by omega), Int.ediv_eq_zero_of_lt h0 h1]; omega
      refine ⟨hQ.symm, ?_⟩
      have := Int.mul_ediv_add_emod m d
      rw [hQ, Int.mul_comm] at this
      omega
    simp only [bulkheadref03_quotient.l0]
    rw [e0, if_pos (by omega), if_pos (by omega), hsh, w1]
    have tm : Int.tmod m 2 = m % 2 := Int.tmod_eq_emod_of_nonneg hm0
    have wr : wrap64 (r * 2) = r * 2 := by unfold wrap64; omega
    have wr1 : wrap64 (r * 2 + 1) = r * 2 + 1 := by unfold wrap64; omega
    have wq : wrap64 (q * 2) = q * 2 := by unfold wrap64; omega
    have wq1 : wrap64 (q * 2 + 1) = q * 2 + 1 := by unfold wrap64; omega
    have ws1 : wrap64 (r * 2 + 1 - d) = r * 2 + 1 - d := by unfold wrap64; omega
    have ws : wrap64 (r * 2 - d) = r * 2 - d := by unfold wrap64; omega
    rw [tm, wr, wr1, wq, wq1, ws, ws1]
    have e1 : (q * 2 + 1) * d = q * d * 2 + d := by rw [Int.add_mul, Int.mul_right_comm, Int.one_mul]
    have e2 : (q * 2) * d = q * d * 2 := by rw [Int.mul_right_comm]
    generalize q * d = qd at *
    split
    · split
      · obtain ⟨a, b⟩ := two (q * 2 + 1) (r * 2 + 1 - d) (by omega) (by omega) (by omega); exact hc _ _ a b
      · obtain ⟨a, b⟩ := two (q * 2) (r * 2 + 1) (by omega) (by omega) (by omega); exact hc _ _ a b
    · split
      · obtain ⟨a, b⟩ := two (q * 2 + 1) (r * 2 - d) (by omega) (by omega) (by omega); exact hc _ _ a b
      · obtain ⟨a, b⟩ := two (q * 2) (r * 2) (by omega) (by omega) (by omega); exact hc _ _ a b

theorem quotient_any (n d : Int) (w : World) (n0 : 0 ≤ n) (n1 : n ≤ 2147483648) (d0 : 0 < d) (d1 : d ≤ 2147483648) :
    Calls Try.prog 30 #[.int .i64 n, .int .i64 d] w fun e w' => e = .returned (.tuple #[.int .i64 (n / d), .int .i64 (n % d)]) ∧ Drawn0 w w' := by
  refine bulkheadref03_quotient.calls 34 n d _ _ w ?_
  have z : n / 2 ^ 33 = 0 := by omega
  exact quotient_l n d n0 (by omega) d0 d1 33 34 0 0 (by omega) (by omega) (by rw [z]; simp) (by rw [z]; simp)

theorem quotient_some (n d : Int) (w : World) (n0 : 0 ≤ n) (n1 : n ≤ 2147483648) (d0 : 0 < d) (d1 : d ≤ 2147483648) :
    Calls Try.prog 30 #[.int .i64 n, .int .i64 d] w fun e w' => ∃ q r : Int, e = .returned (.tuple #[.int .i64 q, .int .i64 r]) ∧ 0 ≤ q ∧ q ≤ 2147483648 ∧ 0 ≤ r ∧ r ≤ 2147483648 ∧ Aside0 (q = n / d ∧ r = n % d) ∧ Drawn0 w w' := by
  refine (quotient_any n d w n0 n1 d0 d1).mono ?_
  rintro e w' ⟨rfl, hd⟩
  refine ⟨_, _, rfl, Int.ediv_nonneg n0 (by omega), ?_, Int.emod_nonneg _ (by omega), ?_, ⟨rfl, rfl⟩, hd⟩
  · exact Int.le_trans (Int.ediv_le_self _ n0) n1
  · have := Int.emod_lt_of_pos n d0; omega

theorem magnitude_neg (n : Int) (w : World) (n0 : -2147483648 ≤ n) (n1 : n < 0) :
    Calls Try.prog 31 #[.int .i64 n] w fun e w' => e = .returned (.int .i64 (-n)) ∧ Drawn0 w w' := by
  have h := magnitude_any n w n0 (by omega)
  rwa [if_pos n1] at h
theorem magnitude_pos (n : Int) (w : World) (n0 : 0 ≤ n) (n1 : n < 2147483648) :
    Calls Try.prog 31 #[.int .i64 n] w fun e w' => e = .returned (.int .i64 n) ∧ Drawn0 w w' := by
  have h := magnitude_any n w (by omega) n1
  rwa [if_neg (by omega)] at h

theorem tdiv_neg_neg (s d : Int) (hs : s ≤ 0) : Int.tdiv s d = -s / -d ∧ Int.tmod s d = -(-s % -d) := by
  constructor
  · rw [← Int.tdiv_eq_ediv_of_nonneg (by omega), Int.neg_tdiv, Int.tdiv_neg, Int.neg_neg]
  · rw [← Int.tmod_eq_emod_of_nonneg (by omega), Int.neg_tmod, Int.tmod_neg, Int.neg_neg]
theorem tdiv_neg_pos (s d : Int) (hs : s ≤ 0) : Int.tdiv s d = -(-s / d) ∧ Int.tmod s d = -(-s % d) := by
  constructor
  · rw [← Int.tdiv_eq_ediv_of_nonneg (by omega), Int.neg_tdiv, Int.neg_neg]
  · rw [← Int.tmod_eq_emod_of_nonneg (by omega), Int.neg_tmod, Int.neg_neg]
theorem tdiv_pos_neg (s d : Int) (hs : 0 ≤ s) : Int.tdiv s d = -(s / -d) ∧ Int.tmod s d = s % -d := by
  constructor
  · rw [← Int.tdiv_eq_ediv_of_nonneg hs, Int.tdiv_neg, Int.neg_neg]
  · rw [← Int.tmod_eq_emod_of_nonneg hs, Int.tmod_neg]
theorem tdiv_pos_pos (s d : Int) (hs : 0 ≤ s) : Int.tdiv s d = s / d ∧ Int.tmod s d = s % d :=
  ⟨Int.tdiv_eq_ediv_of_nonneg hs, Int.tmod_eq_emod_of_nonneg hs⟩

theorem ret2 {a a' b b' : Int} (h1 : a = a') (h2 : b = b') : Ending.returned (.tuple #[.int .u32 a, .int .u32 b]) = Ending.returned (.tuple #[.int .u32 a', .int .u32 b']) := by rw [h1, h2]

set_option maxHeartbeats 800000 in
theorem divided_any (x y : Int) (w : World) (x0 : 0 ≤ x) (x1 : x < 4294967296) (y0 : 0 < y) (y1 : y < 4294967296) :
    Calls Try.prog 25 #[.int .u32 x, .int .u32 y] w fun e w' => e = .returned (.tuple #[.int .u32 (Int.tdiv (wrap32 x) (wrap32 y) % 4294967296), .int .u32 (Int.tmod (wrap32 x) (wrap32 y) % 4294967296)]) ∧ Drawn0 w w' := by
  have s0 : -2147483648 ≤ wrap32 x := by unfold wrap32; omega
  have s1 : wrap32 x < 2147483648 := by unfold wrap32; omega
  have d0 : -2147483648 ≤ wrap32 y := by unfold wrap32; omega
  have d1 : wrap32 y < 2147483648 := by unfold wrap32; omega
  have dz : wrap32 y < 0 ∨ 0 < wrap32 y := by unfold wrap32; omega
  have HT1 := Aside0.mk (tdiv_neg_neg (wrap32 x) (wrap32 y))
  have HT2 := Aside0.mk (tdiv_neg_pos (wrap32 x) (wrap32 y))
  have HT3 := Aside0.mk (tdiv_pos_neg (wrap32 x) (wrap32 y))
  have HT4 := Aside0.mk (tdiv_pos_pos (wrap32 x) (wrap32 y))
  have HS := Aside0.mk (fun w => signed_any x w x0 x1)
  have HD := Aside0.mk (fun w => signed_any y w (by omega) y1)
  generalize wrap32 x = s at *
  generalize wrap32 y = d at *
  rcases dz with hd | hd <;> by_cases hs : s < 0
  all_goals
    have hsb : decide (s < 0) = true ∨ decide (s < 0) = false := by by_cases h : s < 0 <;> simp [h]
    have hdb : decide (d < 0) = true ∨ decide (d < 0) = false := by by_cases h : d < 0 <;> simp [h]
    rcases hsb with hsb | hsb <;> rcases hdb with hdb | hdb <;> (try (exfalso; simp at hsb hdb; omega))
    go_enter Try.func25, Try.ntmps25
    go_wp2_with (first | (go_at_call 28; first | ((with_reducible refine (HS.out _).mono ?_); rintro e w' ⟨rfl, ⟨n, rfl⟩⟩) | ((with_reducible refine (HD.out _).mono ?_); rintro e w' ⟨rfl, ⟨n, rfl⟩⟩)) | (go_at_call 31; refine (magnitude_neg _ _ (by omega) (by omega)).mono ?_; rintro e w' ⟨rfl, ⟨n, rfl⟩⟩) | (go_at_call 31; refine (magnitude_pos _ _ (by omega) (by omega)).mono ?_; rintro e w' ⟨rfl, ⟨n, rfl⟩⟩) | (go_at_call 30; refine (quotient_some _ _ _ (by omega) (by omega) (by omega) (by omega)).mono ?_; rintro e w' ⟨q, r, rfl, q0, q1, r0, r1, HQ, ⟨n, rfl⟩⟩) | (go_at_call 23; refine (word_any _ _ (by omega) (by omega)).mono ?_; rintro e w' ⟨rfl, ⟨n, rfl⟩⟩))
    go_ret2
    refine ⟨ret2 ?_ ?_, by repeat (first | exact Drawn0.refl _ | apply Drawn0.step)⟩
    · rw [HQ.out.1]; first | (rw [(HT1.out (by omega)).1]; done) | (rw [(HT2.out (by omega)).1]; done) | (rw [(HT3.out (by omega)).1]; done) | (rw [(HT4.out (by omega)).1]; done)
    · rw [HQ.out.2]; first | (rw [(HT1.out (by omega)).2]; done) | (rw [(HT2.out (by omega)).2]; done) | (rw [(HT3.out (by omega)).2]; done) | (rw [(HT4.out (by omega)).2]; done)
end Go.Proofs.Ytjegoojkjcjpnaa.DoesWalk
