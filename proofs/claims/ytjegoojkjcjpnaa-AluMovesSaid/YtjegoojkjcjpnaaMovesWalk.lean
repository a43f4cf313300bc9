/- AluMoves, the walk: moved twice is moved by both, doubled is moved by one; for every word and every two counts. -/
import Derived.Test.YtjegoojkjcjpnaaPAluTurnsx1
import Derived.Test.YtjegoojkjcjpnaaAluPlain
namespace Go.Proofs.Ytjegoojkjcjpnaa.MovesWalk
set_option linter.unusedVariables false
set_option linter.unusedSimpArgs false
open Go.RowKit Go.Proofs.Ytjegoojkjcjpnaa.PAluTurns Go.Proofs.YtjegoojkjcjpnaaW.PrintWords Go.Proofs.YtjegoojkjcjpnaaW.PrintLast

theorem div_pow_bounds (s : Int) (n : Nat) (h0 : -2147483648 ≤ s) (h1 : s < 2147483648) : -2147483648 ≤ s / 2 ^ n ∧ s / 2 ^ n < 2147483648 := by
  have hp : (0 : Int) < 2 ^ n := Int.pow_pos (by decide)
  constructor
  · have : (-2147483648 : Int) * 2 ^ n ≤ s := by
      have : (1 : Int) ≤ 2 ^ n := hp
      have := Int.mul_le_mul_of_nonpos_left (a := -2147483648) (by decide) this
      omega
    exact (Int.le_ediv_iff_mul_le hp).2 this
  · refine (Int.ediv_lt_iff_lt_mul hp).2 ?_
    have : (1 : Int) ≤ 2 ^ n := hp
    have := Int.mul_le_mul_of_nonneg_left this (show (0 : Int) ≤ 2147483648 by decide)
    omega

theorem wrap32_emod (s : Int) (h0 : -2147483648 ≤ s) (h1 : s < 2147483648) : wrap32 (s % 4294967296) = s := by
  unfold wrap32; omega

/-- What the three moves make of a word. -/
def mv (op x : Int) (n : Nat) : Int := if op = 13 then x * 2 ^ n % 4294967296 else if op = 14 then x / 2 ^ n else wrap32 x / 2 ^ n % 4294967296

theorem shr_shr (x : Int) (n m : Nat) : x / 2 ^ n / 2 ^ m = x / 2 ^ (n + m) := by
  rw [Int.ediv_ediv_of_nonneg (Int.le_of_lt (Int.pow_pos (by decide))), ← Int.pow_add]

theorem mv_mv (op x : Int) (n m : Nat) : mv op (mv op x n) m = mv op x (n + m) := by
  have hw0 : -2147483648 ≤ wrap32 x := by unfold wrap32; omega
  have hw1 : wrap32 x < 2147483648 := by unfold wrap32; omega
  obtain ⟨b0, b1⟩ := div_pow_bounds (wrap32 x) n hw0 hw1
  unfold mv
  by_cases h : op = 13
  · simp only [if_pos h]
    rw [Int.pow_add, ← Int.mul_assoc, Int.mul_emod (x * 2 ^ n) (2 ^ m), Int.mul_emod (x * 2 ^ n % 4294967296) (2 ^ m), Int.emod_emod_of_dvd _ (Int.dvd_refl _)]
  · by_cases g : op = 14
    · simp only [if_neg h, if_pos g]; exact shr_shr x n m
    · simp only [if_neg h, if_neg g]; rw [wrap32_emod _ b0 b1, shr_shr]

theorem done_mv (op x y : Int) (h0 : 13 ≤ op) (h1 : op ≤ 15) (hy : 0 ≤ y) : bulkheadlaw03_done.f 1 op x y = some (mv op x (y % 32).toNat, true) := by
  have t : Int.tmod y 32 = y % 32 := Int.tmod_eq_emod_of_nonneg hy
  have n0 : 0 ≤ y % 32 := by omega
  have n1 : y % 32 < 32 := by omega
  have hc : op = 13 ∨ op = 14 ∨ op = 15 := by omega
  rcases hc with rfl | rfl | rfl
  · simp [bulkheadlaw03_done.f, alu_Do.f, alu_Do.j0, alu_plain.f, t, n0, Plain.shl32 x _ n0 n1, mv]
  · simp [bulkheadlaw03_done.f, alu_Do.f, alu_Do.j0, alu_plain.f, t, n0, Plain.shr32 .u32 rfl x _ n1, mv]
  · simp [bulkheadlaw03_done.f, alu_Do.f, alu_Do.j0, alu_plain.f, t, n0, Plain.shr32 .i32 rfl (wrap32 x) _ n1, mv]

theorem mv_any (op x y : Int) (w : World) (h0 : 13 ≤ op) (h1 : op ≤ 15) (hy : 0 ≤ y) :
    Calls Try.prog 15 #[.int .i64 op, .int .u32 x, .int .u32 y] w fun e w' => e = .returned (.tuple #[.int .u32 (mv op x (y % 32).toNat), .bool true]) ∧ Drawn0 w w' :=
  bulkheadlaw03_done.calls 1 op x y _ _ w (done_mv op x y h0 h1 hy)

theorem add_any (x : Int) (w : World) :
    Calls Try.prog 15 #[.int .i64 5, .int .u32 x, .int .u32 x] w fun e w' => e = .returned (.tuple #[.int .u32 ((x + x) % 4294967296), .bool true]) ∧ Drawn0 w w' :=
  bulkheadlaw03_done.calls 1 5 x x _ _ w (by simp [bulkheadlaw03_done.f, alu_Do.f, alu_Do.j0, alu_plain.f])

set_option maxHeartbeats 400000 in
theorem moves_any (x n m : Int) (w : World) (x0 : 0 ≤ x) (x1 : x < 4294967296) (n0 : 0 ≤ n) (n1 : n < 256) (m0 : 0 ≤ m) (m1 : m < 256) :
    Calls Try.prog 5 #[.int .u32 x, .int .u8 n, .int .u8 m] w fun e w' => e = .returned (.bool true) ∧ Below w.heap.size w w' := by
  have H1 : Aside0 (∀ w, Calls Try.prog 15 #[.int .i64 13, .int .u32 1, .int .u32 1] w fun e w' => e = .returned (.tuple #[.int .u32 2, .bool true]) ∧ Drawn0 w w') := ⟨fun w => mv_any 13 1 1 w (by decide) (by decide) (by decide)⟩
  have d0 : 0 ≤ n % 32 := by omega
  have d1 : n % 32 < 32 := by omega
  have e0 : 0 ≤ m % (32 - n % 32) := Int.emod_nonneg _ (by omega)
  have e1 : m % (32 - n % 32) < 32 - n % 32 := Int.emod_lt_of_pos _ (by omega)
  go_enter Try.func5, Try.ntmps5
  go_wp2_with (go_at_call 15; (with_reducible refine (H1.out _).mono ?_); rintro e w' ⟨rfl, ⟨nd0, rfl⟩⟩)
  go_loopw [9] (fun op wr => ∃ z : Int, 13 ≤ z ∧ z ≤ 16 ∧ op = .int .i64 z ∧ Drawn0 w wr) (fun op _ => (16 - intOf op).toNat)
  case atStart => exact ⟨13, by omega, by omega, rfl, by repeat (first | exact Drawn0.refl _ | apply Drawn0.step)⟩
  case round =>
    obtain ⟨z, hz0, hz1, rfl, ⟨nd, rfl⟩⟩ := hrel
    by_cases hz : z ≤ 15
    · obtain ⟨HA, HB, HC⟩ : Aside0 (∀ w, Calls Try.prog 15 #[.int .i64 z, .int .u32 x, .int .u32 (n % 32)] w fun e w' => e = .returned (.tuple #[.int .u32 (mv z x (n % 32).toNat), .bool true]) ∧ Drawn0 w w') ∧
          Aside0 (∀ w, Calls Try.prog 15 #[.int .i64 z, .int .u32 (mv z x (n % 32).toNat), .int .u32 (m % (32 - n % 32))] w fun e w' => e = .returned (.tuple #[.int .u32 (mv z x ((n % 32).toNat + (m % (32 - n % 32)).toNat)), .bool true]) ∧ Drawn0 w w') ∧
          Aside0 (∀ w, Calls Try.prog 15 #[.int .i64 z, .int .u32 x, .int .u32 (n % 32 + m % (32 - n % 32) + 32)] w fun e w' => e = .returned (.tuple #[.int .u32 (mv z x ((n % 32).toNat + (m % (32 - n % 32)).toNat)), .bool true]) ∧ Drawn0 w w') := by
        refine ⟨⟨fun w => ?_⟩, ⟨fun w => ?_⟩, ⟨fun w => ?_⟩⟩
        · have h := mv_any z x (n % 32) w hz0 hz d0
          rwa [show n % 32 % 32 = n % 32 by omega] at h
        · have h := mv_any z (mv z x (n % 32).toNat) (m % (32 - n % 32)) w hz0 hz e0
          rwa [show m % (32 - n % 32) % 32 = m % (32 - n % 32) from Int.emod_eq_of_lt e0 (by omega), mv_mv] at h
        · have h := mv_any z x (n % 32 + m % (32 - n % 32) + 32) w hz0 hz (by omega)
          rwa [show (n % 32 + m % (32 - n % 32) + 32) % 32 = n % 32 + m % (32 - n % 32) by omega, Int.toNat_add d0 e0] at h
      generalize mv z x ((n % 32).toNat + (m % (32 - n % 32)).toNat) = b at *
      generalize mv z x (n % 32).toNat = a at *
      go_wp2_with (go_at_call 15; first | ((with_reducible refine (HA.out _).mono ?_); rintro e w' ⟨rfl, ⟨nd, rfl⟩⟩) | ((with_reducible refine (HB.out _).mono ?_); rintro e w' ⟨rfl, ⟨nd, rfl⟩⟩) | ((with_reducible refine (HC.out _).mono ?_); rintro e w' ⟨rfl, ⟨nd, rfl⟩⟩))
      go_roundw
      case rel => exact ⟨z + 1, by omega, by omega, rfl, by repeat (first | exact Drawn0.refl _ | apply Drawn0.step)⟩
      case measure => simp [intOf]; omega
    · have HA := Aside0.mk (add_any x)
      have HB : Aside0 (∀ w, Calls Try.prog 15 #[.int .i64 13, .int .u32 x, .int .u32 1] w fun e w' => e = .returned (.tuple #[.int .u32 ((x + x) % 4294967296), .bool true]) ∧ Drawn0 w w') := ⟨fun w => by
        have h := mv_any 13 x 1 w (by decide) (by decide) (by decide)
        rwa [show mv 13 x ((1 : Int) % 32).toNat = (x + x) % 4294967296 by simp [mv]; omega] at h⟩
      go_wp2_with (go_at_call 15; first | ((with_reducible refine (HA.out _).mono ?_); rintro e w' ⟨rfl, ⟨nd, rfl⟩⟩) | ((with_reducible refine (HB.out _).mono ?_); rintro e w' ⟨rfl, ⟨nd, rfl⟩⟩))
      go_ret
      exact ⟨rfl, by repeat (first | (with_reducible first | apply below_alloc | apply pw_below_drewN) | exact Below.refl _ _)⟩
end Go.Proofs.Ytjegoojkjcjpnaa.MovesWalk
