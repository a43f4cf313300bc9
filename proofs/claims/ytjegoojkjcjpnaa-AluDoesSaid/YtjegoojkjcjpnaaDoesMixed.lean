import Derived.Test.YtjegoojkjcjpnaaPmovedx1
import Derived.Test.YtjegoojkjcjpnaaDoesWalk
namespace Go.Proofs.Ytjegoojkjcjpnaa.DoesWalk
set_option linter.unusedVariables false
set_option linter.unusedSimpArgs false
open Go.RowKit Go.Proofs.YtjegoojkjcjpnaaW.PrintWords Go.Proofs.YtjegoojkjcjpnaaW.PrintLast Go.Proofs.YtjegoojkjcjpnaaW.PrintMore

theorem w_sub1 (i : Nat) (hi : i < 100) : wrap64 ((i : Int) - 1) = (i : Int) - 1 := by unfold wrap64; omega

theorem bit_f (x : Nat) (i : Nat) (hi : i < 32) : Pmoved.bulkheadref03_bit.f x i = some (((x / 2 ^ i % 2 : Nat)) : Int) := by
  have e := Plain.shr32 .u32 rfl x i (by omega)
  have t : Int.tmod (i : Int) 32 = i := by rw [Int.tmod_eq_emod_of_nonneg (by omega)]; omega
  unfold Pmoved.bulkheadref03_bit.f
  rw [t, if_pos (by omega), e]
  rw [Int.toNat_natCast, Int.tmod_eq_emod_of_nonneg (Int.ediv_nonneg (by omega) (Int.le_of_lt (Int.pow_pos (by decide))))]
  simp

/-- What 'mixed' makes: and, or, xor by the operation. -/
def mix (op : Int) (x y : Nat) : Nat := if op = 12 then x ^^^ y else if op = 11 then x ||| y else x &&& y

theorem mix_step (op : Int) (x y i : Nat) : mix op x y / 2 ^ i = mix op x y / 2 ^ (i + 1) * 2 + (if op = 12 then (if x / 2 ^ i % 2 + y / 2 ^ i % 2 = 1 then 1 else 0) else if op = 11 then (if 0 < x / 2 ^ i % 2 + y / 2 ^ i % 2 then 1 else 0) else (if x / 2 ^ i % 2 + y / 2 ^ i % 2 = 2 then 1 else 0)) := by
  have h : mix op x y / 2 ^ (i + 1) = mix op x y / 2 ^ i / 2 := by rw [Nat.div_div_eq_div_mul, ← Nat.pow_succ]
  rw [h]
  have hm : mix op x y / 2 ^ i % 2 = (if op = 12 then (if x / 2 ^ i % 2 + y / 2 ^ i % 2 = 1 then 1 else 0) else if op = 11 then (if 0 < x / 2 ^ i % 2 + y / 2 ^ i % 2 then 1 else 0) else (if x / 2 ^ i % 2 + y / 2 ^ i % 2 = 2 then 1 else 0)) := by
    have m1 := @Nat.and_mod_two_eq_one (x / 2 ^ i) (y / 2 ^ i)
    have m2 := @Nat.or_mod_two_eq_one (x / 2 ^ i) (y / 2 ^ i)
    have m3 := @Nat.xor_mod_two_eq_one (x / 2 ^ i) (y / 2 ^ i)
    unfold mix
    split
    · rw [Nat.xor_div_two_pow]; split <;> omega
    · split
      · rw [Nat.or_div_two_pow]; split <;> omega
      · rw [Nat.and_div_two_pow]; split <;> omega
  omega

theorem mix_lt (op : Int) (x y : Nat) (hx : x < 2 ^ 32) (hy : y < 2 ^ 32) : mix op x y < 2 ^ 32 := by
  unfold mix
  split
  · exact Nat.xor_lt_two_pow hx hy
  · split
    · exact Nat.or_lt_two_pow hx hy
    · exact Nat.and_lt_two_pow _ hy

theorem bit_any (x i : Nat) (hi : i < 32) (w : World) : Calls Try.prog 32 #[.int .u32 x, .int .i64 i] w fun e w' => e = .returned (.int .u32 ((x / 2 ^ i % 2 : Nat) : Int)) ∧ Drawn0 w w' :=
  Pmoved.bulkheadref03_bit.calls x i _ w (bit_f x i hi)

theorem u32_eq {a b : Int} (h : a = b) : Value.int .u32 a = Value.int .u32 b := by rw [h]
theorem i64_eq {a b : Int} (h : a = b) : Value.int .i64 a = Value.int .i64 b := by rw [h]

set_option maxHeartbeats 800000 in
theorem mixed_any (op : Int) (x y : Nat) (w : World) (hx : x < 2 ^ 32) (hy : y < 2 ^ 32) :
    Calls Try.prog 26 #[.int .i64 op, .int .u32 x, .int .u32 y] w fun e w' => e = .returned (.int .u32 ((mix op x y : Nat) : Int)) ∧ Drawn0 w w' := by
  have HL := Aside0.mk (mix_lt op x y hx hy)
  go_enter Try.func26, Try.ntmps26
  go_wp2
  go_loopw [7, 8] (fun out i wr => ∃ z : Int, -1 ≤ z ∧ z ≤ 31 ∧ i = .int .i64 z ∧ out = .int .u32 ((mix op x y / 2 ^ (z + 1).toNat : Nat) : Int) ∧ Drawn0 w wr) (fun _ i _ => (intOf i + 1).toNat)
  case atStart =>
    exact ⟨31, by omega, by omega, rfl, u32_eq (by rw [show ((31 : Int) + 1).toNat = 32 from rfl, Nat.div_eq_of_lt HL.out]; rfl), Drawn0.refl _⟩
  case round =>
    obtain ⟨z, hz0, hz1, rfl, rfl, ⟨nd, rfl⟩⟩ := hrel
    by_cases hz : 0 ≤ z
    · obtain ⟨i, rfl⟩ := Int.eq_ofNat_of_zero_le hz
      have e0 : ((i : Int) + 1).toNat = i + 1 := by omega
      rw [e0]
      clear e0
      have HS := Aside0.mk (mix_step op x y i)
      have hD : mix op x y / 2 ^ (i + 1) < 2 ^ 31 := by
        have := HL.out
        rw [Nat.pow_succ, Nat.mul_comm, ← Nat.div_div_eq_div_mul]
        have : mix op x y / 2 / 2 ^ i ≤ mix op x y / 2 := Nat.div_le_self _ _
        omega
      have HB1 := Aside0.mk (bit_any x i (by omega))
      have HB2 := Aside0.mk (bit_any y i (by omega))
      have hb1 : x / 2 ^ i % 2 < 2 := Nat.mod_lt _ (by decide)
      have hb2 : y / 2 ^ i % 2 < 2 := Nat.mod_lt _ (by decide)
      generalize hm : mix op x y / 2 ^ (i + 1) = m at *
      have HM := Aside0.mk hm
      clear hm
      generalize x / 2 ^ i % 2 = b at *
      generalize y / 2 ^ i % 2 = c at *
      have hb : b = 0 ∨ b = 1 := by omega
      have hc : c = 0 ∨ c = 1 := by omega
      clear hb1 hb2
      have ho : ((op == 11) = true ∧ (op == 12) = false) ∨ ((op == 11) = false ∧ (op == 12) = true) ∨ ((op == 11) = false ∧ (op == 12) = false) := by
        by_cases h : op = 11
        · left; subst h; decide
        · by_cases g : op = 12
          · right; left; subst g; decide
          · right; right; simp [h, g]
      have HV : ∃ t : Nat, t < 2 ∧ Aside0 (mix op x y / 2 ^ i = m * 2 + t) ∧ Aside0 (t = (if op = 12 then (if b + c = 1 then 1 else 0) else if op = 11 then (if 0 < b + c then 1 else 0) else (if b + c = 2 then 1 else 0))) :=
        ⟨_, by split <;> split <;> (try split) <;> omega, HS, ⟨rfl⟩⟩
      obtain ⟨t, ht, HV, HT⟩ := HV
      have HO := Aside0.mk ho
      rcases ho with ⟨h11, h12⟩ | ⟨h11, h12⟩ | ⟨h11, h12⟩ <;> rcases hb with rfl | rfl <;> rcases hc with rfl | rfl
      all_goals
        go_wp2_with (go_at_call 32; first | ((with_reducible refine (HB1.out _).mono ?_); rintro e w' ⟨rfl, ⟨n, rfl⟩⟩) | ((with_reducible refine (HB2.out _).mono ?_); rintro e w' ⟨rfl, ⟨n, rfl⟩⟩))
        go_roundw
        case rel => (refine ⟨(i : Int) - 1, by omega, by omega, rfl, u32_eq ?_, by repeat (first | exact Drawn0.refl _ | apply Drawn0.step)⟩; rw [show ((i : Int) - 1 + 1).toNat = i by omega, HV.out]; have ht' := HT.out; simp at ht'; simp at h11 h12; (try simp [h11, h12] at ht'); omega)
        case measure => simp [intOf]
    · obtain rfl : z = -1 := by omega
      go_wp2
      go_ret
      exact ⟨by simp, by repeat (first | exact Drawn0.refl _ | apply Drawn0.step)⟩

end Go.Proofs.Ytjegoojkjcjpnaa.DoesWalk
