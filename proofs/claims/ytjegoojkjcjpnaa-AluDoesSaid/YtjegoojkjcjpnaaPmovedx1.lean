-- PRINTED BY print.sh 35421559b90ae4d0a3588c463048766b98c2df88dd9212a6774a882060cdf62d: not written by this session
import Derived.Test.YtjegoojkjcjpnaaPmovedx0
namespace Go.Proofs.Ytjegoojkjcjpnaa.Pmoved
open Go.RowKit Go.Proofs.YtjegoojkjcjpnaaW.PrintWords Go.Proofs.YtjegoojkjcjpnaaW.PrintLast Go.Proofs.YtjegoojkjcjpnaaW.PrintMore
attribute [local go_sem] max2_int min2_int max_two min_two max_three min_three max_four min_four   -- for this text's walks alone
set_option linter.unusedVariables false
set_option linter.unusedSimpArgs false

/-! ### bulkheadref03_word: function 23 -/
def bulkheadref03_word.f (a0 : Int) : Option (Int) := if (Int.tmod a0 4294967296) < 0 then (some ((wrap64 ((Int.tmod a0 4294967296) + 4294967296)) % 4294967296)) else (some ((Int.tmod a0 4294967296) % 4294967296))
set_option maxHeartbeats 8000000 in
set_option maxRecDepth 100000 in
theorem bulkheadref03_word.calls (a0 : Int) (r : Int) (w : World) (h : bulkheadref03_word.f a0 = some r) :
    Calls Try.prog 23 #[.int .i64 a0] w fun e w' => e = .returned (.int .u32 r) ∧ Drawn0 w w' := by
  have H : (if (Int.tmod a0 4294967296) < 0 then (some ((wrap64 ((Int.tmod a0 4294967296) + 4294967296)) % 4294967296)) else (some ((Int.tmod a0 4294967296) % 4294967296))) = some r := h
  clear h
  by_cases c2 : (Int.tmod a0 4294967296) < 0
  · rw [if_pos c2] at H
    have c2b0 : decide ((Int.tmod a0 4294967296) < 0) = true := decide_eq_true c2
    clear c2
    obtain rfl := Option.some.inj H
    go_enter Try.func23, Try.ntmps23
    go_wp2
    go_ret
    exact ⟨by first | rfl | (simp; done) | (simp [*]; done), by repeat (first | exact Drawn0.refl _ | apply Drawn0.step)⟩
  · rw [if_neg c2] at H
    have c2b0 : decide ((Int.tmod a0 4294967296) < 0) = false := decide_eq_false c2
    clear c2
    obtain rfl := Option.some.inj H
    go_enter Try.func23, Try.ntmps23
    go_wp2
    go_ret
    exact ⟨by first | rfl | (simp; done) | (simp [*]; done), by repeat (first | exact Drawn0.refl _ | apply Drawn0.step)⟩

/-! ### bulkheadref03_bit: function 32 -/
def bulkheadref03_bit.f (a0 : Int) (a1 : Int) : Option (Int) := if 0 ≤ (Int.tmod a1 32) then (some (Int.tmod (shr .u32 a0 (Int.tmod a1 32)) 2)) else (none)
set_option maxHeartbeats 8000000 in
set_option maxRecDepth 100000 in
theorem bulkheadref03_bit.calls (a0 : Int) (a1 : Int) (r : Int) (w : World) (h : bulkheadref03_bit.f a0 a1 = some r) :
    Calls Try.prog 32 #[.int .u32 a0, .int .i64 a1] w fun e w' => e = .returned (.int .u32 r) ∧ Drawn0 w w' := by
  have H : (if 0 ≤ (Int.tmod a1 32) then (some (Int.tmod (shr .u32 a0 (Int.tmod a1 32)) 2)) else (none)) = some r := h
  clear h
  obtain ⟨ji3, hji3⟩ : ∃ j_ : Int, (Int.tmod a1 32) = j_ := ⟨_, rfl⟩
  replace H : (if 0 ≤ (ji3) then (some (Int.tmod (shr .u32 a0 (ji3)) 2)) else (none)) = some r := by first | (rw [hji3] at H; exact H) | (simp only [hji3] at H ⊢; exact H)
  by_cases c4 : 0 ≤ (ji3)
  · rw [if_pos c4] at H
    have c4b0 := eq_true c4
    have c4b1 : decide (0 ≤ (ji3)) = true := decide_eq_true c4
    clear c4
    obtain ⟨ji5, hji5⟩ : ∃ j_ : Int, (shr .u32 a0 (ji3)) = j_ := ⟨_, rfl⟩
    replace H : (some (Int.tmod (ji5) 2)) = some r := by first | (rw [hji5] at H; exact H) | (simp only [hji5] at H ⊢; exact H)
    have hji5_ : (a0 / 2 ^ min (ji3).toNat 32) = ji5 := hji5
    have hji5z : (ji3) ≤ 32 → (a0 / 2 ^ (ji3).toNat) = ji5 := shr_small hji5
    obtain rfl := Option.some.inj H
    go_enter Try.func32, Try.ntmps32
    go_wp2
    go_ret
    exact ⟨by first | rfl | (simp; done) | (simp only [← hji3, ← hji5] <;> (first | rfl | simp)) | (simp [*]; done), by repeat (first | exact Drawn0.refl _ | apply Drawn0.step)⟩
  · rw [if_neg c4] at H
    exact absurd H (by simp)

/-! ### bulkheadref03_moved: function 27 -/
def bulkheadref03_moved.l0 : Nat → Int → Int → Int → Option (Int)
  | 0, _, _, _ => none
  | k + 1, x0, x1, x7 => if x7 > 0 then ((bulkheadref03_bit.f x1 31).bind fun t101 => (if x0 = 13 then ((bulkheadref03_word.f (wrap64 (2 * (wrap64 (x1))))).bind fun t102 => (bulkheadref03_moved.l0 k x0 t102 ((x7 - 1) % 4294967296))) else (if x0 = 15 then (if t101 = 1 then (bulkheadref03_moved.l0 k x0 ((((Int.tdiv x1 2) % 4294967296) + 2147483648) % 4294967296) ((x7 - 1) % 4294967296)) else (bulkheadref03_moved.l0 k x0 ((Int.tdiv x1 2) % 4294967296) ((x7 - 1) % 4294967296))) else (bulkheadref03_moved.l0 k x0 ((Int.tdiv x1 2) % 4294967296) ((x7 - 1) % 4294967296))))) else (some x1)
def bulkheadref03_moved.f (k : Nat) (a0 : Int) (a1 : Int) (a2 : Int) : Option (Int) := bulkheadref03_moved.l0 k a0 a1 (Int.tmod a2 32)
theorem bulkheadref03_moved.mono_l : ∀ k, (∀ y0 y1 y2, LeO (bulkheadref03_moved.l0 k y0 y1 y2) (bulkheadref03_moved.l0 (k + 1) y0 y1 y2))
  | 0 => fun _ _ _ r h => by simp [bulkheadref03_moved.l0] at h
  | k + 1 => by
    have ih0 := bulkheadref03_moved.mono_l k
    · intro y0 y1 y2
      unfold bulkheadref03_moved.l0
      repeat' first
      | (with_reducible exact ih0 _ _ _)
      | (with_reducible exact LeO.refl _)
      | (with_reducible exact LeO.none _)
      | (with_reducible refine LeO.ite ?_ ?_)
      | (with_reducible refine LeO.bind ?_ (fun _ => ?_))
      | exact ih0 _ _ _
      | exact LeO.none _
      | refine LeO.ite ?_ ?_
      | refine LeO.bind ?_ (fun _ => ?_)
theorem bulkheadref03_moved.mono : ∀ a0 a1 a2 k, LeO (bulkheadref03_moved.f k a0 a1 a2) (bulkheadref03_moved.f (k + 1) a0 a1 a2) := by
  intro a0 a1 a2 k
  have ih0 := bulkheadref03_moved.mono_l k
  unfold bulkheadref03_moved.f
  repeat' first
      | (with_reducible exact ih0 _ _ _)
      | (with_reducible exact LeO.refl _)
      | (with_reducible exact LeO.none _)
      | (with_reducible refine LeO.ite ?_ ?_)
      | (with_reducible refine LeO.bind ?_ (fun _ => ?_))
      | exact ih0 _ _ _
      | exact LeO.none _
      | refine LeO.ite ?_ ?_
      | refine LeO.bind ?_ (fun _ => ?_)
set_option maxHeartbeats 8000000 in
set_option maxRecDepth 100000 in
theorem bulkheadref03_moved.calls (k : Nat) (a0 : Int) (a1 : Int) (a2 : Int) (r : Int) (w : World) (h : bulkheadref03_moved.f k a0 a1 a2 = some r) :
    Calls Try.prog 27 #[.int .i64 a0, .int .u32 a1, .int .u32 a2] w fun e w' => e = .returned (.int .u32 r) ∧ Drawn0 w w' := by
  have H : (bulkheadref03_moved.l0 k a0 a1 (Int.tmod a2 32)) = some r := h
  clear h
  have H' := Aside0.mk H
  clear H
  go_enter Try.func27, Try.ntmps27
  go_wp2
  go_loopg [1, 7] k (fun kq v1 v7 w' => ∃ (x1_1 : Int) (x7_1 : Int), v1 = .int .u32 x1_1 ∧ v7 = .int .u32 x7_1 ∧ Aside0 (bulkheadref03_moved.l0 kq a0 x1_1 x7_1 = some r) ∧ Aside0 (kq ≤ k) ∧ Drawn0 w w')
  case atStart => exact ⟨(a1), (Int.tmod a2 32), (by first | rfl | (simp; done) | (simp [*]; done)), (by first | rfl | (simp; done) | (simp [*]; done)), H', ⟨Nat.le_refl _⟩, by repeat (first | exact Drawn0.refl _ | apply Drawn0.step)⟩
  case round =>
    clear H'
    try clear c2
    try clear p2
    obtain ⟨x1_1, x7_1, rfl, rfl, HA, HK1, ⟨m1, rfl⟩⟩ := hrel
    cases gk with
    | zero => exact absurd HA.out (by simp [bulkheadref03_moved.l0])
    | succ k1 =>
      have H := HA.out
      clear HA
      simp only [bulkheadref03_moved.l0] at H
      by_cases c4 : x7_1 > 0
      · rw [if_pos c4] at H
        have c4b0 : decide (0 < x7_1) = true := decide_eq_true c4
        clear c4
        replace H := Option.bind_eq_some_iff.mp H
        obtain ⟨t101, A50, H⟩ := H
        replace H : (if a0 = 13 then ((bulkheadref03_word.f (wrap64 (2 * (wrap64 (x1_1))))).bind fun t102 => (bulkheadref03_moved.l0 k1 a0 t102 ((x7_1 - 1) % 4294967296))) else (if a0 = 15 then (if t101 = 1 then (bulkheadref03_moved.l0 k1 a0 ((((Int.tdiv x1_1 2) % 4294967296) + 2147483648) % 4294967296) ((x7_1 - 1) % 4294967296)) else (bulkheadref03_moved.l0 k1 a0 ((Int.tdiv x1_1 2) % 4294967296) ((x7_1 - 1) % 4294967296))) else (bulkheadref03_moved.l0 k1 a0 ((Int.tdiv x1_1 2) % 4294967296) ((x7_1 - 1) % 4294967296)))) = some r := H
        have A5 := Aside0.mk A50
        clear A50
        by_cases c6 : a0 = 13
        · rw [if_pos c6] at H
          have c6b0 : (a0 == 13) = true := beq_iff_eq.mpr c6
          have c6b1 : (a0 != 13) = false := bne_eq_false_iff_eq.mpr c6
          clear c6
          replace H := Option.bind_eq_some_iff.mp H
          obtain ⟨t102, A70, H⟩ := H
          replace H : (bulkheadref03_moved.l0 k1 a0 t102 ((x7_1 - 1) % 4294967296)) = some r := H
          have A7 := Aside0.mk A70
          clear A70
          have H' := Aside0.mk H
          clear H
          go_wp2_with (first | ((with_reducible refine gate_callee (f := 32) rfl ?_); refine goesL_ (some 16) rfl rfl Try.func32 (by kernel_rfl) rfl #[.int .u32 x1_1, .int .i64 31] rfl (by (try simp only [List.map_toArray, List.map_cons, List.map_nil]); first | done | rfl | (simp only [List.length_drop, List.length_take]; rfl)) ?_; (with_reducible refine (bulkheadref03_bit.calls x1_1 31 t101 _ A5.out).mono ?_); rintro e w' ⟨rfl, ⟨nd, rfl⟩⟩; refine ⟨_, rfl, ?_⟩) | ((with_reducible refine gate_callee (f := 23) rfl ?_); refine goesL_ (some 22) rfl rfl Try.func23 (by kernel_rfl) rfl #[.int .i64 (wrap64 (2 * (wrap64 (x1_1))))] rfl (by (try simp only [List.map_toArray, List.map_cons, List.map_nil]); first | done | rfl | (simp only [List.length_drop, List.length_take]; rfl)) ?_; (with_reducible refine (bulkheadref03_word.calls (wrap64 (2 * (wrap64 (x1_1)))) t102 _ A7.out).mono ?_); rintro e w' ⟨rfl, ⟨nd, rfl⟩⟩; refine ⟨_, rfl, ?_⟩))
          go_roundg k1
          case measure => have := HK1.out; omega
          case rel => exact ⟨(t102), ((x7_1 - 1) % 4294967296), (by first | rfl | (simp; done) | (simp [*]; done)), (by first | rfl | (simp; done) | (simp [*]; done)), H', ⟨by have := HK1.out; omega⟩, by repeat (first | exact Drawn0.refl _ | apply Drawn0.step)⟩
        · rw [if_neg c6] at H
          have c6b0 : (a0 == 13) = false := beq_eq_false_iff_ne.mpr c6
          have c6b1 : (a0 != 13) = true := bne_iff_ne.mpr c6
          by_cases c8 : a0 = 15
          · rw [if_pos c8] at H
            have c8b0 : (a0 == 15) = true := beq_iff_eq.mpr c8
            have c8b1 : (a0 != 15) = false := bne_eq_false_iff_eq.mpr c8
            clear c8
            by_cases c9 : t101 = 1
            · rw [if_pos c9] at H
              have c9b0 : (t101 == 1) = true := beq_iff_eq.mpr c9
              have c9b1 : (t101 != 1) = false := bne_eq_false_iff_eq.mpr c9
              clear c9
              have H' := Aside0.mk H
              clear H
              go_wp2_with (first | ((with_reducible refine gate_callee (f := 32) rfl ?_); refine goesL_ (some 16) rfl rfl Try.func32 (by kernel_rfl) rfl #[.int .u32 x1_1, .int .i64 31] rfl (by (try simp only [List.map_toArray, List.map_cons, List.map_nil]); first | done | rfl | (simp only [List.length_drop, List.length_take]; rfl)) ?_; (with_reducible refine (bulkheadref03_bit.calls x1_1 31 t101 _ A5.out).mono ?_); rintro e w' ⟨rfl, ⟨nd, rfl⟩⟩; refine ⟨_, rfl, ?_⟩))
              go_roundg k1
              case measure => have := HK1.out; omega
              case rel => exact ⟨((((Int.tdiv x1_1 2) % 4294967296) + 2147483648) % 4294967296), ((x7_1 - 1) % 4294967296), (by first | rfl | (simp; done) | (simp [*]; done)), (by first | rfl | (simp; done) | (simp [*]; done)), H', ⟨by have := HK1.out; omega⟩, by repeat (first | exact Drawn0.refl _ | apply Drawn0.step)⟩
            · rw [if_neg c9] at H
              have c9b0 : (t101 == 1) = false := beq_eq_false_iff_ne.mpr c9
              have c9b1 : (t101 != 1) = true := bne_iff_ne.mpr c9
              have H' := Aside0.mk H
              clear H
              go_wp2_with (first | ((with_reducible refine gate_callee (f := 32) rfl ?_); refine goesL_ (some 16) rfl rfl Try.func32 (by kernel_rfl) rfl #[.int .u32 x1_1, .int .i64 31] rfl (by (try simp only [List.map_toArray, List.map_cons, List.map_nil]); first | done | rfl | (simp only [List.length_drop, List.length_take]; rfl)) ?_; (with_reducible refine (bulkheadref03_bit.calls x1_1 31 t101 _ A5.out).mono ?_); rintro e w' ⟨rfl, ⟨nd, rfl⟩⟩; refine ⟨_, rfl, ?_⟩))
              go_roundg k1
              case measure => have := HK1.out; omega
              case rel => exact ⟨((Int.tdiv x1_1 2) % 4294967296), ((x7_1 - 1) % 4294967296), (by first | rfl | (simp; done) | (simp [*]; done)), (by first | rfl | (simp; done) | (simp [*]; done)), H', ⟨by have := HK1.out; omega⟩, by repeat (first | exact Drawn0.refl _ | apply Drawn0.step)⟩
          · rw [if_neg c8] at H
            have c8b0 : (a0 == 15) = false := beq_eq_false_iff_ne.mpr c8
            have c8b1 : (a0 != 15) = true := bne_iff_ne.mpr c8
            have H' := Aside0.mk H
            clear H
            go_wp2_with (first | ((with_reducible refine gate_callee (f := 32) rfl ?_); refine goesL_ (some 16) rfl rfl Try.func32 (by kernel_rfl) rfl #[.int .u32 x1_1, .int .i64 31] rfl (by (try simp only [List.map_toArray, List.map_cons, List.map_nil]); first | done | rfl | (simp only [List.length_drop, List.length_take]; rfl)) ?_; (with_reducible refine (bulkheadref03_bit.calls x1_1 31 t101 _ A5.out).mono ?_); rintro e w' ⟨rfl, ⟨nd, rfl⟩⟩; refine ⟨_, rfl, ?_⟩))
            go_roundg k1
            case measure => have := HK1.out; omega
            case rel => exact ⟨((Int.tdiv x1_1 2) % 4294967296), ((x7_1 - 1) % 4294967296), (by first | rfl | (simp; done) | (simp [*]; done)), (by first | rfl | (simp; done) | (simp [*]; done)), H', ⟨by have := HK1.out; omega⟩, by repeat (first | exact Drawn0.refl _ | apply Drawn0.step)⟩
      · rw [if_neg c4] at H
        have c4b0 : decide (0 < x7_1) = false := decide_eq_false c4
        clear c4
        obtain rfl := Option.some.inj H
        go_wp2
        go_ret
        exact ⟨by first | rfl | (simp; done) | (simp [*]; done), by repeat (first | exact Drawn0.refl _ | apply Drawn0.step)⟩

end Go.Proofs.Ytjegoojkjcjpnaa.Pmoved
