-- PRINTED BY print.sh 35421559b90ae4d0a3588c463048766b98c2df88dd9212a6774a882060cdf62d: not written by this session
import Derived.Test.YtjegoojkjcjpnaaPAluOrdersx0
import Derived.Test.YtjegoojkjcjpnaaPAluOrdersx1
namespace Go.Proofs.Ytjegoojkjcjpnaa.PAluOrders
open Go.RowKit Go.Proofs.YtjegoojkjcjpnaaW.PrintWords Go.Proofs.YtjegoojkjcjpnaaW.PrintLast Go.Proofs.YtjegoojkjcjpnaaW.PrintMore
attribute [local go_sem] max2_int min2_int max_two min_two max_three min_three max_four min_four   -- for this text's walks alone
set_option linter.unusedVariables false
set_option linter.unusedSimpArgs false

/-! ### bulkheadlaw03_AluOrders: function 9 -/
def bulkheadlaw03_AluOrders.j0 : Nat → Int → Int → Int → Int → Int → Int → Bool → Option (Bool)
  | 0, _, _, _, _, _, _, _ => none
  | k + 1, x0, x1, x5, x7, x9, x11, x53 => if x53 = true then (some false) else (if x0 = x1 then (if ((Go.bits .xor .u32 x0 x1) / 2147483648) = 1 then (if ((x5 + x7) % 4294967296) = 0 then (if ((x9 + x11) % 4294967296) = 0 then (if ((1 - x5) % 4294967296) = x9 then ((bulkheadlaw03_branched.f x0 x1 x5 x9 0).bind fun t127 => (some t127)) else (some false)) else (some false)) else (some false)) else (if ((x5 + x7) % 4294967296) = 0 then (if ((x9 + x11) % 4294967296) = 0 then (if x5 = x9 then ((bulkheadlaw03_branched.f x0 x1 x5 x9 0).bind fun t128 => (some t128)) else (some false)) else (some false)) else (some false))) else (if ((Go.bits .xor .u32 x0 x1) / 2147483648) = 1 then (if ((x5 + x7) % 4294967296) = 1 then (if ((x9 + x11) % 4294967296) = 1 then (if ((1 - x5) % 4294967296) = x9 then ((bulkheadlaw03_branched.f x0 x1 x5 x9 1).bind fun t129 => (some t129)) else (some false)) else (some false)) else (some false)) else (if ((x5 + x7) % 4294967296) = 1 then (if ((x9 + x11) % 4294967296) = 1 then (if x5 = x9 then ((bulkheadlaw03_branched.f x0 x1 x5 x9 1).bind fun t130 => (some t130)) else (some false)) else (some false)) else (some false))))
def bulkheadlaw03_AluOrders.f (k : Nat) (a0 : Int) (a1 : Int) : Option (Bool) := (bulkheadlaw03_done.f k 16 a0 a1).bind fun bt119 => ((bulkheadlaw03_done.f k 16 a1 a0).bind fun bt121 => ((bulkheadlaw03_done.f k 17 a0 a1).bind fun bt123 => ((bulkheadlaw03_done.f k 17 a1 a0).bind fun bt125 => (if bt119.2 = true then (if bt121.2 = true then (if bt123.2 = true then (bulkheadlaw03_AluOrders.j0 k a0 a1 bt119.1 bt121.1 bt123.1 bt125.1 (!bt125.2)) else (bulkheadlaw03_AluOrders.j0 k a0 a1 bt119.1 bt121.1 bt123.1 bt125.1 true)) else (bulkheadlaw03_AluOrders.j0 k a0 a1 bt119.1 bt121.1 bt123.1 bt125.1 true)) else (bulkheadlaw03_AluOrders.j0 k a0 a1 bt119.1 bt121.1 bt123.1 bt125.1 true)))))
theorem bulkheadlaw03_AluOrders.mono_l : ∀ k, (∀ y0 y1 y2 y3 y4 y5 y6, LeO (bulkheadlaw03_AluOrders.j0 k y0 y1 y2 y3 y4 y5 y6) (bulkheadlaw03_AluOrders.j0 (k + 1) y0 y1 y2 y3 y4 y5 y6))
  | 0 => fun _ _ _ _ _ _ _ r h => by simp [bulkheadlaw03_AluOrders.j0] at h
  | k + 1 => by
    have ih0 := bulkheadlaw03_AluOrders.mono_l k
    · intro y0 y1 y2 y3 y4 y5 y6
      unfold bulkheadlaw03_AluOrders.j0
      repeat' first
      | (with_reducible exact ih0 _ _ _ _ _ _ _)
      | (with_reducible exact bulkheadlaw03_done.mono _ _ _ _)
      | (with_reducible exact LeO.refl _)
      | (with_reducible exact LeO.none _)
      | (with_reducible refine LeO.ite ?_ ?_)
      | (with_reducible refine LeO.bind ?_ (fun _ => ?_))
      | exact ih0 _ _ _ _ _ _ _
      | exact bulkheadlaw03_done.mono _ _ _ _
      | exact LeO.none _
      | refine LeO.ite ?_ ?_
      | refine LeO.bind ?_ (fun _ => ?_)
theorem bulkheadlaw03_AluOrders.mono : ∀ a0 a1 k, LeO (bulkheadlaw03_AluOrders.f k a0 a1) (bulkheadlaw03_AluOrders.f (k + 1) a0 a1) := by
  intro a0 a1 k
  have ih0 := bulkheadlaw03_AluOrders.mono_l k
  unfold bulkheadlaw03_AluOrders.f
  repeat' first
      | (with_reducible exact ih0 _ _ _ _ _ _ _)
      | (with_reducible exact bulkheadlaw03_done.mono _ _ _ _)
      | (with_reducible exact LeO.refl _)
      | (with_reducible exact LeO.none _)
      | (with_reducible refine LeO.ite ?_ ?_)
      | (with_reducible refine LeO.bind ?_ (fun _ => ?_))
      | exact ih0 _ _ _ _ _ _ _
      | exact bulkheadlaw03_done.mono _ _ _ _
      | exact LeO.none _
      | refine LeO.ite ?_ ?_
      | refine LeO.bind ?_ (fun _ => ?_)
set_option maxHeartbeats 8000000 in
set_option maxRecDepth 100000 in
theorem bulkheadlaw03_AluOrders.calls (k : Nat) (a0 : Int) (a1 : Int) (r : Bool) (w : World) (h : bulkheadlaw03_AluOrders.f k a0 a1 = some r) :
    Calls Try.prog 9 #[.int .u32 a0, .int .u32 a1] w fun e w' => e = .returned (.bool r) ∧ Drawn0 w w' := by
  have H : ((bulkheadlaw03_done.f k 16 a0 a1).bind fun bt119 => ((bulkheadlaw03_done.f k 16 a1 a0).bind fun bt121 => ((bulkheadlaw03_done.f k 17 a0 a1).bind fun bt123 => ((bulkheadlaw03_done.f k 17 a1 a0).bind fun bt125 => (if bt119.2 = true then (if bt121.2 = true then (if bt123.2 = true then (bulkheadlaw03_AluOrders.j0 k a0 a1 bt119.1 bt121.1 bt123.1 bt125.1 (!bt125.2)) else (bulkheadlaw03_AluOrders.j0 k a0 a1 bt119.1 bt121.1 bt123.1 bt125.1 true)) else (bulkheadlaw03_AluOrders.j0 k a0 a1 bt119.1 bt121.1 bt123.1 bt125.1 true)) else (bulkheadlaw03_AluOrders.j0 k a0 a1 bt119.1 bt121.1 bt123.1 bt125.1 true)))))) = some r := h
  clear h
  replace H := Option.bind_eq_some_iff.mp H
  obtain ⟨⟨t119, t120⟩, A30, H⟩ := H
  replace H : ((bulkheadlaw03_done.f k 16 a1 a0).bind fun bt121 => ((bulkheadlaw03_done.f k 17 a0 a1).bind fun bt123 => ((bulkheadlaw03_done.f k 17 a1 a0).bind fun bt125 => (if t120 = true then (if bt121.2 = true then (if bt123.2 = true then (bulkheadlaw03_AluOrders.j0 k a0 a1 t119 bt121.1 bt123.1 bt125.1 (!bt125.2)) else (bulkheadlaw03_AluOrders.j0 k a0 a1 t119 bt121.1 bt123.1 bt125.1 true)) else (bulkheadlaw03_AluOrders.j0 k a0 a1 t119 bt121.1 bt123.1 bt125.1 true)) else (bulkheadlaw03_AluOrders.j0 k a0 a1 t119 bt121.1 bt123.1 bt125.1 true))))) = some r := H
  have A3 := Aside0.mk A30
  clear A30
  replace H := Option.bind_eq_some_iff.mp H
  obtain ⟨⟨t121, t122⟩, A40, H⟩ := H
  replace H : ((bulkheadlaw03_done.f k 17 a0 a1).bind fun bt123 => ((bulkheadlaw03_done.f k 17 a1 a0).bind fun bt125 => (if t120 = true then (if t122 = true then (if bt123.2 = true then (bulkheadlaw03_AluOrders.j0 k a0 a1 t119 t121 bt123.1 bt125.1 (!bt125.2)) else (bulkheadlaw03_AluOrders.j0 k a0 a1 t119 t121 bt123.1 bt125.1 true)) else (bulkheadlaw03_AluOrders.j0 k a0 a1 t119 t121 bt123.1 bt125.1 true)) else (bulkheadlaw03_AluOrders.j0 k a0 a1 t119 t121 bt123.1 bt125.1 true)))) = some r := H
  have A4 := Aside0.mk A40
  clear A40
  replace H := Option.bind_eq_some_iff.mp H
  obtain ⟨⟨t123, t124⟩, A50, H⟩ := H
  replace H : ((bulkheadlaw03_done.f k 17 a1 a0).bind fun bt125 => (if t120 = true then (if t122 = true then (if t124 = true then (bulkheadlaw03_AluOrders.j0 k a0 a1 t119 t121 t123 bt125.1 (!bt125.2)) else (bulkheadlaw03_AluOrders.j0 k a0 a1 t119 t121 t123 bt125.1 true)) else (bulkheadlaw03_AluOrders.j0 k a0 a1 t119 t121 t123 bt125.1 true)) else (bulkheadlaw03_AluOrders.j0 k a0 a1 t119 t121 t123 bt125.1 true))) = some r := H
  have A5 := Aside0.mk A50
  clear A50
  replace H := Option.bind_eq_some_iff.mp H
  obtain ⟨⟨t125, t126⟩, A60, H⟩ := H
  replace H : (if t120 = true then (if t122 = true then (if t124 = true then (bulkheadlaw03_AluOrders.j0 k a0 a1 t119 t121 t123 t125 (!t126)) else (bulkheadlaw03_AluOrders.j0 k a0 a1 t119 t121 t123 t125 true)) else (bulkheadlaw03_AluOrders.j0 k a0 a1 t119 t121 t123 t125 true)) else (bulkheadlaw03_AluOrders.j0 k a0 a1 t119 t121 t123 t125 true)) = some r := H
  have A6 := Aside0.mk A60
  clear A60
  have HC7 := Aside0.mk H
  clear H
  go_enter Try.func9, Try.ntmps9
  go_upto_region 5 with (first | ((with_reducible refine gate_callee (f := 15) rfl ?_); refine goesL_ (some 19) rfl rfl Try.func15 (by kernel_rfl) rfl #[.int .i64 16, .int .u32 a0, .int .u32 a1] rfl (by (try simp only [List.map_toArray, List.map_cons, List.map_nil]); first | done | rfl | (simp only [List.length_drop, List.length_take]; rfl)) ?_; (with_reducible refine (bulkheadlaw03_done.calls k 16 a0 a1 t119 t120 _ A3.out).mono ?_); rintro e w' ⟨rfl, ⟨nd, rfl⟩⟩; refine ⟨_, rfl, ?_⟩) | ((with_reducible refine gate_callee (f := 15) rfl ?_); refine goesL_ (some 25) rfl rfl Try.func15 (by kernel_rfl) rfl #[.int .i64 16, .int .u32 a1, .int .u32 a0] rfl (by (try simp only [List.map_toArray, List.map_cons, List.map_nil]); first | done | rfl | (simp only [List.length_drop, List.length_take]; rfl)) ?_; (with_reducible refine (bulkheadlaw03_done.calls k 16 a1 a0 t121 t122 _ A4.out).mono ?_); rintro e w' ⟨rfl, ⟨nd, rfl⟩⟩; refine ⟨_, rfl, ?_⟩) | ((with_reducible refine gate_callee (f := 15) rfl ?_); refine goesL_ (some 31) rfl rfl Try.func15 (by kernel_rfl) rfl #[.int .i64 17, .int .u32 a0, .int .u32 a1] rfl (by (try simp only [List.map_toArray, List.map_cons, List.map_nil]); first | done | rfl | (simp only [List.length_drop, List.length_take]; rfl)) ?_; (with_reducible refine (bulkheadlaw03_done.calls k 17 a0 a1 t123 t124 _ A5.out).mono ?_); rintro e w' ⟨rfl, ⟨nd, rfl⟩⟩; refine ⟨_, rfl, ?_⟩) | ((with_reducible refine gate_callee (f := 15) rfl ?_); refine goesL_ (some 37) rfl rfl Try.func15 (by kernel_rfl) rfl #[.int .i64 17, .int .u32 a1, .int .u32 a0] rfl (by (try simp only [List.map_toArray, List.map_cons, List.map_nil]); first | done | rfl | (simp only [List.length_drop, List.length_take]; rfl)) ?_; (with_reducible refine (bulkheadlaw03_done.calls k 17 a1 a0 t125 t126 _ A6.out).mono ?_); rintro e w' ⟨rfl, ⟨nd, rfl⟩⟩; refine ⟨_, rfl, ?_⟩))
  (try simp only [Act.put, List.setIfInBounds_toArray, List.set_cons_zero, List.set_cons_succ])
  go_cut [53] (fun v53 wc => ∃ (kq : Nat) (x53_6 : Bool), v53 = .bool x53_6 ∧ Aside0 (bulkheadlaw03_AluOrders.j0 kq a0 a1 t119 t121 t123 t125 x53_6 = some r) ∧ Aside0 (kq ≤ k) ∧ Drawn0 w wc)
  case first =>
    have H := HC7.out
    clear HC7
    by_cases c8 : t120 = true
    · subst c8
      have H1 : (if t122 = true then (if t124 = true then (bulkheadlaw03_AluOrders.j0 k a0 a1 t119 t121 t123 t125 (!t126)) else (bulkheadlaw03_AluOrders.j0 k a0 a1 t119 t121 t123 t125 true)) else (bulkheadlaw03_AluOrders.j0 k a0 a1 t119 t121 t123 t125 true)) = some r := by rw [if_pos rfl] at H; exact H
      clear H
      have H := H1
      clear H1
      by_cases c9 : t122 = true
      · subst c9
        have H1 : (if t124 = true then (bulkheadlaw03_AluOrders.j0 k a0 a1 t119 t121 t123 t125 (!t126)) else (bulkheadlaw03_AluOrders.j0 k a0 a1 t119 t121 t123 t125 true)) = some r := by rw [if_pos rfl] at H; exact H
        clear H
        have H := H1
        clear H1
        by_cases c10 : t124 = true
        · subst c10
          have H1 : (bulkheadlaw03_AluOrders.j0 k a0 a1 t119 t121 t123 t125 (!t126)) = some r := by rw [if_pos rfl] at H; exact H
          clear H
          have H := H1
          clear H1
          have H' := Aside0.mk H
          clear H
          go_wp2
          go_meet
          case rel => exact ⟨_, (!t126), (by first | rfl | (simp; done) | (simp [*]; done)), H', ⟨by first | omega | exact Nat.le_refl _⟩, by repeat (first | exact Drawn0.refl _ | apply Drawn0.step)⟩
        · replace c10 := Bool.eq_false_iff.mpr c10
          subst c10
          have H1 : (bulkheadlaw03_AluOrders.j0 k a0 a1 t119 t121 t123 t125 true) = some r := by rw [if_neg (show ¬ (false = true) by decide)] at H; exact H
          clear H
          have H := H1
          clear H1
          have H' := Aside0.mk H
          clear H
          go_wp2
          go_meet
          case rel => exact ⟨_, (true), (by first | rfl | (simp; done) | (simp [*]; done)), H', ⟨by first | omega | exact Nat.le_refl _⟩, by repeat (first | exact Drawn0.refl _ | apply Drawn0.step)⟩
      · replace c9 := Bool.eq_false_iff.mpr c9
        subst c9
        have H1 : (bulkheadlaw03_AluOrders.j0 k a0 a1 t119 t121 t123 t125 true) = some r := by rw [if_neg (show ¬ (false = true) by decide)] at H; exact H
        clear H
        have H := H1
        clear H1
        have H' := Aside0.mk H
        clear H
        go_wp2
        go_meet
        case rel => exact ⟨_, (true), (by first | rfl | (simp; done) | (simp [*]; done)), H', ⟨by first | omega | exact Nat.le_refl _⟩, by repeat (first | exact Drawn0.refl _ | apply Drawn0.step)⟩
    · replace c8 := Bool.eq_false_iff.mpr c8
      subst c8
      have H1 : (bulkheadlaw03_AluOrders.j0 k a0 a1 t119 t121 t123 t125 true) = some r := by rw [if_neg (show ¬ (false = true) by decide)] at H; exact H
      clear H
      have H := H1
      clear H1
      have H' := Aside0.mk H
      clear H
      go_wp2
      go_meet
      case rel => exact ⟨_, (true), (by first | rfl | (simp; done) | (simp [*]; done)), H', ⟨by first | omega | exact Nat.le_refl _⟩, by repeat (first | exact Drawn0.refl _ | apply Drawn0.step)⟩
  case rest =>
    clear HC7
    try clear c1
    try clear p2
    try clear c8
    try clear c9
    try clear c10
    obtain ⟨kq, x53_6, rfl, HA, HJ6, ⟨mc6, rfl⟩⟩ := hcut
    cases kq with
    | zero => exact absurd HA.out (by simp [bulkheadlaw03_AluOrders.j0])
    | succ kj6 =>
      have H := HA.out
      clear HA
      simp only [bulkheadlaw03_AluOrders.j0] at H
      by_cases c11 : x53_6 = true
      · subst c11
        have H1 : (some false) = some r := by rw [if_pos rfl] at H; exact H
        clear H
        have H := H1
        clear H1
        obtain rfl := Option.some.inj H
        go_wp2
        go_ret
        exact ⟨by first | rfl | (simp; done) | (simp [*]; done), by repeat (first | exact Drawn0.refl _ | apply Drawn0.step)⟩
      · replace c11 := Bool.eq_false_iff.mpr c11
        subst c11
        have H1 : (if a0 = a1 then (if ((Go.bits .xor .u32 a0 a1) / 2147483648) = 1 then (if ((t119 + t121) % 4294967296) = 0 then (if ((t123 + t125) % 4294967296) = 0 then (if ((1 - t119) % 4294967296) = t123 then ((bulkheadlaw03_branched.f a0 a1 t119 t123 0).bind fun t127 => (some t127)) else (some false)) else (some false)) else (some false)) else (if ((t119 + t121) % 4294967296) = 0 then (if ((t123 + t125) % 4294967296) = 0 then (if t119 = t123 then ((bulkheadlaw03_branched.f a0 a1 t119 t123 0).bind fun t128 => (some t128)) else (some false)) else (some false)) else (some false))) else (if ((Go.bits .xor .u32 a0 a1) / 2147483648) = 1 then (if ((t119 + t121) % 4294967296) = 1 then (if ((t123 + t125) % 4294967296) = 1 then (if ((1 - t119) % 4294967296) = t123 then ((bulkheadlaw03_branched.f a0 a1 t119 t123 1).bind fun t129 => (some t129)) else (some false)) else (some false)) else (some false)) else (if ((t119 + t121) % 4294967296) = 1 then (if ((t123 + t125) % 4294967296) = 1 then (if t119 = t123 then ((bulkheadlaw03_branched.f a0 a1 t119 t123 1).bind fun t130 => (some t130)) else (some false)) else (some false)) else (some false)))) = some r := by rw [if_neg (show ¬ (false = true) by decide)] at H; exact H
        clear H
        have H := H1
        clear H1
        by_cases c12 : a0 = a1
        · rw [if_pos c12] at H
          have c12b0 : (a0 == a1) = true := beq_iff_eq.mpr c12
          have c12b1 : (a0 != a1) = false := bne_eq_false_iff_eq.mpr c12
          clear c12
          by_cases c13 : ((Go.bits .xor .u32 a0 a1) / 2147483648) = 1
          · rw [if_pos c13] at H
            have c13b0 : (((Go.bits .xor .u32 a0 a1) / 2147483648) == 1) = true := beq_iff_eq.mpr c13
            have c13b1 : (((Go.bits .xor .u32 a0 a1) / 2147483648) != 1) = false := bne_eq_false_iff_eq.mpr c13
            clear c13
            by_cases c14 : ((t119 + t121) % 4294967296) = 0
            · rw [if_pos c14] at H
              have c14b0 : (((t119 + t121) % 4294967296) == 0) = true := beq_iff_eq.mpr c14
              have c14b1 : (((t119 + t121) % 4294967296) != 0) = false := bne_eq_false_iff_eq.mpr c14
              clear c14
              by_cases c15 : ((t123 + t125) % 4294967296) = 0
              · rw [if_pos c15] at H
                have c15b0 : (((t123 + t125) % 4294967296) == 0) = true := beq_iff_eq.mpr c15
                have c15b1 : (((t123 + t125) % 4294967296) != 0) = false := bne_eq_false_iff_eq.mpr c15
                clear c15
                by_cases c16 : ((1 - t119) % 4294967296) = t123
                · rw [if_pos c16] at H
                  have c16b0 : (((1 - t119) % 4294967296) == t123) = true := beq_iff_eq.mpr c16
                  have c16b1 : (((1 - t119) % 4294967296) != t123) = false := bne_eq_false_iff_eq.mpr c16
                  clear c16
                  replace H := Option.bind_eq_some_iff.mp H
                  obtain ⟨t127, A170, H⟩ := H
                  replace H : (some t127) = some r := H
                  have A17 := Aside0.mk A170
                  clear A170
                  obtain rfl := Option.some.inj H
                  go_wp2_with (first | (go_at_call 19; (with_reducible refine (bulkheadlaw03_branched.calls a0 a1 t119 t123 0 t127 _ A17.out).mono ?_); rintro e w' ⟨rfl, ⟨nd, rfl⟩⟩))
                  go_ret
                  exact ⟨by first | rfl | (simp; done) | (simp [*]; done), by repeat (first | exact Drawn0.refl _ | apply Drawn0.step)⟩
                · rw [if_neg c16] at H
                  have c16b0 : (((1 - t119) % 4294967296) == t123) = false := beq_eq_false_iff_ne.mpr c16
                  have c16b1 : (((1 - t119) % 4294967296) != t123) = true := bne_iff_ne.mpr c16
                  obtain rfl := Option.some.inj H
                  go_wp2
                  go_ret
                  exact ⟨by first | rfl | (simp; done) | (simp [*]; done), by repeat (first | exact Drawn0.refl _ | apply Drawn0.step)⟩
              · rw [if_neg c15] at H
                have c15b0 : (((t123 + t125) % 4294967296) == 0) = false := beq_eq_false_iff_ne.mpr c15
                have c15b1 : (((t123 + t125) % 4294967296) != 0) = true := bne_iff_ne.mpr c15
                obtain rfl := Option.some.inj H
                go_wp2
                go_ret
                exact ⟨by first | rfl | (simp; done) | (simp [*]; done), by repeat (first | exact Drawn0.refl _ | apply Drawn0.step)⟩
            · rw [if_neg c14] at H
              have c14b0 : (((t119 + t121) % 4294967296) == 0) = false := beq_eq_false_iff_ne.mpr c14
              have c14b1 : (((t119 + t121) % 4294967296) != 0) = true := bne_iff_ne.mpr c14
              obtain rfl := Option.some.inj H
              go_wp2
              go_ret
              exact ⟨by first | rfl | (simp; done) | (simp [*]; done), by repeat (first | exact Drawn0.refl _ | apply Drawn0.step)⟩
          · rw [if_neg c13] at H
            have c13b0 : (((Go.bits .xor .u32 a0 a1) / 2147483648) == 1) = false := beq_eq_false_iff_ne.mpr c13
            have c13b1 : (((Go.bits .xor .u32 a0 a1) / 2147483648) != 1) = true := bne_iff_ne.mpr c13
            by_cases c18 : ((t119 + t121) % 4294967296) = 0
            · rw [if_pos c18] at H
              have c18b0 : (((t119 + t121) % 4294967296) == 0) = true := beq_iff_eq.mpr c18
              have c18b1 : (((t119 + t121) % 4294967296) != 0) = false := bne_eq_false_iff_eq.mpr c18
              clear c18
              by_cases c19 : ((t123 + t125) % 4294967296) = 0
              · rw [if_pos c19] at H
                have c19b0 : (((t123 + t125) % 4294967296) == 0) = true := beq_iff_eq.mpr c19
                have c19b1 : (((t123 + t125) % 4294967296) != 0) = false := bne_eq_false_iff_eq.mpr c19
                clear c19
                by_cases c20 : t119 = t123
                · rw [if_pos c20] at H
                  have c20b0 : (t119 == t123) = true := beq_iff_eq.mpr c20
                  have c20b1 : (t119 != t123) = false := bne_eq_false_iff_eq.mpr c20
                  clear c20
                  replace H := Option.bind_eq_some_iff.mp H
                  obtain ⟨t128, A210, H⟩ := H
                  replace H : (some t128) = some r := H
                  have A21 := Aside0.mk A210
                  clear A210
                  obtain rfl := Option.some.inj H
                  go_wp2_with (first | (go_at_call 19; (with_reducible refine (bulkheadlaw03_branched.calls a0 a1 t119 t123 0 t128 _ A21.out).mono ?_); rintro e w' ⟨rfl, ⟨nd, rfl⟩⟩))
                  go_ret
                  exact ⟨by first | rfl | (simp; done) | (simp [*]; done), by repeat (first | exact Drawn0.refl _ | apply Drawn0.step)⟩
                · rw [if_neg c20] at H
                  have c20b0 : (t119 == t123) = false := beq_eq_false_iff_ne.mpr c20
                  have c20b1 : (t119 != t123) = true := bne_iff_ne.mpr c20
                  obtain rfl := Option.some.inj H
                  go_wp2
                  go_ret
                  exact ⟨by first | rfl | (simp; done) | (simp [*]; done), by repeat (first | exact Drawn0.refl _ | apply Drawn0.step)⟩
              · rw [if_neg c19] at H
                have c19b0 : (((t123 + t125) % 4294967296) == 0) = false := beq_eq_false_iff_ne.mpr c19
                have c19b1 : (((t123 + t125) % 4294967296) != 0) = true := bne_iff_ne.mpr c19
                obtain rfl := Option.some.inj H
                go_wp2
                go_ret
                exact ⟨by first | rfl | (simp; done) | (simp [*]; done), by repeat (first | exact Drawn0.refl _ | apply Drawn0.step)⟩
            · rw [if_neg c18] at H
              have c18b0 : (((t119 + t121) % 4294967296) == 0) = false := beq_eq_false_iff_ne.mpr c18
              have c18b1 : (((t119 + t121) % 4294967296) != 0) = true := bne_iff_ne.mpr c18
              obtain rfl := Option.some.inj H
              go_wp2
              go_ret
              exact ⟨by first | rfl | (simp; done) | (simp [*]; done), by repeat (first | exact Drawn0.refl _ | apply Drawn0.step)⟩
        · rw [if_neg c12] at H
          have c12b0 : (a0 == a1) = false := beq_eq_false_iff_ne.mpr c12
          have c12b1 : (a0 != a1) = true := bne_iff_ne.mpr c12
          by_cases c22 : ((Go.bits .xor .u32 a0 a1) / 2147483648) = 1
          · rw [if_pos c22] at H
            have c22b0 : (((Go.bits .xor .u32 a0 a1) / 2147483648) == 1) = true := beq_iff_eq.mpr c22
            have c22b1 : (((Go.bits .xor .u32 a0 a1) / 2147483648) != 1) = false := bne_eq_false_iff_eq.mpr c22
            clear c22
            by_cases c23 : ((t119 + t121) % 4294967296) = 1
            · rw [if_pos c23] at H
              have c23b0 : (((t119 + t121) % 4294967296) == 1) = true := beq_iff_eq.mpr c23
              have c23b1 : (((t119 + t121) % 4294967296) != 1) = false := bne_eq_false_iff_eq.mpr c23
              clear c23
              by_cases c24 : ((t123 + t125) % 4294967296) = 1
              · rw [if_pos c24] at H
                have c24b0 : (((t123 + t125) % 4294967296) == 1) = true := beq_iff_eq.mpr c24
                have c24b1 : (((t123 + t125) % 4294967296) != 1) = false := bne_eq_false_iff_eq.mpr c24
                clear c24
                by_cases c25 : ((1 - t119) % 4294967296) = t123
                · rw [if_pos c25] at H
                  have c25b0 : (((1 - t119) % 4294967296) == t123) = true := beq_iff_eq.mpr c25
                  have c25b1 : (((1 - t119) % 4294967296) != t123) = false := bne_eq_false_iff_eq.mpr c25
                  clear c25
                  replace H := Option.bind_eq_some_iff.mp H
                  obtain ⟨t129, A260, H⟩ := H
                  replace H : (some t129) = some r := H
                  have A26 := Aside0.mk A260
                  clear A260
                  obtain rfl := Option.some.inj H
                  go_wp2_with (first | (go_at_call 19; (with_reducible refine (bulkheadlaw03_branched.calls a0 a1 t119 t123 1 t129 _ A26.out).mono ?_); rintro e w' ⟨rfl, ⟨nd, rfl⟩⟩))
                  go_ret
                  exact ⟨by first | rfl | (simp; done) | (simp [*]; done), by repeat (first | exact Drawn0.refl _ | apply Drawn0.step)⟩
                · rw [if_neg c25] at H
                  have c25b0 : (((1 - t119) % 4294967296) == t123) = false := beq_eq_false_iff_ne.mpr c25
                  have c25b1 : (((1 - t119) % 4294967296) != t123) = true := bne_iff_ne.mpr c25
                  obtain rfl := Option.some.inj H
                  go_wp2
                  go_ret
                  exact ⟨by first | rfl | (simp; done) | (simp [*]; done), by repeat (first | exact Drawn0.refl _ | apply Drawn0.step)⟩
              · rw [if_neg c24] at H
                have c24b0 : (((t123 + t125) % 4294967296) == 1) = false := beq_eq_false_iff_ne.mpr c24
                have c24b1 : (((t123 + t125) % 4294967296) != 1) = true := bne_iff_ne.mpr c24
                obtain rfl := Option.some.inj H
                go_wp2
                go_ret
                exact ⟨by first | rfl | (simp; done) | (simp [*]; done), by repeat (first | exact Drawn0.refl _ | apply Drawn0.step)⟩
            · rw [if_neg c23] at H
              have c23b0 : (((t119 + t121) % 4294967296) == 1) = false := beq_eq_false_iff_ne.mpr c23
              have c23b1 : (((t119 + t121) % 4294967296) != 1) = true := bne_iff_ne.mpr c23
              obtain rfl := Option.some.inj H
              go_wp2
              go_ret
              exact ⟨by first | rfl | (simp; done) | (simp [*]; done), by repeat (first | exact Drawn0.refl _ | apply Drawn0.step)⟩
          · rw [if_neg c22] at H
            have c22b0 : (((Go.bits .xor .u32 a0 a1) / 2147483648) == 1) = false := beq_eq_false_iff_ne.mpr c22
            have c22b1 : (((Go.bits .xor .u32 a0 a1) / 2147483648) != 1) = true := bne_iff_ne.mpr c22
            by_cases c27 : ((t119 + t121) % 4294967296) = 1
            · rw [if_pos c27] at H
              have c27b0 : (((t119 + t121) % 4294967296) == 1) = true := beq_iff_eq.mpr c27
              have c27b1 : (((t119 + t121) % 4294967296) != 1) = false := bne_eq_false_iff_eq.mpr c27
              clear c27
              by_cases c28 : ((t123 + t125) % 4294967296) = 1
              · rw [if_pos c28] at H
                have c28b0 : (((t123 + t125) % 4294967296) == 1) = true := beq_iff_eq.mpr c28
                have c28b1 : (((t123 + t125) % 4294967296) != 1) = false := bne_eq_false_iff_eq.mpr c28
                clear c28
                by_cases c29 : t119 = t123
                · rw [if_pos c29] at H
                  have c29b0 : (t119 == t123) = true := beq_iff_eq.mpr c29
                  have c29b1 : (t119 != t123) = false := bne_eq_false_iff_eq.mpr c29
                  clear c29
                  replace H := Option.bind_eq_some_iff.mp H
                  obtain ⟨t130, A300, H⟩ := H
                  replace H : (some t130) = some r := H
                  have A30 := Aside0.mk A300
                  clear A300
                  obtain rfl := Option.some.inj H
                  go_wp2_with (first | (go_at_call 19; (with_reducible refine (bulkheadlaw03_branched.calls a0 a1 t119 t123 1 t130 _ A30.out).mono ?_); rintro e w' ⟨rfl, ⟨nd, rfl⟩⟩))
                  go_ret
                  exact ⟨by first | rfl | (simp; done) | (simp [*]; done), by repeat (first | exact Drawn0.refl _ | apply Drawn0.step)⟩
                · rw [if_neg c29] at H
                  have c29b0 : (t119 == t123) = false := beq_eq_false_iff_ne.mpr c29
                  have c29b1 : (t119 != t123) = true := bne_iff_ne.mpr c29
                  obtain rfl := Option.some.inj H
                  go_wp2
                  go_ret
                  exact ⟨by first | rfl | (simp; done) | (simp [*]; done), by repeat (first | exact Drawn0.refl _ | apply Drawn0.step)⟩
              · rw [if_neg c28] at H
                have c28b0 : (((t123 + t125) % 4294967296) == 1) = false := beq_eq_false_iff_ne.mpr c28
                have c28b1 : (((t123 + t125) % 4294967296) != 1) = true := bne_iff_ne.mpr c28
                obtain rfl := Option.some.inj H
                go_wp2
                go_ret
                exact ⟨by first | rfl | (simp; done) | (simp [*]; done), by repeat (first | exact Drawn0.refl _ | apply Drawn0.step)⟩
            · rw [if_neg c27] at H
              have c27b0 : (((t119 + t121) % 4294967296) == 1) = false := beq_eq_false_iff_ne.mpr c27
              have c27b1 : (((t119 + t121) % 4294967296) != 1) = true := bne_iff_ne.mpr c27
              obtain rfl := Option.some.inj H
              go_wp2
              go_ret
              exact ⟨by first | rfl | (simp; done) | (simp [*]; done), by repeat (first | exact Drawn0.refl _ | apply Drawn0.step)⟩

/-- THE ONE PURE STATEMENT of bulkheadlaw03_AluOrders: yours. -/
def bulkheadlaw03_AluOrders.Pure : Prop := ∀ (a0 : Int) (a1 : Int), (Lit.int .u32 a0).wf = true → (Lit.int .u32 a1).wf = true → ∃ k, bulkheadlaw03_AluOrders.f k a0 a1 = some true
theorem bulkheadlaw03_AluOrders.walk (P : bulkheadlaw03_AluOrders.Pure) (a0 : Int) (a1 : Int) (w : World) (w0 : (Lit.int .u32 a0).wf = true) (w1 : (Lit.int .u32 a1).wf = true) :
    Calls Try.prog 9 #[.int .u32 a0, .int .u32 a1] w fun e w' => e = .returned (.bool true) ∧ Below w.heap.size w w' := by
  obtain ⟨k, h⟩ := P a0 a1 w0 w1
  refine (bulkheadlaw03_AluOrders.calls k a0 a1 true w h).mono ?_
  rintro e w' ⟨rfl, hd⟩
  exact ⟨rfl, hd.below⟩

end Go.Proofs.Ytjegoojkjcjpnaa.PAluOrders
