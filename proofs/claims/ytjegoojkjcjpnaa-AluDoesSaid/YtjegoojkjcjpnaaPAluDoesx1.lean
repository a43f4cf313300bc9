-- PRINTED BY print.sh 35421559b90ae4d0a3588c463048766b98c2df88dd9212a6774a882060cdf62d: not written by this session
import Derived.Test.YtjegoojkjcjpnaaPAluDoesx0
namespace Go.Proofs.Ytjegoojkjcjpnaa.PAluDoes
open Go.RowKit Go.Proofs.YtjegoojkjcjpnaaW.PrintWords Go.Proofs.YtjegoojkjcjpnaaW.PrintLast Go.Proofs.YtjegoojkjcjpnaaW.PrintMore
attribute [local go_sem] max2_int min2_int max_two min_two max_three min_three max_four min_four   -- for this text's walks alone
set_option linter.unusedVariables false
set_option linter.unusedSimpArgs false

/-! ### alu_divided: function 21 -/
def alu_divided.f (a0 : Int) (a1 : Int) : Option (Int × Int) := if (wrap64 (wrap32 (a1))) = 0 then (none) else (some ((wrap64 (Int.tdiv (wrap64 (wrap32 (a0))) (wrap64 (wrap32 (a1))))) % 4294967296, (Int.tmod (wrap64 (wrap32 (a0))) (wrap64 (wrap32 (a1)))) % 4294967296))
set_option maxHeartbeats 8000000 in
set_option maxRecDepth 100000 in
theorem alu_divided.calls (a0 : Int) (a1 : Int) (r1 : Int) (r2 : Int) (w : World) (h : alu_divided.f a0 a1 = some (r1, r2)) :
    Calls Try.prog 21 #[.int .u32 a0, .int .u32 a1] w fun e w' => e = .returned (.tuple #[.int .u32 r1, .int .u32 r2]) ∧ Drawn0 w w' := by
  have H : (if (wrap64 (wrap32 (a1))) = 0 then (none) else (some ((wrap64 (Int.tdiv (wrap64 (wrap32 (a0))) (wrap64 (wrap32 (a1))))) % 4294967296, (Int.tmod (wrap64 (wrap32 (a0))) (wrap64 (wrap32 (a1)))) % 4294967296))) = some (r1, r2) := h
  clear h
  by_cases c3 : (wrap64 (wrap32 (a1))) = 0
  · rw [if_pos c3] at H
    exact absurd H (by simp)
  · rw [if_neg c3] at H
    have c3b0 : ((wrap64 (wrap32 (a1))) == 0) = false := beq_eq_false_iff_ne.mpr c3
    have c3b1 : ((wrap64 (wrap32 (a1))) != 0) = true := bne_iff_ne.mpr c3
    simp only [Option.some.injEq, Prod.mk.injEq] at H
    obtain ⟨rfl, rfl⟩ := H
    go_enter Try.func21, Try.ntmps21
    go_wp2
    repeat (go_quiet (fail); try go_wp2)
    go_ret2
    exact ⟨by first | rfl | (simp; done) | (simp [*]; done), by repeat (first | exact Drawn0.refl _ | apply Drawn0.step)⟩

/-! ### alu_one: function 29 -/
def alu_one.f (a0 : Bool) : Option (Int) := if a0 = true then (some 1) else (some 0)
set_option maxHeartbeats 8000000 in
set_option maxRecDepth 100000 in
theorem alu_one.calls (a0 : Bool) (r : Int) (w : World) (h : alu_one.f a0 = some r) :
    Calls Try.prog 29 #[.bool a0] w fun e w' => e = .returned (.int .u32 r) ∧ Drawn0 w w' := by
  have H : (if a0 = true then (some 1) else (some 0)) = some r := h
  clear h
  by_cases c2 : a0 = true
  · subst c2
    have H1 : (some 1) = some r := by rw [if_pos rfl] at H; exact H
    clear H
    have H := H1
    clear H1
    obtain rfl := Option.some.inj H
    go_enter Try.func29, Try.ntmps29
    go_wp2
    go_ret
    exact ⟨by first | rfl | (simp; done) | (simp [*]; done), by repeat (first | exact Drawn0.refl _ | apply Drawn0.step)⟩
  · replace c2 := Bool.eq_false_iff.mpr c2
    subst c2
    have H1 : (some 0) = some r := by rw [if_neg (show ¬ (false = true) by decide)] at H; exact H
    clear H
    have H := H1
    clear H1
    obtain rfl := Option.some.inj H
    go_enter Try.func29, Try.ntmps29
    go_wp2
    go_ret
    exact ⟨by first | rfl | (simp; done) | (simp [*]; done), by repeat (first | exact Drawn0.refl _ | apply Drawn0.step)⟩

/-! ### alu_plain: function 22 -/
def alu_plain.f (a0 : Int) (a1 : Int) (a2 : Int) : Option (Int × Int) := if a0 = 6 then (some ((a1 + ((-a2) % 4294967296)) % 4294967296, 0)) else (if a0 = 5 then (some ((a1 + a2) % 4294967296, 0)) else (if a0 = 7 then (some ((a1 * a2) % 4294967296, 0)) else (if a0 = 10 then (some (Go.bits .and .u32 a1 a2, 0)) else (if a0 = 11 then (some (Go.bits .or .u32 a1 a2, 0)) else (if a0 = 12 then (some (Go.bits .xor .u32 a1 a2, 0)) else (if a0 = 13 then (if 0 ≤ (Int.tmod a2 32) then (some (shl .u32 a1 (Int.tmod a2 32), 0)) else (none)) else (if a0 = 14 then (if 0 ≤ (Int.tmod a2 32) then (some (shr .u32 a1 (Int.tmod a2 32), 0)) else (none)) else (if a0 = 15 then (if 0 ≤ (Int.tmod a2 32) then (some ((shr .i32 (wrap32 (a1)) (Int.tmod a2 32)) % 4294967296, 0)) else (none)) else (if a0 = 16 then ((alu_one.f (decide ((wrap32 (a1)) < (wrap32 (a2))))).bind fun t101 => (some (t101, 0))) else (if a0 = 17 then ((alu_one.f (decide (a1 < a2))).bind fun t102 => (some (t102, 0))) else (some (0, 30))))))))))))
set_option maxHeartbeats 8000000 in
set_option maxRecDepth 100000 in
theorem alu_plain.calls (a0 : Int) (a1 : Int) (a2 : Int) (r1 : Int) (r2 : Int) (w : World) (h : alu_plain.f a0 a1 a2 = some (r1, r2)) :
    Calls Try.prog 22 #[.int .i64 a0, .int .u32 a1, .int .u32 a2] w fun e w' => e = .returned (.tuple #[.int .u32 r1, .int .i64 r2]) ∧ Drawn0 w w' := by
  have H : (if a0 = 6 then (some ((a1 + ((-a2) % 4294967296)) % 4294967296, 0)) else (if a0 = 5 then (some ((a1 + a2) % 4294967296, 0)) else (if a0 = 7 then (some ((a1 * a2) % 4294967296, 0)) else (if a0 = 10 then (some (Go.bits .and .u32 a1 a2, 0)) else (if a0 = 11 then (some (Go.bits .or .u32 a1 a2, 0)) else (if a0 = 12 then (some (Go.bits .xor .u32 a1 a2, 0)) else (if a0 = 13 then (if 0 ≤ (Int.tmod a2 32) then (some (shl .u32 a1 (Int.tmod a2 32), 0)) else (none)) else (if a0 = 14 then (if 0 ≤ (Int.tmod a2 32) then (some (shr .u32 a1 (Int.tmod a2 32), 0)) else (none)) else (if a0 = 15 then (if 0 ≤ (Int.tmod a2 32) then (some ((shr .i32 (wrap32 (a1)) (Int.tmod a2 32)) % 4294967296, 0)) else (none)) else (if a0 = 16 then ((alu_one.f (decide ((wrap32 (a1)) < (wrap32 (a2))))).bind fun t101 => (some (t101, 0))) else (if a0 = 17 then ((alu_one.f (decide (a1 < a2))).bind fun t102 => (some (t102, 0))) else (some (0, 30))))))))))))) = some (r1, r2) := h
  clear h
  by_cases c4 : a0 = 6
  · rw [if_pos c4] at H
    have c4b0 : (a0 == 6) = true := beq_iff_eq.mpr c4
    have c4b1 : (a0 != 6) = false := bne_eq_false_iff_eq.mpr c4
    clear c4
    simp only [Option.some.injEq, Prod.mk.injEq] at H
    obtain ⟨rfl, rfl⟩ := H
    go_enter Try.func22, Try.ntmps22
    go_wp2
    go_ret2
    exact ⟨by first | rfl | (simp; done) | (simp [*]; done), by repeat (first | exact Drawn0.refl _ | apply Drawn0.step)⟩
  · rw [if_neg c4] at H
    have c4b0 : (a0 == 6) = false := beq_eq_false_iff_ne.mpr c4
    have c4b1 : (a0 != 6) = true := bne_iff_ne.mpr c4
    by_cases c5 : a0 = 5
    · rw [if_pos c5] at H
      have c5b0 : (a0 == 5) = true := beq_iff_eq.mpr c5
      have c5b1 : (a0 != 5) = false := bne_eq_false_iff_eq.mpr c5
      clear c5
      simp only [Option.some.injEq, Prod.mk.injEq] at H
      obtain ⟨rfl, rfl⟩ := H
      go_enter Try.func22, Try.ntmps22
      go_wp2
      go_ret2
      exact ⟨by first | rfl | (simp; done) | (simp [*]; done), by repeat (first | exact Drawn0.refl _ | apply Drawn0.step)⟩
    · rw [if_neg c5] at H
      have c5b0 : (a0 == 5) = false := beq_eq_false_iff_ne.mpr c5
      have c5b1 : (a0 != 5) = true := bne_iff_ne.mpr c5
      by_cases c6 : a0 = 7
      · rw [if_pos c6] at H
        have c6b0 : (a0 == 7) = true := beq_iff_eq.mpr c6
        have c6b1 : (a0 != 7) = false := bne_eq_false_iff_eq.mpr c6
        clear c6
        simp only [Option.some.injEq, Prod.mk.injEq] at H
        obtain ⟨rfl, rfl⟩ := H
        go_enter Try.func22, Try.ntmps22
        go_wp2
        go_ret2
        exact ⟨by first | rfl | (simp; done) | (simp [*]; done), by repeat (first | exact Drawn0.refl _ | apply Drawn0.step)⟩
      · rw [if_neg c6] at H
        have c6b0 : (a0 == 7) = false := beq_eq_false_iff_ne.mpr c6
        have c6b1 : (a0 != 7) = true := bne_iff_ne.mpr c6
        by_cases c7 : a0 = 10
        · rw [if_pos c7] at H
          have c7b0 : (a0 == 10) = true := beq_iff_eq.mpr c7
          have c7b1 : (a0 != 10) = false := bne_eq_false_iff_eq.mpr c7
          clear c7
          simp only [Option.some.injEq, Prod.mk.injEq] at H
          obtain ⟨rfl, rfl⟩ := H
          go_enter Try.func22, Try.ntmps22
          go_wp2
          go_ret2
          exact ⟨by first | rfl | (simp; done) | (simp [*]; done), by repeat (first | exact Drawn0.refl _ | apply Drawn0.step)⟩
        · rw [if_neg c7] at H
          have c7b0 : (a0 == 10) = false := beq_eq_false_iff_ne.mpr c7
          have c7b1 : (a0 != 10) = true := bne_iff_ne.mpr c7
          by_cases c8 : a0 = 11
          · rw [if_pos c8] at H
            have c8b0 : (a0 == 11) = true := beq_iff_eq.mpr c8
            have c8b1 : (a0 != 11) = false := bne_eq_false_iff_eq.mpr c8
            clear c8
            simp only [Option.some.injEq, Prod.mk.injEq] at H
            obtain ⟨rfl, rfl⟩ := H
            go_enter Try.func22, Try.ntmps22
            go_wp2
            go_ret2
            exact ⟨by first | rfl | (simp; done) | (simp [*]; done), by repeat (first | exact Drawn0.refl _ | apply Drawn0.step)⟩
          · rw [if_neg c8] at H
            have c8b0 : (a0 == 11) = false := beq_eq_false_iff_ne.mpr c8
            have c8b1 : (a0 != 11) = true := bne_iff_ne.mpr c8
            by_cases c9 : a0 = 12
            · rw [if_pos c9] at H
              have c9b0 : (a0 == 12) = true := beq_iff_eq.mpr c9
              have c9b1 : (a0 != 12) = false := bne_eq_false_iff_eq.mpr c9
              clear c9
              simp only [Option.some.injEq, Prod.mk.injEq] at H
              obtain ⟨rfl, rfl⟩ := H
              go_enter Try.func22, Try.ntmps22
              go_wp2
              go_ret2
              exact ⟨by first | rfl | (simp; done) | (simp [*]; done), by repeat (first | exact Drawn0.refl _ | apply Drawn0.step)⟩
            · rw [if_neg c9] at H
              have c9b0 : (a0 == 12) = false := beq_eq_false_iff_ne.mpr c9
              have c9b1 : (a0 != 12) = true := bne_iff_ne.mpr c9
              by_cases c10 : a0 = 13
              · rw [if_pos c10] at H
                have c10b0 : (a0 == 13) = true := beq_iff_eq.mpr c10
                have c10b1 : (a0 != 13) = false := bne_eq_false_iff_eq.mpr c10
                clear c10
                obtain ⟨ji11, hji11⟩ : ∃ j_ : Int, (Int.tmod a2 32) = j_ := ⟨_, rfl⟩
                replace H : (if 0 ≤ (ji11) then (some (shl .u32 a1 (ji11), 0)) else (none)) = some (r1, r2) := by first | (rw [hji11] at H; exact H) | (simp only [hji11] at H ⊢; exact H)
                by_cases c12 : 0 ≤ (ji11)
                · rw [if_pos c12] at H
                  have c12b0 := eq_true c12
                  have c12b1 : decide (0 ≤ (ji11)) = true := decide_eq_true c12
                  clear c12
                  obtain ⟨ji13, hji13⟩ : ∃ j_ : Int, (shl .u32 a1 (ji11)) = j_ := ⟨_, rfl⟩
                  replace H : (some (ji13, 0)) = some (r1, r2) := by first | (rw [hji13] at H; exact H) | (simp only [hji13] at H ⊢; exact H)
                  have hji13_ : (IntKind.u32.wrap (a1 * 2 ^ min (ji11).toNat 32)) = ji13 := hji13
                  have hji13z : (ji11) ≤ 32 → (IntKind.u32.wrap (a1 * 2 ^ (ji11).toNat)) = ji13 := shl_small hji13
                  simp only [Option.some.injEq, Prod.mk.injEq] at H
                  obtain ⟨rfl, rfl⟩ := H
                  go_enter Try.func22, Try.ntmps22
                  go_wp2
                  go_ret2
                  exact ⟨by first | rfl | (simp; done) | (simp only [← hji11, ← hji13] <;> (first | rfl | simp)) | (simp [*]; done), by repeat (first | exact Drawn0.refl _ | apply Drawn0.step)⟩
                · rw [if_neg c12] at H
                  exact absurd H (by simp)
              · rw [if_neg c10] at H
                have c10b0 : (a0 == 13) = false := beq_eq_false_iff_ne.mpr c10
                have c10b1 : (a0 != 13) = true := bne_iff_ne.mpr c10
                by_cases c14 : a0 = 14
                · rw [if_pos c14] at H
                  have c14b0 : (a0 == 14) = true := beq_iff_eq.mpr c14
                  have c14b1 : (a0 != 14) = false := bne_eq_false_iff_eq.mpr c14
                  clear c14
                  obtain ⟨ji15, hji15⟩ : ∃ j_ : Int, (Int.tmod a2 32) = j_ := ⟨_, rfl⟩
                  replace H : (if 0 ≤ (ji15) then (some (shr .u32 a1 (ji15), 0)) else (none)) = some (r1, r2) := by first | (rw [hji15] at H; exact H) | (simp only [hji15] at H ⊢; exact H)
                  by_cases c16 : 0 ≤ (ji15)
                  · rw [if_pos c16] at H
                    have c16b0 := eq_true c16
                    have c16b1 : decide (0 ≤ (ji15)) = true := decide_eq_true c16
                    clear c16
                    obtain ⟨ji17, hji17⟩ : ∃ j_ : Int, (shr .u32 a1 (ji15)) = j_ := ⟨_, rfl⟩
                    replace H : (some (ji17, 0)) = some (r1, r2) := by first | (rw [hji17] at H; exact H) | (simp only [hji17] at H ⊢; exact H)
                    have hji17_ : (a1 / 2 ^ min (ji15).toNat 32) = ji17 := hji17
                    have hji17z : (ji15) ≤ 32 → (a1 / 2 ^ (ji15).toNat) = ji17 := shr_small hji17
                    simp only [Option.some.injEq, Prod.mk.injEq] at H
                    obtain ⟨rfl, rfl⟩ := H
                    go_enter Try.func22, Try.ntmps22
                    go_wp2
                    go_ret2
                    exact ⟨by first | rfl | (simp; done) | (simp only [← hji15, ← hji17] <;> (first | rfl | simp)) | (simp [*]; done), by repeat (first | exact Drawn0.refl _ | apply Drawn0.step)⟩
                  · rw [if_neg c16] at H
                    exact absurd H (by simp)
                · rw [if_neg c14] at H
                  have c14b0 : (a0 == 14) = false := beq_eq_false_iff_ne.mpr c14
                  have c14b1 : (a0 != 14) = true := bne_iff_ne.mpr c14
                  by_cases c18 : a0 = 15
                  · rw [if_pos c18] at H
                    have c18b0 : (a0 == 15) = true := beq_iff_eq.mpr c18
                    have c18b1 : (a0 != 15) = false := bne_eq_false_iff_eq.mpr c18
                    clear c18
                    obtain ⟨ji19, hji19⟩ : ∃ j_ : Int, (Int.tmod a2 32) = j_ := ⟨_, rfl⟩
                    replace H : (if 0 ≤ (ji19) then (some ((shr .i32 (wrap32 (a1)) (ji19)) % 4294967296, 0)) else (none)) = some (r1, r2) := by first | (rw [hji19] at H; exact H) | (simp only [hji19] at H ⊢; exact H)
                    by_cases c20 : 0 ≤ (ji19)
                    · rw [if_pos c20] at H
                      have c20b0 := eq_true c20
                      have c20b1 : decide (0 ≤ (ji19)) = true := decide_eq_true c20
                      clear c20
                      obtain ⟨ji21, hji21⟩ : ∃ j_ : Int, (shr .i32 (wrap32 (a1)) (ji19)) = j_ := ⟨_, rfl⟩
                      replace H : (some ((ji21) % 4294967296, 0)) = some (r1, r2) := by first | (rw [hji21] at H; exact H) | (simp only [hji21] at H ⊢; exact H)
                      have hji21_ : ((wrap32 (a1)) / 2 ^ min (ji19).toNat 32) = ji21 := hji21
                      have hji21z : (ji19) ≤ 32 → ((wrap32 (a1)) / 2 ^ (ji19).toNat) = ji21 := shr_small hji21
                      simp only [Option.some.injEq, Prod.mk.injEq] at H
                      obtain ⟨rfl, rfl⟩ := H
                      go_enter Try.func22, Try.ntmps22
                      go_wp2
                      go_ret2
                      exact ⟨by first | rfl | (simp; done) | (simp only [← hji19, ← hji21] <;> (first | rfl | simp)) | (simp [*]; done), by repeat (first | exact Drawn0.refl _ | apply Drawn0.step)⟩
                    · rw [if_neg c20] at H
                      exact absurd H (by simp)
                  · rw [if_neg c18] at H
                    have c18b0 : (a0 == 15) = false := beq_eq_false_iff_ne.mpr c18
                    have c18b1 : (a0 != 15) = true := bne_iff_ne.mpr c18
                    by_cases c22 : a0 = 16
                    · rw [if_pos c22] at H
                      have c22b0 : (a0 == 16) = true := beq_iff_eq.mpr c22
                      have c22b1 : (a0 != 16) = false := bne_eq_false_iff_eq.mpr c22
                      clear c22
                      replace H := Option.bind_eq_some_iff.mp H
                      obtain ⟨t101, A230, H⟩ := H
                      replace H : (some (t101, 0)) = some (r1, r2) := H
                      have A23 := Aside0.mk A230
                      clear A230
                      simp only [Option.some.injEq, Prod.mk.injEq] at H
                      obtain ⟨rfl, rfl⟩ := H
                      go_enter Try.func22, Try.ntmps22
                      go_wp2_with (first | ((with_reducible refine gate_callee (f := 29) rfl ?_); refine goesL_ (some 67) rfl rfl Try.func29 (by kernel_rfl) rfl #[.bool (decide ((wrap32 (a1)) < (wrap32 (a2))))] rfl (by (try simp only [List.map_toArray, List.map_cons, List.map_nil]); first | done | rfl | (simp only [List.length_drop, List.length_take]; rfl)) ?_; (with_reducible refine (alu_one.calls (decide ((wrap32 (a1)) < (wrap32 (a2)))) t101 _ A23.out).mono ?_); rintro e w' ⟨rfl, ⟨nd, rfl⟩⟩; refine ⟨_, rfl, ?_⟩))
                      go_ret2
                      exact ⟨by first | rfl | (simp; done) | (simp [*]; done), by repeat (first | exact Drawn0.refl _ | apply Drawn0.step)⟩
                    · rw [if_neg c22] at H
                      have c22b0 : (a0 == 16) = false := beq_eq_false_iff_ne.mpr c22
                      have c22b1 : (a0 != 16) = true := bne_iff_ne.mpr c22
                      by_cases c24 : a0 = 17
                      · rw [if_pos c24] at H
                        have c24b0 : (a0 == 17) = true := beq_iff_eq.mpr c24
                        have c24b1 : (a0 != 17) = false := bne_eq_false_iff_eq.mpr c24
                        clear c24
                        replace H := Option.bind_eq_some_iff.mp H
                        obtain ⟨t102, A250, H⟩ := H
                        replace H : (some (t102, 0)) = some (r1, r2) := H
                        have A25 := Aside0.mk A250
                        clear A250
                        simp only [Option.some.injEq, Prod.mk.injEq] at H
                        obtain ⟨rfl, rfl⟩ := H
                        go_enter Try.func22, Try.ntmps22
                        go_wp2_with (first | ((with_reducible refine gate_callee (f := 29) rfl ?_); refine goesL_ (some 71) rfl rfl Try.func29 (by kernel_rfl) rfl #[.bool (decide (a1 < a2))] rfl (by (try simp only [List.map_toArray, List.map_cons, List.map_nil]); first | done | rfl | (simp only [List.length_drop, List.length_take]; rfl)) ?_; (with_reducible refine (alu_one.calls (decide (a1 < a2)) t102 _ A25.out).mono ?_); rintro e w' ⟨rfl, ⟨nd, rfl⟩⟩; refine ⟨_, rfl, ?_⟩))
                        go_ret2
                        exact ⟨by first | rfl | (simp; done) | (simp [*]; done), by repeat (first | exact Drawn0.refl _ | apply Drawn0.step)⟩
                      · rw [if_neg c24] at H
                        have c24b0 : (a0 == 17) = false := beq_eq_false_iff_ne.mpr c24
                        have c24b1 : (a0 != 17) = true := bne_iff_ne.mpr c24
                        simp only [Option.some.injEq, Prod.mk.injEq] at H
                        obtain ⟨rfl, rfl⟩ := H
                        go_enter Try.func22, Try.ntmps22
                        go_wp2
                        go_ret2
                        exact ⟨by first | rfl | (simp; done) | (simp [*]; done), by repeat (first | exact Drawn0.refl _ | apply Drawn0.step)⟩

/-! ### alu_Do: function 14 -/
def alu_Do.j0 : Nat → Int → Int → Int → Bool → Option (Int × Int)
  | 0, _, _, _, _ => none
  | k + 1, x0, x1, x2, x11 => if x11 = true then (if x2 = 0 then (some (0, 31)) else ((alu_divided.f x1 x2).bind fun bt103 => (if x0 = 8 then (some (bt103.1, 0)) else (some (bt103.2, 0))))) else ((alu_plain.f x0 x1 x2).bind fun bt105 => (some (bt105.1, bt105.2)))
def alu_Do.f (k : Nat) (a0 : Int) (a1 : Int) (a2 : Int) : Option (Int × Int) := if a0 = 8 then (alu_Do.j0 k a0 a1 a2 (a0 == 8)) else (alu_Do.j0 k a0 a1 a2 (a0 == 9))
theorem alu_Do.mono_l : ∀ k, (∀ y0 y1 y2 y3, LeO (alu_Do.j0 k y0 y1 y2 y3) (alu_Do.j0 (k + 1) y0 y1 y2 y3))
  | 0 => fun _ _ _ _ r h => by simp [alu_Do.j0] at h
  | k + 1 => by
    have ih0 := alu_Do.mono_l k
    · intro y0 y1 y2 y3
      unfold alu_Do.j0
      repeat' first
      | (with_reducible exact ih0 _ _ _ _)
      | (with_reducible exact LeO.refl _)
      | (with_reducible exact LeO.none _)
      | (with_reducible refine LeO.ite ?_ ?_)
      | (with_reducible refine LeO.bind ?_ (fun _ => ?_))
      | exact ih0 _ _ _ _
      | exact LeO.none _
      | refine LeO.ite ?_ ?_
      | refine LeO.bind ?_ (fun _ => ?_)
theorem alu_Do.mono : ∀ a0 a1 a2 k, LeO (alu_Do.f k a0 a1 a2) (alu_Do.f (k + 1) a0 a1 a2) := by
  intro a0 a1 a2 k
  have ih0 := alu_Do.mono_l k
  unfold alu_Do.f
  repeat' first
      | (with_reducible exact ih0 _ _ _ _)
      | (with_reducible exact LeO.refl _)
      | (with_reducible exact LeO.none _)
      | (with_reducible refine LeO.ite ?_ ?_)
      | (with_reducible refine LeO.bind ?_ (fun _ => ?_))
      | exact ih0 _ _ _ _
      | exact LeO.none _
      | refine LeO.ite ?_ ?_
      | refine LeO.bind ?_ (fun _ => ?_)
set_option maxHeartbeats 8000000 in
set_option maxRecDepth 100000 in
theorem alu_Do.calls (k : Nat) (a0 : Int) (a1 : Int) (a2 : Int) (r1 : Int) (r2 : Int) (w : World) (h : alu_Do.f k a0 a1 a2 = some (r1, r2)) :
    Calls Try.prog 14 #[.int .i64 a0, .int .u32 a1, .int .u32 a2] w fun e w' => e = .returned (.tuple #[.int .u32 r1, .int .i64 r2]) ∧ Drawn0 w w' := by
  have H : (if a0 = 8 then (alu_Do.j0 k a0 a1 a2 (a0 == 8)) else (alu_Do.j0 k a0 a1 a2 (a0 == 9))) = some (r1, r2) := h
  clear h
  have HC4 := Aside0.mk H
  clear H
  go_enter Try.func14, Try.ntmps14
  go_upto_if 11 with (fail)
  go_cut [11] (fun v11 wc => ∃ (kq : Nat) (x11_3 : Bool), v11 = .bool x11_3 ∧ Aside0 (alu_Do.j0 kq a0 a1 a2 x11_3 = some (r1, r2)) ∧ Aside0 (kq ≤ k) ∧ Drawn0 w wc)
  case first =>
    have H := HC4.out
    clear HC4
    by_cases c5 : a0 = 8
    · rw [if_pos c5] at H
      have c5b0 : (a0 == 8) = true := beq_iff_eq.mpr c5
      have c5b1 : (a0 != 8) = false := bne_eq_false_iff_eq.mpr c5
      clear c5
      (first | rw [c5b0] | (simp only [i64_w, i32_w]; rw [c5b0]) | skip)
      have H' := Aside0.mk H
      clear H
      go_wp2
      go_meet
      case rel => exact ⟨_, ((a0 == 8)), (by first | rfl | (simp; done) | (simp [*]; done)), H', ⟨by first | omega | exact Nat.le_refl _⟩, by repeat (first | exact Drawn0.refl _ | apply Drawn0.step)⟩
    · rw [if_neg c5] at H
      have c5b0 : (a0 == 8) = false := beq_eq_false_iff_ne.mpr c5
      have c5b1 : (a0 != 8) = true := bne_iff_ne.mpr c5
      (first | rw [c5b0] | (simp only [i64_w, i32_w]; rw [c5b0]) | skip)
      have H' := Aside0.mk H
      clear H
      go_wp2
      go_meet
      case rel => exact ⟨_, ((a0 == 9)), (by first | rfl | (simp; done) | (simp [*]; done)), H', ⟨by first | omega | exact Nat.le_refl _⟩, by repeat (first | exact Drawn0.refl _ | apply Drawn0.step)⟩
  case rest =>
    clear HC4
    try clear c1
    try clear p2
    try clear c5
    try clear c5b0
    try clear c5b1
    obtain ⟨kq, x11_3, rfl, HA, HJ3, ⟨mc3, rfl⟩⟩ := hcut
    cases kq with
    | zero => exact absurd HA.out (by simp [alu_Do.j0])
    | succ kj3 =>
      have H := HA.out
      clear HA
      simp only [alu_Do.j0] at H
      by_cases c6 : x11_3 = true
      · subst c6
        have H1 : (if a2 = 0 then (some (0, 31)) else ((alu_divided.f a1 a2).bind fun bt103 => (if a0 = 8 then (some (bt103.1, 0)) else (some (bt103.2, 0))))) = some (r1, r2) := by rw [if_pos rfl] at H; exact H
        clear H
        have H := H1
        clear H1
        by_cases c7 : a2 = 0
        · rw [if_pos c7] at H
          have c7b0 : (a2 == 0) = true := beq_iff_eq.mpr c7
          have c7b1 : (a2 != 0) = false := bne_eq_false_iff_eq.mpr c7
          clear c7
          simp only [Option.some.injEq, Prod.mk.injEq] at H
          obtain ⟨rfl, rfl⟩ := H
          go_wp2
          go_ret2
          exact ⟨by first | rfl | (simp; done) | (simp [*]; done), by repeat (first | exact Drawn0.refl _ | apply Drawn0.step)⟩
        · rw [if_neg c7] at H
          have c7b0 : (a2 == 0) = false := beq_eq_false_iff_ne.mpr c7
          have c7b1 : (a2 != 0) = true := bne_iff_ne.mpr c7
          replace H := Option.bind_eq_some_iff.mp H
          obtain ⟨⟨t103, t104⟩, A80, H⟩ := H
          replace H : (if a0 = 8 then (some (t103, 0)) else (some (t104, 0))) = some (r1, r2) := H
          have A8 := Aside0.mk A80
          clear A80
          by_cases c9 : a0 = 8
          · rw [if_pos c9] at H
            have c9b0 : (a0 == 8) = true := beq_iff_eq.mpr c9
            have c9b1 : (a0 != 8) = false := bne_eq_false_iff_eq.mpr c9
            clear c9
            simp only [Option.some.injEq, Prod.mk.injEq] at H
            obtain ⟨rfl, rfl⟩ := H
            go_wp2_with (first | ((with_reducible refine gate_callee (f := 21) rfl ?_); refine goesL_ (some 19) rfl rfl Try.func21 (by kernel_rfl) rfl #[.int .u32 a1, .int .u32 a2] rfl (by (try simp only [List.map_toArray, List.map_cons, List.map_nil]); first | done | rfl | (simp only [List.length_drop, List.length_take]; rfl)) ?_; (with_reducible refine (alu_divided.calls a1 a2 t103 t104 _ A8.out).mono ?_); rintro e w' ⟨rfl, ⟨nd, rfl⟩⟩; refine ⟨_, rfl, ?_⟩))
            go_ret2
            exact ⟨by first | rfl | (simp; done) | (simp [*]; done), by repeat (first | exact Drawn0.refl _ | apply Drawn0.step)⟩
          · rw [if_neg c9] at H
            have c9b0 : (a0 == 8) = false := beq_eq_false_iff_ne.mpr c9
            have c9b1 : (a0 != 8) = true := bne_iff_ne.mpr c9
            simp only [Option.some.injEq, Prod.mk.injEq] at H
            obtain ⟨rfl, rfl⟩ := H
            go_wp2_with (first | ((with_reducible refine gate_callee (f := 21) rfl ?_); refine goesL_ (some 19) rfl rfl Try.func21 (by kernel_rfl) rfl #[.int .u32 a1, .int .u32 a2] rfl (by (try simp only [List.map_toArray, List.map_cons, List.map_nil]); first | done | rfl | (simp only [List.length_drop, List.length_take]; rfl)) ?_; (with_reducible refine (alu_divided.calls a1 a2 t103 t104 _ A8.out).mono ?_); rintro e w' ⟨rfl, ⟨nd, rfl⟩⟩; refine ⟨_, rfl, ?_⟩))
            go_ret2
            exact ⟨by first | rfl | (simp; done) | (simp [*]; done), by repeat (first | exact Drawn0.refl _ | apply Drawn0.step)⟩
      · replace c6 := Bool.eq_false_iff.mpr c6
        subst c6
        have H1 : ((alu_plain.f a0 a1 a2).bind fun bt105 => (some (bt105.1, bt105.2))) = some (r1, r2) := by rw [if_neg (show ¬ (false = true) by decide)] at H; exact H
        clear H
        have H := H1
        clear H1
        replace H := Option.bind_eq_some_iff.mp H
        obtain ⟨⟨t105, t106⟩, A100, H⟩ := H
        replace H : (some (t105, t106)) = some (r1, r2) := H
        have A10 := Aside0.mk A100
        clear A100
        simp only [Option.some.injEq, Prod.mk.injEq] at H
        obtain ⟨rfl, rfl⟩ := H
        go_wp2_with (first | ((with_reducible refine gate_callee (f := 22) rfl ?_); refine goesL_ (some 29) rfl rfl Try.func22 (by kernel_rfl) rfl #[.int .i64 a0, .int .u32 a1, .int .u32 a2] rfl (by (try simp only [List.map_toArray, List.map_cons, List.map_nil]); first | done | rfl | (simp only [List.length_drop, List.length_take]; rfl)) ?_; (with_reducible refine (alu_plain.calls a0 a1 a2 t105 t106 _ A10.out).mono ?_); rintro e w' ⟨rfl, ⟨nd, rfl⟩⟩; refine ⟨_, rfl, ?_⟩))
        go_ret2
        exact ⟨by first | rfl | (simp; done) | (simp [*]; done), by repeat (first | exact Drawn0.refl _ | apply Drawn0.step)⟩

/-! ### bulkheadref03_Does: function 18 -/
def bulkheadref03_Does.f (a0 : Int) : Option (Bool) := if a0 ≥ 5 then (some (decide (a0 ≤ 17))) else (some false)
set_option maxHeartbeats 8000000 in
set_option maxRecDepth 100000 in
theorem bulkheadref03_Does.calls (a0 : Int) (r : Bool) (w : World) (h : bulkheadref03_Does.f a0 = some r) :
    Calls Try.prog 18 #[.int .i64 a0] w fun e w' => e = .returned (.bool r) ∧ Drawn0 w w' := by
  have H : (if a0 ≥ 5 then (some (decide (a0 ≤ 17))) else (some false)) = some r := h
  clear h
  by_cases c2 : a0 ≥ 5
  · rw [if_pos c2] at H
    have c2b0 : decide (5 ≤ a0) = true := decide_eq_true c2
    clear c2
    obtain rfl := Option.some.inj H
    go_enter Try.func18, Try.ntmps18
    go_wp2
    go_ret
    exact ⟨by first | rfl | (simp; done) | (simp [*]; done), by repeat (first | exact Drawn0.refl _ | apply Drawn0.step)⟩
  · rw [if_neg c2] at H
    have c2b0 : decide (5 ≤ a0) = false := decide_eq_false c2
    clear c2
    obtain rfl := Option.some.inj H
    go_enter Try.func18, Try.ntmps18
    go_wp2
    go_ret
    exact ⟨by first | rfl | (simp; done) | (simp [*]; done), by repeat (first | exact Drawn0.refl _ | apply Drawn0.step)⟩

/-! ### bulkheadref03_Signed: function 28 -/
def bulkheadref03_Signed.f (a0 : Int) : Option (Int) := if (wrap64 (a0)) ≥ 2147483648 then (some (wrap64 ((wrap64 (a0)) - 4294967296))) else (some (wrap64 (a0)))
set_option maxHeartbeats 8000000 in
set_option maxRecDepth 100000 in
theorem bulkheadref03_Signed.calls (a0 : Int) (r : Int) (w : World) (h : bulkheadref03_Signed.f a0 = some r) :
    Calls Try.prog 28 #[.int .u32 a0] w fun e w' => e = .returned (.int .i64 r) ∧ Drawn0 w w' := by
  have H : (if (wrap64 (a0)) ≥ 2147483648 then (some (wrap64 ((wrap64 (a0)) - 4294967296))) else (some (wrap64 (a0)))) = some r := h
  clear h
  by_cases c2 : (wrap64 (a0)) ≥ 2147483648
  · rw [if_pos c2] at H
    have c2b0 : decide (2147483648 ≤ (wrap64 (a0))) = true := decide_eq_true c2
    clear c2
    obtain rfl := Option.some.inj H
    go_enter Try.func28, Try.ntmps28
    go_wp2
    go_ret
    exact ⟨by first | rfl | (simp; done) | (simp [*]; done), by repeat (first | exact Drawn0.refl _ | apply Drawn0.step)⟩
  · rw [if_neg c2] at H
    have c2b0 : decide (2147483648 ≤ (wrap64 (a0))) = false := decide_eq_false c2
    clear c2
    obtain rfl := Option.some.inj H
    go_enter Try.func28, Try.ntmps28
    go_wp2
    go_ret
    exact ⟨by first | rfl | (simp; done) | (simp [*]; done), by repeat (first | exact Drawn0.refl _ | apply Drawn0.step)⟩

/-! ### bulkheadref03_below: function 20 -/
def bulkheadref03_below.j0 : Nat → Int → Int → Bool → Option (Bool)
  | 0, _, _, _ => none
  | k + 1, x1, x2, x16 => if x16 = true then ((bulkheadref03_Signed.f x1).bind fun t107 => ((bulkheadref03_Signed.f x2).bind fun t108 => (some (decide (t107 < t108))))) else (some (decide (x1 < x2)))
def bulkheadref03_below.f (k : Nat) (a0 : Int) (a1 : Int) (a2 : Int) : Option (Bool) := if a0 = 16 then (bulkheadref03_below.j0 k a1 a2 true) else (if a0 = 23 then (bulkheadref03_below.j0 k a1 a2 true) else (bulkheadref03_below.j0 k a1 a2 (a0 == 24)))
theorem bulkheadref03_below.mono_l : ∀ k, (∀ y0 y1 y2, LeO (bulkheadref03_below.j0 k y0 y1 y2) (bulkheadref03_below.j0 (k + 1) y0 y1 y2))
  | 0 => fun _ _ _ r h => by simp [bulkheadref03_below.j0] at h
  | k + 1 => by
    have ih0 := bulkheadref03_below.mono_l k
    · intro y0 y1 y2
      unfold bulkheadref03_below.j0
      repeat' first
      | (with_reducible exact ih0 _ _ _)
      | (with_reducible exact LeO.refl _)
      | (with_reducible exact LeO.none _)
      | (with_reducible refine LeO.ite ?_ ?_)
      | (with_reducible refine LeO.bind ?_ (fun _ => ?_))
      | exact ih0 _ _ _
      | exact LeO.none _
      | refine LeO.ite ?_ ?_
      | refine LeO.bind ?_ (fun _ => ?_)
theorem bulkheadref03_below.mono : ∀ a0 a1 a2 k, LeO (bulkheadref03_below.f k a0 a1 a2) (bulkheadref03_below.f (k + 1) a0 a1 a2) := by
  intro a0 a1 a2 k
  have ih0 := bulkheadref03_below.mono_l k
  unfold bulkheadref03_below.f
  repeat' first
      | (with_reducible exact ih0 _ _ _)
      | (with_reducible exact LeO.refl _)
      | (with_reducible exact LeO.none _)
      | (with_reducible refine LeO.ite ?_ ?_)
      | (with_reducible refine LeO.bind ?_ (fun _ => ?_))
      | exact ih0 _ _ _
      | exact LeO.none _
      | refine LeO.ite ?_ ?_
      | refine LeO.bind ?_ (fun _ => ?_)
set_option maxHeartbeats 8000000 in
set_option maxRecDepth 100000 in
theorem bulkheadref03_below.calls (k : Nat) (a0 : Int) (a1 : Int) (a2 : Int) (r : Bool) (w : World) (h : bulkheadref03_below.f k a0 a1 a2 = some r) :
    Calls Try.prog 20 #[.int .i64 a0, .int .u32 a1, .int .u32 a2] w fun e w' => e = .returned (.bool r) ∧ Drawn0 w w' := by
  have H : (if a0 = 16 then (bulkheadref03_below.j0 k a1 a2 true) else (if a0 = 23 then (bulkheadref03_below.j0 k a1 a2 true) else (bulkheadref03_below.j0 k a1 a2 (a0 == 24)))) = some r := h
  clear h
  have HC4 := Aside0.mk H
  clear H
  go_enter Try.func20, Try.ntmps20
  go_upto_region 1 with (fail)
  go_cut [16] (fun v16 wc => ∃ (kq : Nat) (x16_3 : Bool), v16 = .bool x16_3 ∧ Aside0 (bulkheadref03_below.j0 kq a1 a2 x16_3 = some r) ∧ Aside0 (kq ≤ k) ∧ Drawn0 w wc)
  case first =>
    have H := HC4.out
    clear HC4
    by_cases c5 : a0 = 16
    · rw [if_pos c5] at H
      have c5b0 : (a0 == 16) = true := beq_iff_eq.mpr c5
      have c5b1 : (a0 != 16) = false := bne_eq_false_iff_eq.mpr c5
      clear c5
      (first | rw [c5b0] | (simp only [i64_w, i32_w]; rw [c5b0]) | skip)
      have H' := Aside0.mk H
      clear H
      go_wp2
      go_meet
      case rel => exact ⟨_, (true), (by first | rfl | (simp; done) | (simp [*]; done)), H', ⟨by first | omega | exact Nat.le_refl _⟩, by repeat (first | exact Drawn0.refl _ | apply Drawn0.step)⟩
    · rw [if_neg c5] at H
      have c5b0 : (a0 == 16) = false := beq_eq_false_iff_ne.mpr c5
      have c5b1 : (a0 != 16) = true := bne_iff_ne.mpr c5
      (first | rw [c5b0] | (simp only [i64_w, i32_w]; rw [c5b0]) | skip)
      by_cases c6 : a0 = 23
      · rw [if_pos c6] at H
        have c6b0 : (a0 == 23) = true := beq_iff_eq.mpr c6
        have c6b1 : (a0 != 23) = false := bne_eq_false_iff_eq.mpr c6
        clear c6
        have H' := Aside0.mk H
        clear H
        go_wp2
        go_meet
        case rel => exact ⟨_, (true), (by first | rfl | (simp; done) | (simp [*]; done)), H', ⟨by first | omega | exact Nat.le_refl _⟩, by repeat (first | exact Drawn0.refl _ | apply Drawn0.step)⟩
      · rw [if_neg c6] at H
        have c6b0 : (a0 == 23) = false := beq_eq_false_iff_ne.mpr c6
        have c6b1 : (a0 != 23) = true := bne_iff_ne.mpr c6
        have H' := Aside0.mk H
        clear H
        go_wp2
        go_meet
        case rel => exact ⟨_, ((a0 == 24)), (by first | rfl | (simp; done) | (simp [*]; done)), H', ⟨by first | omega | exact Nat.le_refl _⟩, by repeat (first | exact Drawn0.refl _ | apply Drawn0.step)⟩
  case rest =>
    clear HC4
    try clear c2
    try clear p2
    try clear c5
    try clear c5b0
    try clear c5b1
    try clear c6
    try clear c6b0
    try clear c6b1
    obtain ⟨kq, x16_3, rfl, HA, HJ3, ⟨mc3, rfl⟩⟩ := hcut
    cases kq with
    | zero => exact absurd HA.out (by simp [bulkheadref03_below.j0])
    | succ kj3 =>
      have H := HA.out
      clear HA
      simp only [bulkheadref03_below.j0] at H
      by_cases c7 : x16_3 = true
      · subst c7
        have H1 : ((bulkheadref03_Signed.f a1).bind fun t107 => ((bulkheadref03_Signed.f a2).bind fun t108 => (some (decide (t107 < t108))))) = some r := by rw [if_pos rfl] at H; exact H
        clear H
        have H := H1
        clear H1
        replace H := Option.bind_eq_some_iff.mp H
        obtain ⟨t107, A80, H⟩ := H
        replace H : ((bulkheadref03_Signed.f a2).bind fun t108 => (some (decide (t107 < t108)))) = some r := H
        have A8 := Aside0.mk A80
        clear A80
        replace H := Option.bind_eq_some_iff.mp H
        obtain ⟨t108, A90, H⟩ := H
        replace H : (some (decide (t107 < t108))) = some r := H
        have A9 := Aside0.mk A90
        clear A90
        obtain rfl := Option.some.inj H
        go_wp2_with (first | ((with_reducible refine gate_callee (f := 28) rfl ?_); refine goesL_ (some 18) rfl rfl Try.func28 (by kernel_rfl) rfl #[.int .u32 a1] rfl (by (try simp only [List.map_toArray, List.map_cons, List.map_nil]); first | done | rfl | (simp only [List.length_drop, List.length_take]; rfl)) ?_; (with_reducible refine (bulkheadref03_Signed.calls a1 t107 _ A8.out).mono ?_); rintro e w' ⟨rfl, ⟨nd, rfl⟩⟩; refine ⟨_, rfl, ?_⟩) | ((with_reducible refine gate_callee (f := 28) rfl ?_); refine goesL_ (some 20) rfl rfl Try.func28 (by kernel_rfl) rfl #[.int .u32 a2] rfl (by (try simp only [List.map_toArray, List.map_cons, List.map_nil]); first | done | rfl | (simp only [List.length_drop, List.length_take]; rfl)) ?_; (with_reducible refine (bulkheadref03_Signed.calls a2 t108 _ A9.out).mono ?_); rintro e w' ⟨rfl, ⟨nd, rfl⟩⟩; refine ⟨_, rfl, ?_⟩))
        go_ret
        exact ⟨by first | rfl | (simp; done) | (simp [*]; done), by repeat (first | exact Drawn0.refl _ | apply Drawn0.step)⟩
      · replace c7 := Bool.eq_false_iff.mpr c7
        subst c7
        have H1 : (some (decide (a1 < a2))) = some r := by rw [if_neg (show ¬ (false = true) by decide)] at H; exact H
        clear H
        have H := H1
        clear H1
        obtain rfl := Option.some.inj H
        go_wp2
        go_ret
        exact ⟨by first | rfl | (simp; done) | (simp [*]; done), by repeat (first | exact Drawn0.refl _ | apply Drawn0.step)⟩

/-! ### bulkheadref03_word: function 23 -/
def bulkheadref03_word.f (a0 : Int) : Option (Int) := if (Int.tmod a0 4294967296) < 0 then (some ((wrap64 ((Int.tmod a0 4294967296) + 4294967296)) % 4294967296)) else (some ((Int.tmod a0 4294967296) % 4294967296))
set_option maxHeartbeats 8000000 in
set_option maxRecDepth 100000 in
theorem bulkheadref03_word.calls (a0 : Int) (r : Int) (w : World) (h : bulkheadref03_word.f a0 = some r) :
    Calls Try.prog 23 #[.int .i64 a0] w fun e w' => e = .returned (.int .u32 r) ∧ Drawn0 w w' := by
  have H : (if (Int.tmod a0 4294967296) < 0 then (some ((wrap64 ((Int.tmod a0 4294967296) + 4294967296)) % 4294967296)) else (some ((Int.tmod a0 4294967296) % 4294967296))) = some r := h
  clear h
  by_cases c2 : (Int.tmod a0 4294967296) < 0
  · rw [if_pos c2] at H
    have c2b0 : decide ((Int.tmod a0 4294967296) < 0) = true := decide_eq_true c2
    clear c2
    obtain rfl := Option.some.inj H
    go_enter Try.func23, Try.ntmps23
    go_wp2
    go_ret
    exact ⟨by first | rfl | (simp; done) | (simp [*]; done), by repeat (first | exact Drawn0.refl _ | apply Drawn0.step)⟩
  · rw [if_neg c2] at H
    have c2b0 : decide ((Int.tmod a0 4294967296) < 0) = false := decide_eq_false c2
    clear c2
    obtain rfl := Option.some.inj H
    go_enter Try.func23, Try.ntmps23
    go_wp2
    go_ret
    exact ⟨by first | rfl | (simp; done) | (simp [*]; done), by repeat (first | exact Drawn0.refl _ | apply Drawn0.step)⟩

/-! ### bulkheadref03_times: function 24 -/
def bulkheadref03_times.l0 : Nat → Int → Int → Int → Option (Int)
  | 0, _, _, _ => none
  | k + 1, x0, x1, x5 => if x1 > 0 then (if (Int.tmod x1 2) = 1 then ((bulkheadref03_word.f (wrap64 (2 * (wrap64 (x0))))).bind fun t109 => (bulkheadref03_times.l0 k t109 ((Int.tdiv x1 2) % 4294967296) (Int.tmod (wrap64 (x5 + (wrap64 (x0)))) 4294967296))) else ((bulkheadref03_word.f (wrap64 (2 * (wrap64 (x0))))).bind fun t110 => (bulkheadref03_times.l0 k t110 ((Int.tdiv x1 2) % 4294967296) x5))) else (some ((x5) % 4294967296))
def bulkheadref03_times.f (k : Nat) (a0 : Int) (a1 : Int) : Option (Int) := bulkheadref03_times.l0 k a0 a1 0
theorem bulkheadref03_times.mono_l : ∀ k, (∀ y0 y1 y2, LeO (bulkheadref03_times.l0 k y0 y1 y2) (bulkheadref03_times.l0 (k + 1) y0 y1 y2))
  | 0 => fun _ _ _ r h => by simp [bulkheadref03_times.l0] at h
  | k + 1 => by
    have ih0 := bulkheadref03_times.mono_l k
    · intro y0 y1 y2
      unfold bulkheadref03_times.l0
      repeat' first
      | (with_reducible exact ih0 _ _ _)
      | (with_reducible exact LeO.refl _)
      | (with_reducible exact LeO.none _)
      | (with_reducible refine LeO.ite ?_ ?_)
      | (with_reducible refine LeO.bind ?_ (fun _ => ?_))
      | exact ih0 _ _ _
      | exact LeO.none _
      | refine LeO.ite ?_ ?_
      | refine LeO.bind ?_ (fun _ => ?_)
theorem bulkheadref03_times.mono : ∀ a0 a1 k, LeO (bulkheadref03_times.f k a0 a1) (bulkheadref03_times.f (k + 1) a0 a1) := by
  intro a0 a1 k
  have ih0 := bulkheadref03_times.mono_l k
  unfold bulkheadref03_times.f
  repeat' first
      | (with_reducible exact ih0 _ _ _)
      | (with_reducible exact LeO.refl _)
      | (with_reducible exact LeO.none _)
      | (with_reducible refine LeO.ite ?_ ?_)
      | (with_reducible refine LeO.bind ?_ (fun _ => ?_))
      | exact ih0 _ _ _
      | exact LeO.none _
      | refine LeO.ite ?_ ?_
      | refine LeO.bind ?_ (fun _ => ?_)
set_option maxHeartbeats 8000000 in
set_option maxRecDepth 100000 in
theorem bulkheadref03_times.calls (k : Nat) (a0 : Int) (a1 : Int) (r : Int) (w : World) (h : bulkheadref03_times.f k a0 a1 = some r) :
    Calls Try.prog 24 #[.int .u32 a0, .int .u32 a1] w fun e w' => e = .returned (.int .u32 r) ∧ Drawn0 w w' := by
  have H : (bulkheadref03_times.l0 k a0 a1 0) = some r := h
  clear h
  have H' := Aside0.mk H
  clear H
  go_enter Try.func24, Try.ntmps24
  go_wp2
  go_loopg [0, 1, 5] k (fun kq v0 v1 v5 w' => ∃ (x0_1 : Int) (x1_1 : Int) (x5_1 : Int), v0 = .int .u32 x0_1 ∧ v1 = .int .u32 x1_1 ∧ v5 = .int .i64 x5_1 ∧ Aside0 (bulkheadref03_times.l0 kq x0_1 x1_1 x5_1 = some r) ∧ Aside0 (kq ≤ k) ∧ Drawn0 w w')
  case atStart => exact ⟨(a0), (a1), (0), (by first | rfl | (simp; done) | (simp [*]; done)), (by first | rfl | (simp; done) | (simp [*]; done)), (by first | rfl | (simp; done) | (simp [*]; done)), H', ⟨Nat.le_refl _⟩, by repeat (first | exact Drawn0.refl _ | apply Drawn0.step)⟩
  case round =>
    clear H'
    try clear c2
    try clear p2
    obtain ⟨x0_1, x1_1, x5_1, rfl, rfl, rfl, HA, HK1, ⟨m1, rfl⟩⟩ := hrel
    cases gk with
    | zero => exact absurd HA.out (by simp [bulkheadref03_times.l0])
    | succ k1 =>
      have H := HA.out
      clear HA
      simp only [bulkheadref03_times.l0] at H
      by_cases c3 : x1_1 > 0
      · rw [if_pos c3] at H
        have c3b0 : decide (0 < x1_1) = true := decide_eq_true c3
        clear c3
        by_cases c4 : (Int.tmod x1_1 2) = 1
        · rw [if_pos c4] at H
          have c4b0 : ((Int.tmod x1_1 2) == 1) = true := beq_iff_eq.mpr c4
          have c4b1 : ((Int.tmod x1_1 2) != 1) = false := bne_eq_false_iff_eq.mpr c4
          clear c4
          replace H := Option.bind_eq_some_iff.mp H
          obtain ⟨t109, A50, H⟩ := H
          replace H : (bulkheadref03_times.l0 k1 t109 ((Int.tdiv x1_1 2) % 4294967296) (Int.tmod (wrap64 (x5_1 + (wrap64 (x0_1)))) 4294967296)) = some r := H
          have A5 := Aside0.mk A50
          clear A50
          have H' := Aside0.mk H
          clear H
          go_wp2_with (first | ((with_reducible refine gate_callee (f := 23) rfl ?_); refine goesL_ (some 19) rfl rfl Try.func23 (by kernel_rfl) rfl #[.int .i64 (wrap64 (2 * (wrap64 (x0_1))))] rfl (by (try simp only [List.map_toArray, List.map_cons, List.map_nil]); first | done | rfl | (simp only [List.length_drop, List.length_take]; rfl)) ?_; (with_reducible refine (bulkheadref03_word.calls (wrap64 (2 * (wrap64 (x0_1)))) t109 _ A5.out).mono ?_); rintro e w' ⟨rfl, ⟨nd, rfl⟩⟩; refine ⟨_, rfl, ?_⟩))
          go_roundg k1
          case measure => have := HK1.out; omega
          case rel => exact ⟨(t109), ((Int.tdiv x1_1 2) % 4294967296), (Int.tmod (wrap64 (x5_1 + (wrap64 (x0_1)))) 4294967296), (by first | rfl | (simp; done) | (simp [*]; done)), (by first | rfl | (simp; done) | (simp [*]; done)), (by first | rfl | (simp; done) | (simp [*]; done)), H', ⟨by have := HK1.out; omega⟩, by repeat (first | exact Drawn0.refl _ | apply Drawn0.step)⟩
        · rw [if_neg c4] at H
          have c4b0 : ((Int.tmod x1_1 2) == 1) = false := beq_eq_false_iff_ne.mpr c4
          have c4b1 : ((Int.tmod x1_1 2) != 1) = true := bne_iff_ne.mpr c4
          replace H := Option.bind_eq_some_iff.mp H
          obtain ⟨t110, A60, H⟩ := H
          replace H : (bulkheadref03_times.l0 k1 t110 ((Int.tdiv x1_1 2) % 4294967296) x5_1) = some r := H
          have A6 := Aside0.mk A60
          clear A60
          have H' := Aside0.mk H
          clear H
          go_wp2_with (first | ((with_reducible refine gate_callee (f := 23) rfl ?_); refine goesL_ (some 19) rfl rfl Try.func23 (by kernel_rfl) rfl #[.int .i64 (wrap64 (2 * (wrap64 (x0_1))))] rfl (by (try simp only [List.map_toArray, List.map_cons, List.map_nil]); first | done | rfl | (simp only [List.length_drop, List.length_take]; rfl)) ?_; (with_reducible refine (bulkheadref03_word.calls (wrap64 (2 * (wrap64 (x0_1)))) t110 _ A6.out).mono ?_); rintro e w' ⟨rfl, ⟨nd, rfl⟩⟩; refine ⟨_, rfl, ?_⟩))
          go_roundg k1
          case measure => have := HK1.out; omega
          case rel => exact ⟨(t110), ((Int.tdiv x1_1 2) % 4294967296), (x5_1), (by first | rfl | (simp; done) | (simp [*]; done)), (by first | rfl | (simp; done) | (simp [*]; done)), (by first | rfl | (simp; done) | (simp [*]; done)), H', ⟨by have := HK1.out; omega⟩, by repeat (first | exact Drawn0.refl _ | apply Drawn0.step)⟩
      · rw [if_neg c3] at H
        have c3b0 : decide (0 < x1_1) = false := decide_eq_false c3
        clear c3
        obtain rfl := Option.some.inj H
        go_wp2
        go_ret
        exact ⟨by first | rfl | (simp; done) | (simp [*]; done), by repeat (first | exact Drawn0.refl _ | apply Drawn0.step)⟩

/-! ### bulkheadref03_quotient: function 30 -/
def bulkheadref03_quotient.l0 : Nat → Int → Int → Int → Int → Int → Option (Int × Int)
  | 0, _, _, _, _, _ => none
  | k + 1, x0, x1, x6, x7, x8 => if x8 ≥ 0 then (if 0 ≤ x8 then (if (Int.tmod (shr .i64 x0 x8) 2) = 1 then (if (wrap64 ((wrap64 (x7 * 2)) + 1)) ≥ x1 then (bulkheadref03_quotient.l0 k x0 x1 (wrap64 ((wrap64 (x6 * 2)) + 1)) (wrap64 ((wrap64 ((wrap64 (x7 * 2)) + 1)) - x1)) (wrap64 (x8 - 1))) else (bulkheadref03_quotient.l0 k x0 x1 (wrap64 (x6 * 2)) (wrap64 ((wrap64 (x7 * 2)) + 1)) (wrap64 (x8 - 1)))) else (if (wrap64 (x7 * 2)) ≥ x1 then (bulkheadref03_quotient.l0 k x0 x1 (wrap64 ((wrap64 (x6 * 2)) + 1)) (wrap64 ((wrap64 (x7 * 2)) - x1)) (wrap64 (x8 - 1))) else (bulkheadref03_quotient.l0 k x0 x1 (wrap64 (x6 * 2)) (wrap64 (x7 * 2)) (wrap64 (x8 - 1))))) else (none)) else (some (x6, x7))
def bulkheadref03_quotient.f (k : Nat) (a0 : Int) (a1 : Int) : Option (Int × Int) := bulkheadref03_quotient.l0 k a0 a1 0 0 32
theorem bulkheadref03_quotient.mono_l : ∀ k, (∀ y0 y1 y2 y3 y4, LeO (bulkheadref03_quotient.l0 k y0 y1 y2 y3 y4) (bulkheadref03_quotient.l0 (k + 1) y0 y1 y2 y3 y4))
  | 0 => fun _ _ _ _ _ r h => by simp [bulkheadref03_quotient.l0] at h
  | k + 1 => by
    have ih0 := bulkheadref03_quotient.mono_l k
    · intro y0 y1 y2 y3 y4
      unfold bulkheadref03_quotient.l0
      repeat' first
      | (with_reducible exact ih0 _ _ _ _ _)
      | (with_reducible exact LeO.refl _)
      | (with_reducible exact LeO.none _)
      | (with_reducible refine LeO.ite ?_ ?_)
      | (with_reducible refine LeO.bind ?_ (fun _ => ?_))
      | exact ih0 _ _ _ _ _
      | exact LeO.none _
      | refine LeO.ite ?_ ?_
      | refine LeO.bind ?_ (fun _ => ?_)
theorem bulkheadref03_quotient.mono : ∀ a0 a1 k, LeO (bulkheadref03_quotient.f k a0 a1) (bulkheadref03_quotient.f (k + 1) a0 a1) := by
  intro a0 a1 k
  have ih0 := bulkheadref03_quotient.mono_l k
  unfold bulkheadref03_quotient.f
  repeat' first
      | (with_reducible exact ih0 _ _ _ _ _)
      | (with_reducible exact LeO.refl _)
      | (with_reducible exact LeO.none _)
      | (with_reducible refine LeO.ite ?_ ?_)
      | (with_reducible refine LeO.bind ?_ (fun _ => ?_))
      | exact ih0 _ _ _ _ _
      | exact LeO.none _
      | refine LeO.ite ?_ ?_
      | refine LeO.bind ?_ (fun _ => ?_)
set_option maxHeartbeats 8000000 in
set_option maxRecDepth 100000 in
theorem bulkheadref03_quotient.calls (k : Nat) (a0 : Int) (a1 : Int) (r1 : Int) (r2 : Int) (w : World) (h : bulkheadref03_quotient.f k a0 a1 = some (r1, r2)) :
    Calls Try.prog 30 #[.int .i64 a0, .int .i64 a1] w fun e w' => e = .returned (.tuple #[.int .i64 r1, .int .i64 r2]) ∧ Drawn0 w w' := by
  have H : (bulkheadref03_quotient.l0 k a0 a1 0 0 32) = some (r1, r2) := h
  clear h
  have H' := Aside0.mk H
  clear H
  go_enter Try.func30, Try.ntmps30
  go_wp2
  go_loopg [6, 7, 8] k (fun kq v6 v7 v8 w' => ∃ (x6_1 : Int) (x7_1 : Int) (x8_1 : Int), v6 = .int .i64 x6_1 ∧ v7 = .int .i64 x7_1 ∧ v8 = .int .i64 x8_1 ∧ Aside0 (bulkheadref03_quotient.l0 kq a0 a1 x6_1 x7_1 x8_1 = some (r1, r2)) ∧ Aside0 (kq ≤ k) ∧ Drawn0 w w')
  case atStart => exact ⟨(0), (0), (32), (by first | rfl | (simp; done) | (simp [*]; done)), (by first | rfl | (simp; done) | (simp [*]; done)), (by first | rfl | (simp; done) | (simp [*]; done)), H', ⟨Nat.le_refl _⟩, by repeat (first | exact Drawn0.refl _ | apply Drawn0.step)⟩
  case round =>
    clear H'
    try clear p2
    obtain ⟨x6_1, x7_1, x8_1, rfl, rfl, rfl, HA, HK1, ⟨m1, rfl⟩⟩ := hrel
    cases gk with
    | zero => exact absurd HA.out (by simp [bulkheadref03_quotient.l0])
    | succ k1 =>
      have H := HA.out
      clear HA
      simp only [bulkheadref03_quotient.l0] at H
      by_cases c3 : x8_1 ≥ 0
      · rw [if_pos c3] at H
        have c3b0 : decide (0 ≤ x8_1) = true := decide_eq_true c3
        clear c3
        by_cases c4 : 0 ≤ x8_1
        · rw [if_pos c4] at H
          have c4b0 := eq_true c4
          have c4b1 : decide (0 ≤ x8_1) = true := decide_eq_true c4
          clear c4
          obtain ⟨ji5, hji5⟩ : ∃ j_ : Int, (shr .i64 a0 x8_1) = j_ := ⟨_, rfl⟩
          replace H : (if (Int.tmod (ji5) 2) = 1 then (if (wrap64 ((wrap64 (x7_1 * 2)) + 1)) ≥ a1 then (bulkheadref03_quotient.l0 k1 a0 a1 (wrap64 ((wrap64 (x6_1 * 2)) + 1)) (wrap64 ((wrap64 ((wrap64 (x7_1 * 2)) + 1)) - a1)) (wrap64 (x8_1 - 1))) else (bulkheadref03_quotient.l0 k1 a0 a1 (wrap64 (x6_1 * 2)) (wrap64 ((wrap64 (x7_1 * 2)) + 1)) (wrap64 (x8_1 - 1)))) else (if (wrap64 (x7_1 * 2)) ≥ a1 then (bulkheadref03_quotient.l0 k1 a0 a1 (wrap64 ((wrap64 (x6_1 * 2)) + 1)) (wrap64 ((wrap64 (x7_1 * 2)) - a1)) (wrap64 (x8_1 - 1))) else (bulkheadref03_quotient.l0 k1 a0 a1 (wrap64 (x6_1 * 2)) (wrap64 (x7_1 * 2)) (wrap64 (x8_1 - 1))))) = some (r1, r2) := by first | (rw [hji5] at H; exact H) | (simp only [hji5] at H ⊢; exact H)
          have hji5_ : (a0 / 2 ^ min x8_1.toNat 64) = ji5 := hji5
          have hji5z : x8_1 ≤ 64 → (a0 / 2 ^ x8_1.toNat) = ji5 := shr_small hji5
          by_cases c6 : (Int.tmod (ji5) 2) = 1
          · rw [if_pos c6] at H
            have c6b0 : ((Int.tmod (ji5) 2) == 1) = true := beq_iff_eq.mpr c6
            have c6b1 : ((Int.tmod (ji5) 2) != 1) = false := bne_eq_false_iff_eq.mpr c6
            clear c6
            by_cases c7 : (wrap64 ((wrap64 (x7_1 * 2)) + 1)) ≥ a1
            · rw [if_pos c7] at H
              have c7b0 : decide (a1 ≤ (wrap64 ((wrap64 (x7_1 * 2)) + 1))) = true := decide_eq_true c7
              clear c7
              have H' := Aside0.mk H
              clear H
              go_wp2
              go_roundg k1
              case measure => have := HK1.out; omega
              case rel => exact ⟨(wrap64 ((wrap64 (x6_1 * 2)) + 1)), (wrap64 ((wrap64 ((wrap64 (x7_1 * 2)) + 1)) - a1)), (wrap64 (x8_1 - 1)), (by first | rfl | (simp; done) | (simp [*]; done)), (by first | rfl | (simp; done) | (simp [*]; done)), (by first | rfl | (simp; done) | (simp [*]; done)), H', ⟨by have := HK1.out; omega⟩, by repeat (first | exact Drawn0.refl _ | apply Drawn0.step)⟩
            · rw [if_neg c7] at H
              have c7b0 : decide (a1 ≤ (wrap64 ((wrap64 (x7_1 * 2)) + 1))) = false := decide_eq_false c7
              clear c7
              have H' := Aside0.mk H
              clear H
              go_wp2
              go_roundg k1
              case measure => have := HK1.out; omega
              case rel => exact ⟨(wrap64 (x6_1 * 2)), (wrap64 ((wrap64 (x7_1 * 2)) + 1)), (wrap64 (x8_1 - 1)), (by first | rfl | (simp; done) | (simp [*]; done)), (by first | rfl | (simp; done) | (simp [*]; done)), (by first | rfl | (simp; done) | (simp [*]; done)), H', ⟨by have := HK1.out; omega⟩, by repeat (first | exact Drawn0.refl _ | apply Drawn0.step)⟩
          · rw [if_neg c6] at H
            have c6b0 : ((Int.tmod (ji5) 2) == 1) = false := beq_eq_false_iff_ne.mpr c6
            have c6b1 : ((Int.tmod (ji5) 2) != 1) = true := bne_iff_ne.mpr c6
            by_cases c8 : (wrap64 (x7_1 * 2)) ≥ a1
            · rw [if_pos c8] at H
              have c8b0 : decide (a1 ≤ (wrap64 (x7_1 * 2))) = true := decide_eq_true c8
              clear c8
              have H' := Aside0.mk H
              clear H
              go_wp2
              go_roundg k1
              case measure => have := HK1.out; omega
              case rel => exact ⟨(wrap64 ((wrap64 (x6_1 * 2)) + 1)), (wrap64 ((wrap64 (x7_1 * 2)) - a1)), (wrap64 (x8_1 - 1)), (by first | rfl | (simp; done) | (simp [*]; done)), (by first | rfl | (simp; done) | (simp [*]; done)), (by first | rfl | (simp; done) | (simp [*]; done)), H', ⟨by have := HK1.out; omega⟩, by repeat (first | exact Drawn0.refl _ | apply Drawn0.step)⟩
            · rw [if_neg c8] at H
              have c8b0 : decide (a1 ≤ (wrap64 (x7_1 * 2))) = false := decide_eq_false c8
              clear c8
              have H' := Aside0.mk H
              clear H
              go_wp2
              go_roundg k1
              case measure => have := HK1.out; omega
              case rel => exact ⟨(wrap64 (x6_1 * 2)), (wrap64 (x7_1 * 2)), (wrap64 (x8_1 - 1)), (by first | rfl | (simp; done) | (simp [*]; done)), (by first | rfl | (simp; done) | (simp [*]; done)), (by first | rfl | (simp; done) | (simp [*]; done)), H', ⟨by have := HK1.out; omega⟩, by repeat (first | exact Drawn0.refl _ | apply Drawn0.step)⟩
        · rw [if_neg c4] at H
          exact absurd H (by simp)
      · rw [if_neg c3] at H
        have c3b0 : decide (0 ≤ x8_1) = false := decide_eq_false c3
        clear c3
        simp only [Option.some.injEq, Prod.mk.injEq] at H
        obtain ⟨rfl, rfl⟩ := H
        go_wp2
        go_ret2
        exact ⟨by first | rfl | (simp; done) | (simp [*]; done), by repeat (first | exact Drawn0.refl _ | apply Drawn0.step)⟩

/-! ### bulkheadref03_magnitude: function 31 -/
def bulkheadref03_magnitude.f (a0 : Int) : Option (Int) := if a0 < 0 then (some (wrap64 (-a0))) else (some a0)
set_option maxHeartbeats 8000000 in
set_option maxRecDepth 100000 in
theorem bulkheadref03_magnitude.calls (a0 : Int) (r : Int) (w : World) (h : bulkheadref03_magnitude.f a0 = some r) :
    Calls Try.prog 31 #[.int .i64 a0] w fun e w' => e = .returned (.int .i64 r) ∧ Drawn0 w w' := by
  have H : (if a0 < 0 then (some (wrap64 (-a0))) else (some a0)) = some r := h
  clear h
  by_cases c2 : a0 < 0
  · rw [if_pos c2] at H
    have c2b0 : decide (a0 < 0) = true := decide_eq_true c2
    clear c2
    obtain rfl := Option.some.inj H
    go_enter Try.func31, Try.ntmps31
    go_wp2
    go_ret
    exact ⟨by first | rfl | (simp; done) | (simp [*]; done), by repeat (first | exact Drawn0.refl _ | apply Drawn0.step)⟩
  · rw [if_neg c2] at H
    have c2b0 : decide (a0 < 0) = false := decide_eq_false c2
    clear c2
    obtain rfl := Option.some.inj H
    go_enter Try.func31, Try.ntmps31
    go_wp2
    go_ret
    exact ⟨by first | rfl | (simp; done) | (simp [*]; done), by repeat (first | exact Drawn0.refl _ | apply Drawn0.step)⟩

end Go.Proofs.Ytjegoojkjcjpnaa.PAluDoes
