import Derived.Test.YtjegoojkjcjpnaaDoesMoved
namespace Go.Proofs.Ytjegoojkjcjpnaa.DoesWalk
set_option linter.unusedVariables false
set_option linter.unusedSimpArgs false
open Go.RowKit Go.Proofs.YtjegoojkjcjpnaaW.PrintWords Go.Proofs.YtjegoojkjcjpnaaW.PrintLast Go.Proofs.YtjegoojkjcjpnaaW.PrintMore
open Go.Proofs.Ytjegoojkjcjpnaa.PAluDoes

def Ret2 (a b : Int) (w : World) (e : Ending) (w' : World) : Prop := e = .returned (.tuple #[.int .u32 a, .int .i64 b]) ∧ Drawn0 w w'
theorem ret_ (a a' b : Int) (h : a = a') : Ending.returned (.tuple #[.int .u32 a, .int .i64 b]) = Ending.returned (.tuple #[.int .u32 a', .int .i64 b]) := by rw [h]

set_option maxHeartbeats 400000 in
theorem do_5 (x y : Int) (w : World) (x0 : 0 ≤ x) (x1 : x < 4294967296) (y0 : 0 ≤ y) (y1 : y < 4294967296) :
    Calls Try.prog 16 #[.int .i64 5, .int .u32 x, .int .u32 y] w fun e w' => e = .returned (.tuple #[.int .u32 ((x + y) % 4294967296), .int .i64 0]) ∧ Drawn0 w w' := by
  go_enter Try.func16, Try.ntmps16
  go_wp2_with (first | (go_at_call 18; (with_reducible refine (does_any _ _).mono ?_); rintro e w' ⟨rfl, ⟨n, rfl⟩⟩) | (go_at_call 23; refine (word_any _ _ (by omega) (by omega)).mono ?_; rintro e w' ⟨rfl, ⟨n, rfl⟩⟩))
  go_ret2
  exact ⟨ret_ _ _ _ rfl, by repeat (first | exact Drawn0.refl _ | apply Drawn0.step)⟩

set_option maxHeartbeats 400000 in
theorem do_6 (x y : Int) (w : World) (x0 : 0 ≤ x) (x1 : x < 4294967296) (y0 : 0 ≤ y) (y1 : y < 4294967296) :
    Calls Try.prog 16 #[.int .i64 6, .int .u32 x, .int .u32 y] w fun e w' => e = .returned (.tuple #[.int .u32 ((x - y) % 4294967296), .int .i64 0]) ∧ Drawn0 w w' := by
  go_enter Try.func16, Try.ntmps16
  go_wp2_with (first | (go_at_call 18; (with_reducible refine (does_any _ _).mono ?_); rintro e w' ⟨rfl, ⟨n, rfl⟩⟩) | (go_at_call 23; refine (word_any _ _ (by omega) (by omega)).mono ?_; rintro e w' ⟨rfl, ⟨n, rfl⟩⟩))
  go_ret2
  exact ⟨ret_ _ _ _ rfl, by repeat (first | exact Drawn0.refl _ | apply Drawn0.step)⟩

set_option maxHeartbeats 400000 in
theorem do_7 (x y : Int) (w : World) (x0 : 0 ≤ x) (x1 : x < 4294967296) (y0 : 0 ≤ y) (y1 : y < 4294967296) :
    Calls Try.prog 16 #[.int .i64 7, .int .u32 x, .int .u32 y] w fun e w' => e = .returned (.tuple #[.int .u32 (x * y % 4294967296), .int .i64 0]) ∧ Drawn0 w w' := by
  go_enter Try.func16, Try.ntmps16
  go_wp2_with (first | (go_at_call 18; (with_reducible refine (does_any _ _).mono ?_); rintro e w' ⟨rfl, ⟨n, rfl⟩⟩) | (go_at_call 24; refine (times_any _ _ _ (by omega) (by omega) (by omega) (by omega)).mono ?_; rintro e w' ⟨rfl, ⟨n, rfl⟩⟩))
  go_ret2
  exact ⟨ret_ _ _ _ rfl, by repeat (first | exact Drawn0.refl _ | apply Drawn0.step)⟩

set_option maxHeartbeats 400000 in
theorem do_8 (x y : Int) (w : World) (x0 : 0 ≤ x) (x1 : x < 4294967296) (y0 : 0 < y) (y1 : y < 4294967296) :
    Calls Try.prog 16 #[.int .i64 8, .int .u32 x, .int .u32 y] w fun e w' => e = .returned (.tuple #[.int .u32 (Int.tdiv (wrap32 x) (wrap32 y) % 4294967296), .int .i64 0]) ∧ Drawn0 w w' := by
  have hyb : (y == 0) = false := by simp; omega
  go_enter Try.func16, Try.ntmps16
  go_wp2_with (first | (go_at_call 18; (with_reducible refine (does_any _ _).mono ?_); rintro e w' ⟨rfl, ⟨n, rfl⟩⟩) | (go_at_call 25; refine (divided_any _ _ _ (by omega) (by omega) (by omega) (by omega)).mono ?_; rintro e w' ⟨rfl, ⟨n, rfl⟩⟩))
  go_ret2
  exact ⟨ret_ _ _ _ rfl, by repeat (first | exact Drawn0.refl _ | apply Drawn0.step)⟩

set_option maxHeartbeats 400000 in
theorem do_9 (x y : Int) (w : World) (x0 : 0 ≤ x) (x1 : x < 4294967296) (y0 : 0 < y) (y1 : y < 4294967296) :
    Calls Try.prog 16 #[.int .i64 9, .int .u32 x, .int .u32 y] w fun e w' => e = .returned (.tuple #[.int .u32 (Int.tmod (wrap32 x) (wrap32 y) % 4294967296), .int .i64 0]) ∧ Drawn0 w w' := by
  have hyb : (y == 0) = false := by simp; omega
  go_enter Try.func16, Try.ntmps16
  go_wp2_with (first | (go_at_call 18; (with_reducible refine (does_any _ _).mono ?_); rintro e w' ⟨rfl, ⟨n, rfl⟩⟩) | (go_at_call 25; refine (divided_any _ _ _ (by omega) (by omega) (by omega) (by omega)).mono ?_; rintro e w' ⟨rfl, ⟨n, rfl⟩⟩))
  go_ret2
  exact ⟨ret_ _ _ _ rfl, by repeat (first | exact Drawn0.refl _ | apply Drawn0.step)⟩

set_option maxHeartbeats 400000 in
theorem do_10 (x y : Int) (w : World) (x0 : 0 ≤ x) (x1 : x < 4294967296) (y0 : 0 ≤ y) (y1 : y < 4294967296) :
    Calls Try.prog 16 #[.int .i64 10, .int .u32 x, .int .u32 y] w fun e w' => e = .returned (.tuple #[.int .u32 (((x.toNat &&& y.toNat : Nat) : Int)), .int .i64 0]) ∧ Drawn0 w w' := by
  have HM := Aside0.mk (fun w => mixed_any 10 x.toNat y.toNat w (by omega) (by omega))
  rw [Int.toNat_of_nonneg x0, Int.toNat_of_nonneg y0] at HM
  have HX : mix 10 x.toNat y.toNat = x.toNat &&& y.toNat  := by simp [mix]
  rw [HX] at HM
  clear HX
  go_enter Try.func16, Try.ntmps16
  go_wp2_with (first | (go_at_call 18; (with_reducible refine (does_any _ _).mono ?_); rintro e w' ⟨rfl, ⟨n, rfl⟩⟩) | (go_at_call 26; refine (HM.out _).mono ?_; rintro e w' ⟨rfl, ⟨n, rfl⟩⟩))
  go_ret2
  exact ⟨ret_ _ _ _ rfl, by repeat (first | exact Drawn0.refl _ | apply Drawn0.step)⟩

set_option maxHeartbeats 400000 in
theorem do_11 (x y : Int) (w : World) (x0 : 0 ≤ x) (x1 : x < 4294967296) (y0 : 0 ≤ y) (y1 : y < 4294967296) :
    Calls Try.prog 16 #[.int .i64 11, .int .u32 x, .int .u32 y] w fun e w' => e = .returned (.tuple #[.int .u32 (((x.toNat ||| y.toNat : Nat) : Int)), .int .i64 0]) ∧ Drawn0 w w' := by
  have HM := Aside0.mk (fun w => mixed_any 11 x.toNat y.toNat w (by omega) (by omega))
  rw [Int.toNat_of_nonneg x0, Int.toNat_of_nonneg y0] at HM
  have HX : mix 11 x.toNat y.toNat = x.toNat ||| y.toNat  := by simp [mix]
  rw [HX] at HM
  clear HX
  go_enter Try.func16, Try.ntmps16
  go_wp2_with (first | (go_at_call 18; (with_reducible refine (does_any _ _).mono ?_); rintro e w' ⟨rfl, ⟨n, rfl⟩⟩) | (go_at_call 26; refine (HM.out _).mono ?_; rintro e w' ⟨rfl, ⟨n, rfl⟩⟩))
  go_ret2
  exact ⟨ret_ _ _ _ rfl, by repeat (first | exact Drawn0.refl _ | apply Drawn0.step)⟩

set_option maxHeartbeats 400000 in
theorem do_12 (x y : Int) (w : World) (x0 : 0 ≤ x) (x1 : x < 4294967296) (y0 : 0 ≤ y) (y1 : y < 4294967296) :
    Calls Try.prog 16 #[.int .i64 12, .int .u32 x, .int .u32 y] w fun e w' => e = .returned (.tuple #[.int .u32 (((x.toNat ^^^ y.toNat : Nat) : Int)), .int .i64 0]) ∧ Drawn0 w w' := by
  have HM := Aside0.mk (fun w => mixed_any 12 x.toNat y.toNat w (by omega) (by omega))
  rw [Int.toNat_of_nonneg x0, Int.toNat_of_nonneg y0] at HM
  have HX : mix 12 x.toNat y.toNat = x.toNat ^^^ y.toNat  := by simp [mix]
  rw [HX] at HM
  clear HX
  go_enter Try.func16, Try.ntmps16
  go_wp2_with (first | (go_at_call 18; (with_reducible refine (does_any _ _).mono ?_); rintro e w' ⟨rfl, ⟨n, rfl⟩⟩) | (go_at_call 26; refine (HM.out _).mono ?_; rintro e w' ⟨rfl, ⟨n, rfl⟩⟩))
  go_ret2
  exact ⟨ret_ _ _ _ rfl, by repeat (first | exact Drawn0.refl _ | apply Drawn0.step)⟩

set_option maxHeartbeats 400000 in
theorem do_13 (x y : Int) (w : World) (x0 : 0 ≤ x) (x1 : x < 4294967296) (y0 : 0 ≤ y) (y1 : y < 4294967296) :
    Calls Try.prog 16 #[.int .i64 13, .int .u32 x, .int .u32 y] w fun e w' => e = .returned (.tuple #[.int .u32 (mov 13 x (y % 32).toNat), .int .i64 0]) ∧ Drawn0 w w' := by
  go_enter Try.func16, Try.ntmps16
  go_wp2_with (first | (go_at_call 18; (with_reducible refine (does_any _ _).mono ?_); rintro e w' ⟨rfl, ⟨n, rfl⟩⟩) | (go_at_call 27; refine (moved_any _ _ _ _ (by omega) (by omega) (by omega)).mono ?_; rintro e w' ⟨rfl, ⟨n, rfl⟩⟩))
  go_ret2
  exact ⟨ret_ _ _ _ rfl, by repeat (first | exact Drawn0.refl _ | apply Drawn0.step)⟩

set_option maxHeartbeats 400000 in
theorem do_14 (x y : Int) (w : World) (x0 : 0 ≤ x) (x1 : x < 4294967296) (y0 : 0 ≤ y) (y1 : y < 4294967296) :
    Calls Try.prog 16 #[.int .i64 14, .int .u32 x, .int .u32 y] w fun e w' => e = .returned (.tuple #[.int .u32 (mov 14 x (y % 32).toNat), .int .i64 0]) ∧ Drawn0 w w' := by
  go_enter Try.func16, Try.ntmps16
  go_wp2_with (first | (go_at_call 18; (with_reducible refine (does_any _ _).mono ?_); rintro e w' ⟨rfl, ⟨n, rfl⟩⟩) | (go_at_call 27; refine (moved_any _ _ _ _ (by omega) (by omega) (by omega)).mono ?_; rintro e w' ⟨rfl, ⟨n, rfl⟩⟩))
  go_ret2
  exact ⟨ret_ _ _ _ rfl, by repeat (first | exact Drawn0.refl _ | apply Drawn0.step)⟩

set_option maxHeartbeats 400000 in
theorem do_15 (x y : Int) (w : World) (x0 : 0 ≤ x) (x1 : x < 4294967296) (y0 : 0 ≤ y) (y1 : y < 4294967296) :
    Calls Try.prog 16 #[.int .i64 15, .int .u32 x, .int .u32 y] w fun e w' => e = .returned (.tuple #[.int .u32 (mov 15 x (y % 32).toNat), .int .i64 0]) ∧ Drawn0 w w' := by
  go_enter Try.func16, Try.ntmps16
  go_wp2_with (first | (go_at_call 18; (with_reducible refine (does_any _ _).mono ?_); rintro e w' ⟨rfl, ⟨n, rfl⟩⟩) | (go_at_call 27; refine (moved_any _ _ _ _ (by omega) (by omega) (by omega)).mono ?_; rintro e w' ⟨rfl, ⟨n, rfl⟩⟩))
  go_ret2
  exact ⟨ret_ _ _ _ rfl, by repeat (first | exact Drawn0.refl _ | apply Drawn0.step)⟩
set_option maxHeartbeats 400000 in
theorem do_16 (x y : Int) (w : World) (x0 : 0 ≤ x) (x1 : x < 4294967296) (y0 : 0 ≤ y) (y1 : y < 4294967296) :
    Calls Try.prog 16 #[.int .i64 16, .int .u32 x, .int .u32 y] w fun e w' => e = .returned (.tuple #[.int .u32 (if wrap32 x < wrap32 y then 1 else 0), .int .i64 0]) ∧ Drawn0 w w' := by
  by_cases h : wrap32 x < wrap32 y
  · have hd : decide (wrap32 x < wrap32 y) = true := by simpa using h
    go_enter Try.func16, Try.ntmps16
    go_wp2_with (first | (go_at_call 18; (with_reducible refine (does_any _ _).mono ?_); rintro e w' ⟨rfl, ⟨n, rfl⟩⟩) | (go_at_call 20; refine (below_slt _ _ _ (by omega) (by omega) (by omega) (by omega)).mono ?_; rintro e w' ⟨rfl, ⟨n, rfl⟩⟩))
    go_ret2
    exact ⟨ret_ _ _ _ (by first | rfl | simp [h]), by repeat (first | exact Drawn0.refl _ | apply Drawn0.step)⟩
  · have hd : decide (wrap32 x < wrap32 y) = false := by simpa using h
    go_enter Try.func16, Try.ntmps16
    go_wp2_with (first | (go_at_call 18; (with_reducible refine (does_any _ _).mono ?_); rintro e w' ⟨rfl, ⟨n, rfl⟩⟩) | (go_at_call 20; refine (below_slt _ _ _ (by omega) (by omega) (by omega) (by omega)).mono ?_; rintro e w' ⟨rfl, ⟨n, rfl⟩⟩))
    go_ret2
    exact ⟨ret_ _ _ _ (by first | rfl | simp [h]), by repeat (first | exact Drawn0.refl _ | apply Drawn0.step)⟩
set_option maxHeartbeats 400000 in
theorem do_17 (x y : Int) (w : World) (x0 : 0 ≤ x) (x1 : x < 4294967296) (y0 : 0 ≤ y) (y1 : y < 4294967296) :
    Calls Try.prog 16 #[.int .i64 17, .int .u32 x, .int .u32 y] w fun e w' => e = .returned (.tuple #[.int .u32 (if x < y then 1 else 0), .int .i64 0]) ∧ Drawn0 w w' := by
  by_cases h : x < y
  · have hd : decide (x < y) = true := by simpa using h
    go_enter Try.func16, Try.ntmps16
    go_wp2_with (first | (go_at_call 18; (with_reducible refine (does_any _ _).mono ?_); rintro e w' ⟨rfl, ⟨n, rfl⟩⟩) | (go_at_call 20; refine (below_sltu _ _ _).mono ?_; rintro e w' ⟨rfl, ⟨n, rfl⟩⟩))
    go_ret2
    exact ⟨ret_ _ _ _ (by first | rfl | simp [h]), by repeat (first | exact Drawn0.refl _ | apply Drawn0.step)⟩
  · have hd : decide (x < y) = false := by simpa using h
    go_enter Try.func16, Try.ntmps16
    go_wp2_with (first | (go_at_call 18; (with_reducible refine (does_any _ _).mono ?_); rintro e w' ⟨rfl, ⟨n, rfl⟩⟩) | (go_at_call 20; refine (below_sltu _ _ _).mono ?_; rintro e w' ⟨rfl, ⟨n, rfl⟩⟩))
    go_ret2
    exact ⟨ret_ _ _ _ (by first | rfl | simp [h]), by repeat (first | exact Drawn0.refl _ | apply Drawn0.step)⟩

theorem do_zero (op x : Int) (w : World) (ho : op = 8 ∨ op = 9) :
    Calls Try.prog 16 #[.int .i64 op, .int .u32 x, .int .u32 0] w fun e w' => e = .returned (.tuple #[.int .u32 0, .int .i64 31]) ∧ Drawn0 w w' := by
  rcases ho with rfl | rfl
  all_goals
    go_enter Try.func16, Try.ntmps16
    go_wp2_with (first | (go_at_call 18; (with_reducible refine (does_any _ _).mono ?_); rintro e w' ⟨rfl, ⟨n, rfl⟩⟩))
    go_ret2
    exact ⟨ret_ _ _ _ rfl, by repeat (first | exact Drawn0.refl _ | apply Drawn0.step)⟩

theorem do_none (op x y : Int) (w : World) (ho : ¬ (5 ≤ op ∧ op ≤ 17)) :
    Calls Try.prog 16 #[.int .i64 op, .int .u32 x, .int .u32 y] w fun e w' => e = .returned (.tuple #[.int .u32 0, .int .i64 30]) ∧ Drawn0 w w' := by
  have HD : Aside0 (∀ w, Calls Try.prog 18 #[.int .i64 op] w fun e w' => e = .returned (.bool false) ∧ Drawn0 w w') := ⟨fun w => by
    have h := does_any op w
    rwa [decide_eq_false ho] at h⟩
  clear ho
  go_enter Try.func16, Try.ntmps16
  go_wp2_with (go_at_call 18; (with_reducible refine (HD.out _).mono ?_); rintro e w' ⟨rfl, ⟨n, rfl⟩⟩)
  go_ret2
  exact ⟨ret_ _ _ _ rfl, by repeat (first | exact Drawn0.refl _ | apply Drawn0.step)⟩

theorem tm32 (y : Int) (h : 0 ≤ y) : Int.tmod y 32 = y % 32 := Int.tmod_eq_emod_of_nonneg h

/-- The document's Do is the program's. -/
theorem do_same (op x y : Int) (x0 : 0 ≤ x) (x1 : x < 4294967296) (y0 : 0 ≤ y) (y1 : y < 4294967296) :
    ∃ r e : Int, alu_Do.f 1 op x y = some (r, e) ∧ ∀ w, Calls Try.prog 16 #[.int .i64 op, .int .u32 x, .int .u32 y] w fun e' w' => e' = .returned (.tuple #[.int .u32 r, .int .i64 e]) ∧ Drawn0 w w' := by
  by_cases ho : ¬ (5 ≤ op ∧ op ≤ 17)
  · refine ⟨0, 30, ?_, fun w => do_none op x y w ho⟩
    have h : ∀ n : Int, 5 ≤ n → n ≤ 17 → op ≠ n := by intro n h0 h1 h2; omega
    have h5 := h 5 (by decide) (by decide); have h6 := h 6 (by decide) (by decide); have h7 := h 7 (by decide) (by decide); have h8 := h 8 (by decide) (by decide); have h9 := h 9 (by decide) (by decide)
    have h10 := h 10 (by decide) (by decide); have h11 := h 11 (by decide) (by decide); have h12 := h 12 (by decide) (by decide); have h13 := h 13 (by decide) (by decide)
    have h14 := h 14 (by decide) (by decide); have h15 := h 15 (by decide) (by decide); have h16 := h 16 (by decide) (by decide); have h17 := h 17 (by decide) (by decide)
    simp [alu_Do.f, alu_Do.j0, alu_plain.f, h5, h6, h7, h8, h9, h10, h11, h12, h13, h14, h15, h16, h17]
  have hm0 : 0 ≤ y % 32 := by omega
  have hm1 : y % 32 < 32 := by omega
  have hc : op = 5 ∨ op = 6 ∨ op = 7 ∨ op = 8 ∨ op = 9 ∨ op = 10 ∨ op = 11 ∨ op = 12 ∨ op = 13 ∨ op = 14 ∨ op = 15 ∨ op = 16 ∨ op = 17 := by omega
  rcases hc with rfl | rfl | rfl | rfl | rfl | rfl | rfl | rfl | rfl | rfl | rfl | rfl | rfl
  · exact ⟨_, 0, by simp [alu_Do.f, alu_Do.j0, alu_plain.f], fun w => do_5 x y w x0 x1 y0 y1⟩
  · exact ⟨_, 0, by simp [alu_Do.f, alu_Do.j0, alu_plain.f, Int.sub_eq_add_neg], fun w => do_6 x y w x0 x1 y0 y1⟩
  · exact ⟨_, 0, by simp [alu_Do.f, alu_Do.j0, alu_plain.f], fun w => do_7 x y w x0 x1 y0 y1⟩
  · by_cases hy : y = 0
    · subst hy; exact ⟨0, 31, by simp [alu_Do.f, alu_Do.j0], fun w => do_zero 8 x w (Or.inl rfl)⟩
    · refine ⟨_, 0, ?_, fun w => do_8 x y w x0 x1 (by omega) y1⟩
      have wd : wrap64 (wrap32 x) = wrap32 x := by unfold wrap64 wrap32; omega
      have wy : wrap64 (wrap32 y) = wrap32 y := by unfold wrap64 wrap32; omega
      have hz : wrap32 y ≠ 0 := by unfold wrap32; omega
      have hq := Int.natAbs_tdiv_le_natAbs (wrap32 x) (wrap32 y)
      have hb : (wrap32 x).natAbs ≤ 2147483648 := by unfold wrap32; omega
      have wq : wrap64 (Int.tdiv (wrap32 x) (wrap32 y)) = Int.tdiv (wrap32 x) (wrap32 y) := by unfold wrap64; omega
      simp [alu_Do.f, alu_Do.j0, alu_divided.f, wd, wy, hz, hy, wq]
  · by_cases hy : y = 0
    · subst hy; exact ⟨0, 31, by simp [alu_Do.f, alu_Do.j0], fun w => do_zero 9 x w (Or.inr rfl)⟩
    · refine ⟨_, 0, ?_, fun w => do_9 x y w x0 x1 (by omega) y1⟩
      have wd : wrap64 (wrap32 x) = wrap32 x := by unfold wrap64 wrap32; omega
      have wy : wrap64 (wrap32 y) = wrap32 y := by unfold wrap64 wrap32; omega
      have hz : wrap32 y ≠ 0 := by unfold wrap32; omega
      simp [alu_Do.f, alu_Do.j0, alu_divided.f, wd, wy, hz, hy]
  · exact ⟨_, 0, by simp [alu_Do.f, alu_Do.j0, alu_plain.f, u32_and x y x0 x1 y0 y1], fun w => do_10 x y w x0 x1 y0 y1⟩
  · exact ⟨_, 0, by simp [alu_Do.f, alu_Do.j0, alu_plain.f, u32_or x y x0 x1 y0 y1], fun w => do_11 x y w x0 x1 y0 y1⟩
  · exact ⟨_, 0, by simp [alu_Do.f, alu_Do.j0, alu_plain.f, u32_xor x y x0 x1 y0 y1], fun w => do_12 x y w x0 x1 y0 y1⟩
  · exact ⟨_, 0, by simp [alu_Do.f, alu_Do.j0, alu_plain.f, tm32 y y0, hm0, Plain.shl32 x _ hm0 hm1, mov], fun w => do_13 x y w x0 x1 y0 y1⟩
  · exact ⟨_, 0, by simp [alu_Do.f, alu_Do.j0, alu_plain.f, tm32 y y0, hm0, Plain.shr32 .u32 rfl x _ hm1, mov], fun w => do_14 x y w x0 x1 y0 y1⟩
  · exact ⟨_, 0, by simp [alu_Do.f, alu_Do.j0, alu_plain.f, tm32 y y0, hm0, Plain.shr32 .i32 rfl (wrap32 x) _ hm1, mov], fun w => do_15 x y w x0 x1 y0 y1⟩
  · exact ⟨_, 0, by by_cases h : wrap32 x < wrap32 y <;> simp [alu_Do.f, alu_Do.j0, alu_plain.f, alu_one.f, h], fun w => do_16 x y w x0 x1 y0 y1⟩
  · exact ⟨_, 0, by by_cases h : x < y <;> simp [alu_Do.f, alu_Do.j0, alu_plain.f, alu_one.f, h], fun w => do_17 x y w x0 x1 y0 y1⟩

end Go.Proofs.Ytjegoojkjcjpnaa.DoesWalk
