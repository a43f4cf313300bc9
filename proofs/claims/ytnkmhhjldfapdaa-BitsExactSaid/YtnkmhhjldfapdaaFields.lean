import Derived.Test.YtnkmhhjldfapdaaPlain
namespace Go.Proofs.Ytnkmhhjldfapdaa.Fw
open Go Go.Proofs
set_option linter.unusedVariables false
set_option linter.unusedSimpArgs false
set_option maxRecDepth 10000
theorem mo : Try.prog.follows .mixedOrders = true := by kernel_rfl
theorem field_in (w0 : World) (F : List Atom) (x : Int) (x0 : 0 ≤ x) (x1 : x ≤ 4294967295) (fr : Int) (fr0 : -9223372036854775808 ≤ fr) (fr1 : fr ≤ 9223372036854775807) (wd : Int) (wd0 : -9223372036854775808 ≤ wd) (wd1 : wd ≤ 9223372036854775807) (ht : There fr wd) :
    CallK Try.prog 11 [.int .u32 x, .int .i64 fr, .int .i64 wd] w0 (F) (Gives w0 fun v F2 => v = .tuple #[.int .u32 (fieldV x fr wd), .int .i64 0] ∧ F2 = F) := by
  obtain ⟨t0, t1, t2, t3⟩ := id ht
  have hpw := pow_bd (k := wd.toNat) (by omega)
  have hfb := @field_bd x fr wd
  refine c_enter Try.func11 rfl rfl rfl ?_
  refine g_seq ?_
  refine g_region ?_
  refine l_assign rfl rfl ?_
  refine l_assign rfl rfl ?_
  refine l_nil ?_
  refine g_seq ?_
  refine g_seq ?_
  refine g_region ?_
  refine l_move rfl rfl ?_
  refine l_move rfl rfl ?_
  refine l_inl rfl Try.call43 rfl ?_
  refine c_enter Try.func43 rfl rfl rfl ?_
  refine g_seq ?_
  refine g_region ?_
  refine l_assign rfl rfl ?_
  refine l_nil ?_
  refine g_seq ?_
  refine g_region ?_
  refine l_move rfl rfl ?_
  refine l_geq rfl rfl rfl ?_
  refine l_move rfl rfl ?_
  refine l_split 7 rfl ?_ ?_
  · intro hbr
    have hbr := of_decide_eq_true hbr
    refine l_guard_yes rfl rfl ?_
    refine l_move rfl rfl ?_
    refine l_guard_yes rfl rfl ?_
    refine l_lss rfl rfl rfl ?_
    refine l_pick_t rfl rfl rfl ?_
    refine l_move rfl rfl ?_
    refine l_split 11 rfl ?_ ?_
    · intro hbr
      have hbr := of_decide_eq_true hbr
      refine l_guard_yes rfl rfl ?_
      refine l_move rfl rfl ?_
      refine l_guard_yes rfl rfl ?_
      refine l_geq rfl rfl rfl ?_
      refine l_pick_t rfl rfl rfl ?_
      refine l_move rfl rfl ?_
      refine l_split 15 rfl ?_ ?_
      · intro hbr
        have hbr := of_decide_eq_true hbr
        refine l_guard_yes rfl rfl ?_
        refine l_move rfl rfl ?_
        refine l_guard_yes rfl rfl ?_
        refine l_move rfl rfl ?_
        refine l_guard_yes rfl rfl ?_
        first | refine l_sub_ rfl rfl rfl (w_i64 (by omega) (by omega)) ?_ | refine l_subw rfl rfl rfl ?_
        refine l_guard_yes rfl rfl ?_
        refine l_leq rfl rfl rfl ?_
        refine l_pick_t rfl rfl rfl ?_
        refine l_assign rfl rfl ?_
        refine l_nil ?_
        refine g_ret Try.func43 rfl (.tmp rfl .nil) ?_
        first | refine ⟨.bool _, rfl, ?_⟩ | refine ⟨_, rfl, ?_⟩
        refine l_not rfl rfl ?_
        refine l_nil ?_
        refine g_cond rfl ?_ ?_
        · intro hbr
          have hbr := of_decide_eq_false (nb_t hbr)
          (exfalso; omega)
        intro hbr
        have hbr := of_decide_eq_true (nb_f hbr)
        refine g_skip ?_
        refine g_seq ?_
        refine gp_start mo (by kernel_rfl) (by kernel_rfl) ?_
        refine gp_quiet 0 rfl rfl rfl rfl rfl rfl (q_move rfl) ?_
        first | refine gp_quiet 1 rfl rfl rfl rfl rfl rfl (q_conv Try.underlying23 Try.underlying53 rfl (w_u64 (by omega) (by omega))) ?_ | refine gp_quiet 1 rfl rfl rfl rfl rfl rfl (q_convm (m := 18446744073709551616) wr_u64 Try.underlying23 Try.underlying53 rfl) ?_
        refine gp_quiet 2 rfl rfl rfl rfl rfl rfl (q_move rfl) ?_
        have hsb := @shV_bd x fr x0
        refine gp_quiet 3 rfl rfl rfl rfl rfl rfl (q_shr (r := shV x fr) rfl rfl (by omega) (by rw [show min fr.toNat IntKind.u64.bits = fr.toNat from min64 (by omega)]; rfl)) ?_
        refine gp_quiet 4 rfl rfl rfl rfl rfl rfl (q_move rfl) ?_
        refine gp_quiet 5 rfl rfl rfl rfl rfl rfl (q_shl (r := 2 ^ wd.toNat) rfl rfl (by omega) (by rw [show min wd.toNat IntKind.u64.bits = wd.toNat from min64 (by omega), Int.one_mul]; exact w_u64 (by omega) (by omega))) ?_
        first | refine gp_quiet 6 rfl rfl rfl rfl rfl rfl (q_sub_ rfl rfl (w_u64 (by omega) (by omega))) ?_ | refine gp_quiet 6 rfl rfl rfl rfl rfl rfl (q_subm (m := 18446744073709551616) wr_u64 rfl rfl) ?_
        refine gp_quiet 7 rfl rfl rfl rfl rfl rfl (q_andr (m := 64) (r := fieldV x fr wd) rfl rfl rfl rfl (and_maskI (shV_bd x0).1 (by omega))) ?_
        first | refine gp_quiet 8 rfl rfl rfl rfl rfl rfl (q_conv Try.underlying53 Try.underlying23 rfl (w_u32 (by omega) (by omega))) ?_ | refine gp_quiet 8 rfl rfl rfl rfl rfl rfl (q_convm (m := 4294967296) wr_u32 Try.underlying53 Try.underlying23 rfl) ?_
        refine gp_quiet 9 rfl rfl rfl rfl rfl rfl (q_assign rfl) ?_
        refine gp_quiet 10 rfl rfl rfl rfl rfl rfl (q_assign rfl) ?_
        refine gp_end rfl rfl ?_
        refine g_ret Try.func11 rfl (.tmp rfl (.tmp rfl .nil)) ?_
        exact Gives.mki ⟨rfl, rfl⟩
      · intro hbr
        have hbr := of_decide_eq_false hbr
        (exfalso; omega)
    · intro hbr
      have hbr := of_decide_eq_false hbr
      (exfalso; omega)
  · intro hbr
    have hbr := of_decide_eq_false hbr
    (exfalso; omega)
theorem field_out (w0 : World) (F : List Atom) (x : Int) (x0 : 0 ≤ x) (x1 : x ≤ 4294967295) (fr : Int) (fr0 : -9223372036854775808 ≤ fr) (fr1 : fr ≤ 9223372036854775807) (wd : Int) (wd0 : -9223372036854775808 ≤ wd) (wd1 : wd ≤ 9223372036854775807) (ht : ¬ There fr wd) :
    CallK Try.prog 11 [.int .u32 x, .int .i64 fr, .int .i64 wd] w0 (F) (Gives w0 fun v F2 => v = .tuple #[.int .u32 0, .int .i64 10] ∧ F2 = F) := by
  unfold There at ht
  refine c_enter Try.func11 rfl rfl rfl ?_
  refine g_seq ?_
  refine g_region ?_
  refine l_assign rfl rfl ?_
  refine l_assign rfl rfl ?_
  refine l_nil ?_
  refine g_seq ?_
  refine g_seq ?_
  refine g_region ?_
  refine l_move rfl rfl ?_
  refine l_move rfl rfl ?_
  refine l_inl rfl Try.call43 rfl ?_
  refine c_enter Try.func43 rfl rfl rfl ?_
  refine g_seq ?_
  refine g_region ?_
  refine l_assign rfl rfl ?_
  refine l_nil ?_
  refine g_seq ?_
  refine g_region ?_
  refine l_move rfl rfl ?_
  refine l_geq rfl rfl rfl ?_
  refine l_move rfl rfl ?_
  refine l_split 7 rfl ?_ ?_
  · intro hbr
    have hbr := of_decide_eq_true hbr
    refine l_guard_yes rfl rfl ?_
    refine l_move rfl rfl ?_
    refine l_guard_yes rfl rfl ?_
    refine l_lss rfl rfl rfl ?_
    refine l_pick_t rfl rfl rfl ?_
    refine l_move rfl rfl ?_
    refine l_split 11 rfl ?_ ?_
    · intro hbr
      have hbr := of_decide_eq_true hbr
      refine l_guard_yes rfl rfl ?_
      refine l_move rfl rfl ?_
      refine l_guard_yes rfl rfl ?_
      refine l_geq rfl rfl rfl ?_
      refine l_pick_t rfl rfl rfl ?_
      refine l_move rfl rfl ?_
      refine l_split 15 rfl ?_ ?_
      · intro hbr
        have hbr := of_decide_eq_true hbr
        refine l_guard_yes rfl rfl ?_
        refine l_move rfl rfl ?_
        refine l_guard_yes rfl rfl ?_
        refine l_move rfl rfl ?_
        refine l_guard_yes rfl rfl ?_
        first | refine l_sub_ rfl rfl rfl (w_i64 (by omega) (by omega)) ?_ | refine l_subw rfl rfl rfl ?_
        refine l_guard_yes rfl rfl ?_
        refine l_leq rfl rfl rfl ?_
        refine l_pick_t rfl rfl rfl ?_
        refine l_assign rfl rfl ?_
        refine l_nil ?_
        refine g_ret Try.func43 rfl (.tmp rfl .nil) ?_
        first | refine ⟨.bool _, rfl, ?_⟩ | refine ⟨_, rfl, ?_⟩
        refine l_not rfl rfl ?_
        refine l_nil ?_
        refine g_cond rfl ?_ ?_
        · intro hbr
          have hbr := of_decide_eq_false (nb_t hbr)
          refine g_seq ?_
          refine g_region ?_
          refine l_assign rfl rfl ?_
          refine l_assign rfl rfl ?_
          refine l_nil ?_
          refine g_ret Try.func11 rfl (.tmp rfl (.tmp rfl .nil)) ?_
          exact Gives.mki ⟨rfl, rfl⟩
        · intro hbr
          have hbr := of_decide_eq_true (nb_f hbr)
          (exfalso; omega)
      intro hbr
      have hbr := of_decide_eq_false hbr
      refine l_guard_no rfl rfl rfl ?_
      refine l_guard_no rfl rfl rfl ?_
      refine l_guard_no rfl rfl rfl ?_
      refine l_guard_no rfl rfl rfl ?_
      refine l_pick_f rfl rfl rfl ?_
      refine l_assign rfl rfl ?_
      refine l_nil ?_
      refine g_ret Try.func43 rfl (.tmp rfl .nil) ?_
      first | refine ⟨.bool _, rfl, ?_⟩ | refine ⟨_, rfl, ?_⟩
      refine l_not rfl rfl ?_
      refine l_nil ?_
      first | refine g_cond_t rfl ?_ | refine g_cond_t (congrArg (fun b => some (Value.bool b)) (decide_eq_true hbr)) ?_
      refine g_seq ?_
      refine g_region ?_
      refine l_assign rfl rfl ?_
      refine l_assign rfl rfl ?_
      refine l_nil ?_
      refine g_ret Try.func11 rfl (.tmp rfl (.tmp rfl .nil)) ?_
      exact Gives.mki ⟨rfl, rfl⟩
    intro hbr
    have hbr := of_decide_eq_false hbr
    refine l_guard_no rfl rfl rfl ?_
    refine l_guard_no rfl rfl rfl ?_
    refine l_pick_f rfl rfl rfl ?_
    refine l_move rfl rfl ?_
    refine l_guard_no rfl rfl rfl ?_
    refine l_guard_no rfl rfl rfl ?_
    refine l_guard_no rfl rfl rfl ?_
    refine l_guard_no rfl rfl rfl ?_
    refine l_pick_f rfl rfl rfl ?_
    refine l_assign rfl rfl ?_
    refine l_nil ?_
    refine g_ret Try.func43 rfl (.tmp rfl .nil) ?_
    first | refine ⟨.bool _, rfl, ?_⟩ | refine ⟨_, rfl, ?_⟩
    refine l_not rfl rfl ?_
    refine l_nil ?_
    first | refine g_cond_t rfl ?_ | refine g_cond_t (congrArg (fun b => some (Value.bool b)) (decide_eq_true hbr)) ?_
    refine g_seq ?_
    refine g_region ?_
    refine l_assign rfl rfl ?_
    refine l_assign rfl rfl ?_
    refine l_nil ?_
    refine g_ret Try.func11 rfl (.tmp rfl (.tmp rfl .nil)) ?_
    exact Gives.mki ⟨rfl, rfl⟩
  intro hbr
  have hbr := of_decide_eq_false hbr
  refine l_guard_no rfl rfl rfl ?_
  refine l_guard_no rfl rfl rfl ?_
  refine l_pick_f rfl rfl rfl ?_
  refine l_move rfl rfl ?_
  refine l_guard_no rfl rfl rfl ?_
  refine l_guard_no rfl rfl rfl ?_
  refine l_pick_f rfl rfl rfl ?_
  refine l_move rfl rfl ?_
  refine l_guard_no rfl rfl rfl ?_
  refine l_guard_no rfl rfl rfl ?_
  refine l_guard_no rfl rfl rfl ?_
  refine l_guard_no rfl rfl rfl ?_
  refine l_pick_f rfl rfl rfl ?_
  refine l_assign rfl rfl ?_
  refine l_nil ?_
  refine g_ret Try.func43 rfl (.tmp rfl .nil) ?_
  first | refine ⟨.bool _, rfl, ?_⟩ | refine ⟨_, rfl, ?_⟩
  refine l_not rfl rfl ?_
  refine l_nil ?_
  first | refine g_cond_t rfl ?_ | refine g_cond_t (congrArg (fun b => some (Value.bool b)) (decide_eq_true hbr)) ?_
  refine g_seq ?_
  refine g_region ?_
  refine l_assign rfl rfl ?_
  refine l_assign rfl rfl ?_
  refine l_nil ?_
  refine g_ret Try.func11 rfl (.tmp rfl (.tmp rfl .nil)) ?_
  exact Gives.mki ⟨rfl, rfl⟩
theorem put_in (w0 : World) (F : List Atom) (x : Int) (x0 : 0 ≤ x) (x1 : x ≤ 4294967295) (fr : Int) (fr0 : -9223372036854775808 ≤ fr) (fr1 : fr ≤ 9223372036854775807) (wd : Int) (wd0 : -9223372036854775808 ≤ wd) (wd1 : wd ≤ 9223372036854775807) (v : Int) (v0 : 0 ≤ v) (v1 : v ≤ 4294967295) (ht : There fr wd) (hv : v < 2 ^ wd.toNat) :
    CallK Try.prog 10 [.int .u32 x, .int .i64 fr, .int .i64 wd, .int .u32 v] w0 (F) (Gives w0 fun v_ F2 => v_ = .tuple #[.int .u32 (putV x fr wd v), .int .i64 0] ∧ F2 = F) := by
  obtain ⟨t0, t1, t2, t3⟩ := id ht
  have hpw := pow_bd (k := wd.toNat) (by omega)
  have hpf := pow_bd (k := fr.toNat) (by omega)
  have hpwf := pow_bd (k := (wd.toNat + fr.toNat)) (by omega)
  have hmb : 0 ≤ maskV fr wd ∧ maskV fr wd < 2 ^ (wd.toNat + fr.toNat) := by
    unfold maskV
    rw [Int.pow_add, Int.sub_mul, Int.one_mul]
    have h1 : (2 : Int) ^ fr.toNat ≤ 2 ^ wd.toNat * 2 ^ fr.toNat := by
      have := Int.mul_le_mul_of_nonneg_right hpw.1 (show (0 : Int) ≤ 2 ^ fr.toNat by omega)
      rwa [Int.one_mul] at this
    omega
  refine c_enter Try.func10 rfl rfl rfl ?_
  refine g_seq ?_
  refine g_region ?_
  refine l_assign rfl rfl ?_
  refine l_assign rfl rfl ?_
  refine l_nil ?_
  refine g_seq ?_
  refine g_seq ?_
  refine g_region ?_
  refine l_move rfl rfl ?_
  refine l_move rfl rfl ?_
  refine l_inl rfl Try.call43 rfl ?_
  refine c_enter Try.func43 rfl rfl rfl ?_
  refine g_seq ?_
  refine g_region ?_
  refine l_assign rfl rfl ?_
  refine l_nil ?_
  refine g_seq ?_
  refine g_region ?_
  refine l_move rfl rfl ?_
  refine l_geq rfl rfl rfl ?_
  refine l_move rfl rfl ?_
  refine l_split 7 rfl ?_ ?_
  · intro hbr
    have hbr := of_decide_eq_true hbr
    refine l_guard_yes rfl rfl ?_
    refine l_move rfl rfl ?_
    refine l_guard_yes rfl rfl ?_
    refine l_lss rfl rfl rfl ?_
    refine l_pick_t rfl rfl rfl ?_
    refine l_move rfl rfl ?_
    refine l_split 11 rfl ?_ ?_
    · intro hbr
      have hbr := of_decide_eq_true hbr
      refine l_guard_yes rfl rfl ?_
      refine l_move rfl rfl ?_
      refine l_guard_yes rfl rfl ?_
      refine l_geq rfl rfl rfl ?_
      refine l_pick_t rfl rfl rfl ?_
      refine l_move rfl rfl ?_
      refine l_split 15 rfl ?_ ?_
      · intro hbr
        have hbr := of_decide_eq_true hbr
        refine l_guard_yes rfl rfl ?_
        refine l_move rfl rfl ?_
        refine l_guard_yes rfl rfl ?_
        refine l_move rfl rfl ?_
        refine l_guard_yes rfl rfl ?_
        first | refine l_sub_ rfl rfl rfl (w_i64 (by omega) (by omega)) ?_ | refine l_subw rfl rfl rfl ?_
        refine l_guard_yes rfl rfl ?_
        refine l_leq rfl rfl rfl ?_
        refine l_pick_t rfl rfl rfl ?_
        refine l_assign rfl rfl ?_
        refine l_nil ?_
        refine g_ret Try.func43 rfl (.tmp rfl .nil) ?_
        first | refine ⟨.bool _, rfl, ?_⟩ | refine ⟨_, rfl, ?_⟩
        refine l_not rfl rfl ?_
        refine l_nil ?_
        refine g_cond rfl ?_ ?_
        · intro hbr
          have hbr := of_decide_eq_false (nb_t hbr)
          (exfalso; omega)
        intro hbr
        have hbr := of_decide_eq_true (nb_f hbr)
        refine g_skip ?_
        refine g_seq ?_
        refine g_seq ?_
        refine g_region ?_
        refine l_move rfl rfl ?_
        refine l_move rfl rfl ?_
        refine l_inl rfl Try.call44 rfl ?_
        refine c_enter Try.func44 rfl rfl rfl ?_
        refine g_seq ?_
        refine g_region ?_
        refine l_assign rfl rfl ?_
        refine l_nil ?_
        refine g_seq ?_
        refine g_region ?_
        refine l_move rfl rfl ?_
        first | refine l_conv rfl Try.underlying23 Try.underlying53 rfl (w_u64 (by omega) (by omega)) ?_ | refine l_convm (m := 18446744073709551616) rfl wr_u64 Try.underlying23 Try.underlying53 rfl ?_
        refine l_move rfl rfl ?_
        have hsv := @shV_zero v wd v0
        have hsb := @shV_bd v wd v0
        refine l_shr (r := shV v wd) rfl rfl rfl (by omega) (by rw [show min wd.toNat IntKind.u64.bits = wd.toNat from min64 (by omega)]; rfl) ?_
        refine l_eql rfl rfl rfl ?_
        refine l_assign rfl rfl ?_
        refine l_nil ?_
        refine g_ret Try.func44 rfl (.tmp rfl .nil) ?_
        first | refine ⟨.bool _, rfl, ?_⟩ | refine ⟨_, rfl, ?_⟩
        refine l_not rfl rfl ?_
        refine l_nil ?_
        refine g_cond rfl ?_ ?_
        · intro hbr
          have hbr := of_decide_eq_false (nb_t hbr)
          (exfalso; omega)
        intro hbr
        have hbr := of_decide_eq_true (nb_f hbr)
        refine g_skip ?_
        refine g_seq ?_
        refine g_region ?_
        refine l_move rfl rfl ?_
        refine l_shl (r := 2 ^ wd.toNat) rfl rfl rfl (by omega) (by rw [show min wd.toNat IntKind.u64.bits = wd.toNat from min64 (by omega), Int.one_mul]; exact w_u64 (by omega) (by omega)) ?_
        first | refine l_sub_ rfl rfl rfl (w_u64 (by omega) (by omega)) ?_ | refine l_subm (m := 18446744073709551616) rfl wr_u64 rfl rfl ?_
        refine l_move rfl rfl ?_
        refine l_shl (r := maskV fr wd) rfl rfl rfl (by omega) (by rw [show min fr.toNat IntKind.u64.bits = fr.toNat from min64 (by omega)]; exact w_u64 (x := maskV fr wd) (by omega) (by omega)) ?_
        first | refine l_conv rfl Try.underlying53 Try.underlying23 rfl (w_u32 (by omega) (by omega)) ?_ | refine l_convm (m := 4294967296) rfl wr_u32 Try.underlying53 Try.underlying23 rfl ?_
        refine l_assign rfl rfl ?_
        refine l_nil ?_
        refine g_seq ?_
        refine g_region ?_
        refine l_move rfl rfl ?_
        refine l_move rfl rfl ?_
        refine l_andNot (m := 32) rfl rfl rfl rfl rfl ?_
        refine l_move rfl rfl ?_
        refine l_move rfl rfl ?_
        have hvb : 0 ≤ v * 2 ^ fr.toNat ∧ v * 2 ^ fr.toNat < 4294967296 := by
          have hv2 : v < 2 ^ wd.toNat := by omega
          have h1 := Int.mul_lt_mul_of_pos_right hv2 (show (0 : Int) < 2 ^ fr.toNat by omega)
          rw [← Int.pow_add] at h1
          exact ⟨Int.mul_nonneg v0 (by omega), by omega⟩
        refine l_shl (r := v * 2 ^ fr.toNat) rfl rfl rfl (by omega) (by rw [show min fr.toNat IntKind.u32.bits = fr.toNat from min32 (by omega)]; exact w_u32 (by omega) (by omega)) ?_
        refine l_orr (m := 32) (r := putV x fr wd v) rfl rfl rfl rfl rfl rfl ?_
        refine l_assign rfl rfl ?_
        refine l_assign rfl rfl ?_
        refine l_nil ?_
        refine g_ret Try.func10 rfl (.tmp rfl (.tmp rfl .nil)) ?_
        exact Gives.mki ⟨rfl, rfl⟩
      · intro hbr
        have hbr := of_decide_eq_false hbr
        (exfalso; omega)
    · intro hbr
      have hbr := of_decide_eq_false hbr
      (exfalso; omega)
  · intro hbr
    have hbr := of_decide_eq_false hbr
    (exfalso; omega)
theorem put_out (w0 : World) (F : List Atom) (x : Int) (x0 : 0 ≤ x) (x1 : x ≤ 4294967295) (fr : Int) (fr0 : -9223372036854775808 ≤ fr) (fr1 : fr ≤ 9223372036854775807) (wd : Int) (wd0 : -9223372036854775808 ≤ wd) (wd1 : wd ≤ 9223372036854775807) (v : Int) (v0 : 0 ≤ v) (v1 : v ≤ 4294967295) (ht : ¬ There fr wd) :
    CallK Try.prog 10 [.int .u32 x, .int .i64 fr, .int .i64 wd, .int .u32 v] w0 (F) (Gives w0 fun v_ F2 => v_ = .tuple #[.int .u32 0, .int .i64 10] ∧ F2 = F) := by
  unfold There at ht
  refine c_enter Try.func10 rfl rfl rfl ?_
  refine g_seq ?_
  refine g_region ?_
  refine l_assign rfl rfl ?_
  refine l_assign rfl rfl ?_
  refine l_nil ?_
  refine g_seq ?_
  refine g_seq ?_
  refine g_region ?_
  refine l_move rfl rfl ?_
  refine l_move rfl rfl ?_
  refine l_inl rfl Try.call43 rfl ?_
  refine c_enter Try.func43 rfl rfl rfl ?_
  refine g_seq ?_
  refine g_region ?_
  refine l_assign rfl rfl ?_
  refine l_nil ?_
  refine g_seq ?_
  refine g_region ?_
  refine l_move rfl rfl ?_
  refine l_geq rfl rfl rfl ?_
  refine l_move rfl rfl ?_
  refine l_split 7 rfl ?_ ?_
  · intro hbr
    have hbr := of_decide_eq_true hbr
    refine l_guard_yes rfl rfl ?_
    refine l_move rfl rfl ?_
    refine l_guard_yes rfl rfl ?_
    refine l_lss rfl rfl rfl ?_
    refine l_pick_t rfl rfl rfl ?_
    refine l_move rfl rfl ?_
    refine l_split 11 rfl ?_ ?_
    · intro hbr
      have hbr := of_decide_eq_true hbr
      refine l_guard_yes rfl rfl ?_
      refine l_move rfl rfl ?_
      refine l_guard_yes rfl rfl ?_
      refine l_geq rfl rfl rfl ?_
      refine l_pick_t rfl rfl rfl ?_
      refine l_move rfl rfl ?_
      refine l_split 15 rfl ?_ ?_
      · intro hbr
        have hbr := of_decide_eq_true hbr
        refine l_guard_yes rfl rfl ?_
        refine l_move rfl rfl ?_
        refine l_guard_yes rfl rfl ?_
        refine l_move rfl rfl ?_
        refine l_guard_yes rfl rfl ?_
        first | refine l_sub_ rfl rfl rfl (w_i64 (by omega) (by omega)) ?_ | refine l_subw rfl rfl rfl ?_
        refine l_guard_yes rfl rfl ?_
        refine l_leq rfl rfl rfl ?_
        refine l_pick_t rfl rfl rfl ?_
        refine l_assign rfl rfl ?_
        refine l_nil ?_
        refine g_ret Try.func43 rfl (.tmp rfl .nil) ?_
        first | refine ⟨.bool _, rfl, ?_⟩ | refine ⟨_, rfl, ?_⟩
        refine l_not rfl rfl ?_
        refine l_nil ?_
        refine g_cond rfl ?_ ?_
        · intro hbr
          have hbr := of_decide_eq_false (nb_t hbr)
          refine g_seq ?_
          refine g_region ?_
          refine l_assign rfl rfl ?_
          refine l_assign rfl rfl ?_
          refine l_nil ?_
          refine g_ret Try.func10 rfl (.tmp rfl (.tmp rfl .nil)) ?_
          exact Gives.mki ⟨rfl, rfl⟩
        · intro hbr
          have hbr := of_decide_eq_true (nb_f hbr)
          (exfalso; omega)
      intro hbr
      have hbr := of_decide_eq_false hbr
      refine l_guard_no rfl rfl rfl ?_
      refine l_guard_no rfl rfl rfl ?_
      refine l_guard_no rfl rfl rfl ?_
      refine l_guard_no rfl rfl rfl ?_
      refine l_pick_f rfl rfl rfl ?_
      refine l_assign rfl rfl ?_
      refine l_nil ?_
      refine g_ret Try.func43 rfl (.tmp rfl .nil) ?_
      first | refine ⟨.bool _, rfl, ?_⟩ | refine ⟨_, rfl, ?_⟩
      refine l_not rfl rfl ?_
      refine l_nil ?_
      first | refine g_cond_t rfl ?_ | refine g_cond_t (congrArg (fun b => some (Value.bool b)) (decide_eq_true hbr)) ?_
      refine g_seq ?_
      refine g_region ?_
      refine l_assign rfl rfl ?_
      refine l_assign rfl rfl ?_
      refine l_nil ?_
      refine g_ret Try.func10 rfl (.tmp rfl (.tmp rfl .nil)) ?_
      exact Gives.mki ⟨rfl, rfl⟩
    intro hbr
    have hbr := of_decide_eq_false hbr
    refine l_guard_no rfl rfl rfl ?_
    refine l_guard_no rfl rfl rfl ?_
    refine l_pick_f rfl rfl rfl ?_
    refine l_move rfl rfl ?_
    refine l_guard_no rfl rfl rfl ?_
    refine l_guard_no rfl rfl rfl ?_
    refine l_guard_no rfl rfl rfl ?_
    refine l_guard_no rfl rfl rfl ?_
    refine l_pick_f rfl rfl rfl ?_
    refine l_assign rfl rfl ?_
    refine l_nil ?_
    refine g_ret Try.func43 rfl (.tmp rfl .nil) ?_
    first | refine ⟨.bool _, rfl, ?_⟩ | refine ⟨_, rfl, ?_⟩
    refine l_not rfl rfl ?_
    refine l_nil ?_
    first | refine g_cond_t rfl ?_ | refine g_cond_t (congrArg (fun b => some (Value.bool b)) (decide_eq_true hbr)) ?_
    refine g_seq ?_
    refine g_region ?_
    refine l_assign rfl rfl ?_
    refine l_assign rfl rfl ?_
    refine l_nil ?_
    refine g_ret Try.func10 rfl (.tmp rfl (.tmp rfl .nil)) ?_
    exact Gives.mki ⟨rfl, rfl⟩
  intro hbr
  have hbr := of_decide_eq_false hbr
  refine l_guard_no rfl rfl rfl ?_
  refine l_guard_no rfl rfl rfl ?_
  refine l_pick_f rfl rfl rfl ?_
  refine l_move rfl rfl ?_
  refine l_guard_no rfl rfl rfl ?_
  refine l_guard_no rfl rfl rfl ?_
  refine l_pick_f rfl rfl rfl ?_
  refine l_move rfl rfl ?_
  refine l_guard_no rfl rfl rfl ?_
  refine l_guard_no rfl rfl rfl ?_
  refine l_guard_no rfl rfl rfl ?_
  refine l_guard_no rfl rfl rfl ?_
  refine l_pick_f rfl rfl rfl ?_
  refine l_assign rfl rfl ?_
  refine l_nil ?_
  refine g_ret Try.func43 rfl (.tmp rfl .nil) ?_
  first | refine ⟨.bool _, rfl, ?_⟩ | refine ⟨_, rfl, ?_⟩
  refine l_not rfl rfl ?_
  refine l_nil ?_
  first | refine g_cond_t rfl ?_ | refine g_cond_t (congrArg (fun b => some (Value.bool b)) (decide_eq_true hbr)) ?_
  refine g_seq ?_
  refine g_region ?_
  refine l_assign rfl rfl ?_
  refine l_assign rfl rfl ?_
  refine l_nil ?_
  refine g_ret Try.func10 rfl (.tmp rfl (.tmp rfl .nil)) ?_
  exact Gives.mki ⟨rfl, rfl⟩
theorem put_big (w0 : World) (F : List Atom) (x : Int) (x0 : 0 ≤ x) (x1 : x ≤ 4294967295) (fr : Int) (fr0 : -9223372036854775808 ≤ fr) (fr1 : fr ≤ 9223372036854775807) (wd : Int) (wd0 : -9223372036854775808 ≤ wd) (wd1 : wd ≤ 9223372036854775807) (v : Int) (v0 : 0 ≤ v) (v1 : v ≤ 4294967295) (ht : There fr wd) (hv : 2 ^ wd.toNat ≤ v) :
    CallK Try.prog 10 [.int .u32 x, .int .i64 fr, .int .i64 wd, .int .u32 v] w0 (F) (Gives w0 fun v_ F2 => v_ = .tuple #[.int .u32 0, .int .i64 11] ∧ F2 = F) := by
  obtain ⟨t0, t1, t2, t3⟩ := id ht
  have hpw := pow_bd (k := wd.toNat) (by omega)
  have hpf := pow_bd (k := fr.toNat) (by omega)
  have hpwf := pow_bd (k := (wd.toNat + fr.toNat)) (by omega)
  have hmb : 0 ≤ maskV fr wd ∧ maskV fr wd < 2 ^ (wd.toNat + fr.toNat) := by
    unfold maskV
    rw [Int.pow_add, Int.sub_mul, Int.one_mul]
    have h1 : (2 : Int) ^ fr.toNat ≤ 2 ^ wd.toNat * 2 ^ fr.toNat := by
      have := Int.mul_le_mul_of_nonneg_right hpw.1 (show (0 : Int) ≤ 2 ^ fr.toNat by omega)
      rwa [Int.one_mul] at this
    omega
  refine c_enter Try.func10 rfl rfl rfl ?_
  refine g_seq ?_
  refine g_region ?_
  refine l_assign rfl rfl ?_
  refine l_assign rfl rfl ?_
  refine l_nil ?_
  refine g_seq ?_
  refine g_seq ?_
  refine g_region ?_
  refine l_move rfl rfl ?_
  refine l_move rfl rfl ?_
  refine l_inl rfl Try.call43 rfl ?_
  refine c_enter Try.func43 rfl rfl rfl ?_
  refine g_seq ?_
  refine g_region ?_
  refine l_assign rfl rfl ?_
  refine l_nil ?_
  refine g_seq ?_
  refine g_region ?_
  refine l_move rfl rfl ?_
  refine l_geq rfl rfl rfl ?_
  refine l_move rfl rfl ?_
  refine l_split 7 rfl ?_ ?_
  · intro hbr
    have hbr := of_decide_eq_true hbr
    refine l_guard_yes rfl rfl ?_
    refine l_move rfl rfl ?_
    refine l_guard_yes rfl rfl ?_
    refine l_lss rfl rfl rfl ?_
    refine l_pick_t rfl rfl rfl ?_
    refine l_move rfl rfl ?_
    refine l_split 11 rfl ?_ ?_
    · intro hbr
      have hbr := of_decide_eq_true hbr
      refine l_guard_yes rfl rfl ?_
      refine l_move rfl rfl ?_
      refine l_guard_yes rfl rfl ?_
      refine l_geq rfl rfl rfl ?_
      refine l_pick_t rfl rfl rfl ?_
      refine l_move rfl rfl ?_
      refine l_split 15 rfl ?_ ?_
      · intro hbr
        have hbr := of_decide_eq_true hbr
        refine l_guard_yes rfl rfl ?_
        refine l_move rfl rfl ?_
        refine l_guard_yes rfl rfl ?_
        refine l_move rfl rfl ?_
        refine l_guard_yes rfl rfl ?_
        first | refine l_sub_ rfl rfl rfl (w_i64 (by omega) (by omega)) ?_ | refine l_subw rfl rfl rfl ?_
        refine l_guard_yes rfl rfl ?_
        refine l_leq rfl rfl rfl ?_
        refine l_pick_t rfl rfl rfl ?_
        refine l_assign rfl rfl ?_
        refine l_nil ?_
        refine g_ret Try.func43 rfl (.tmp rfl .nil) ?_
        first | refine ⟨.bool _, rfl, ?_⟩ | refine ⟨_, rfl, ?_⟩
        refine l_not rfl rfl ?_
        refine l_nil ?_
        refine g_cond rfl ?_ ?_
        · intro hbr
          have hbr := of_decide_eq_false (nb_t hbr)
          (exfalso; omega)
        intro hbr
        have hbr := of_decide_eq_true (nb_f hbr)
        refine g_skip ?_
        refine g_seq ?_
        refine g_seq ?_
        refine g_region ?_
        refine l_move rfl rfl ?_
        refine l_move rfl rfl ?_
        refine l_inl rfl Try.call44 rfl ?_
        refine c_enter Try.func44 rfl rfl rfl ?_
        refine g_seq ?_
        refine g_region ?_
        refine l_assign rfl rfl ?_
        refine l_nil ?_
        refine g_seq ?_
        refine g_region ?_
        refine l_move rfl rfl ?_
        first | refine l_conv rfl Try.underlying23 Try.underlying53 rfl (w_u64 (by omega) (by omega)) ?_ | refine l_convm (m := 18446744073709551616) rfl wr_u64 Try.underlying23 Try.underlying53 rfl ?_
        refine l_move rfl rfl ?_
        have hsv := @shV_zero v wd v0
        have hsb := @shV_bd v wd v0
        refine l_shr (r := shV v wd) rfl rfl rfl (by omega) (by rw [show min wd.toNat IntKind.u64.bits = wd.toNat from min64 (by omega)]; rfl) ?_
        refine l_eql rfl rfl rfl ?_
        refine l_assign rfl rfl ?_
        refine l_nil ?_
        refine g_ret Try.func44 rfl (.tmp rfl .nil) ?_
        first | refine ⟨.bool _, rfl, ?_⟩ | refine ⟨_, rfl, ?_⟩
        refine l_not rfl rfl ?_
        refine l_nil ?_
        refine g_cond rfl ?_ ?_
        · intro hbr
          have hbr := of_decide_eq_false (nb_t hbr)
          refine g_seq ?_
          refine g_region ?_
          refine l_assign rfl rfl ?_
          refine l_assign rfl rfl ?_
          refine l_nil ?_
          refine g_ret Try.func10 rfl (.tmp rfl (.tmp rfl .nil)) ?_
          exact Gives.mki ⟨rfl, rfl⟩
        · intro hbr
          have hbr := of_decide_eq_true (nb_f hbr)
          (exfalso; omega)
      · intro hbr
        have hbr := of_decide_eq_false hbr
        (exfalso; omega)
    · intro hbr
      have hbr := of_decide_eq_false hbr
      (exfalso; omega)
  · intro hbr
    have hbr := of_decide_eq_false hbr
    (exfalso; omega)
theorem half_pow {wd : Int} (h : 1 ≤ wd) : (2 : Int) ^ wd.toNat = 2 * 2 ^ (wd - 1).toNat := by
  obtain ⟨k, hk⟩ : ∃ k, wd.toNat = k + 1 := ⟨wd.toNat - 1, by omega⟩
  rw [show (wd - 1).toNat = k by omega, hk, Int.pow_succ, Int.mul_comm]
def signedV (v wd : Int) : Int := if v < 2 ^ (wd - 1).toNat then v else v - 2 ^ wd.toNat
theorem signed_in (w0 : World) (F : List Atom) (v : Int) (v0 : 0 ≤ v) (v1 : v ≤ 4294967295) (wd : Int) (wd0 : -9223372036854775808 ≤ wd) (wd1 : wd ≤ 9223372036854775807) (ht : 1 ≤ wd ∧ wd ≤ 32) (hv : v < 2 ^ wd.toNat) :
    CallK Try.prog 13 [.int .u32 v, .int .i64 wd] w0 (F) (Gives w0 fun v_ F2 => v_ = .tuple #[.int .i64 (signedV v wd), .int .i64 0] ∧ F2 = F) := by
  have hpw := pow_bd (k := wd.toNat) (by omega)
  have hph := pow_bd (k := (wd - 1).toNat) (by omega)
  have hhp := half_pow (wd := wd) (by omega)
  refine c_enter Try.func13 rfl rfl rfl ?_
  refine g_seq ?_
  refine g_region ?_
  refine l_assign rfl rfl ?_
  refine l_assign rfl rfl ?_
  refine l_nil ?_
  refine g_seq ?_
  refine g_seq ?_
  refine g_region ?_
  refine l_move rfl rfl ?_
  refine l_lss rfl rfl rfl ?_
  refine l_move rfl rfl ?_
  refine l_split 9 rfl ?_ ?_
  · intro hbr
    have hbr := of_decide_eq_true hbr
    (exfalso; omega)
  intro hbr
  have hbr := of_decide_eq_false hbr
  refine l_guard_yes rfl rfl ?_
  refine l_move rfl rfl ?_
  refine l_guard_yes rfl rfl ?_
  refine l_gtr rfl rfl rfl ?_
  refine l_pick_f rfl rfl rfl ?_
  refine l_nil ?_
  refine g_cond rfl ?_ ?_
  · intro hbr
    have hbr := of_decide_eq_true hbr
    (exfalso; omega)
  intro hbr
  have hbr := of_decide_eq_false hbr
  refine g_skip ?_
  refine g_seq ?_
  refine g_seq ?_
  refine g_region ?_
  refine l_move rfl rfl ?_
  refine l_move rfl rfl ?_
  refine l_inl rfl Try.call44 rfl ?_
  refine c_enter Try.func44 rfl rfl rfl ?_
  refine g_seq ?_
  refine g_region ?_
  refine l_assign rfl rfl ?_
  refine l_nil ?_
  refine g_seq ?_
  refine g_region ?_
  refine l_move rfl rfl ?_
  first | refine l_conv rfl Try.underlying23 Try.underlying53 rfl (w_u64 (by omega) (by omega)) ?_ | refine l_convm (m := 18446744073709551616) rfl wr_u64 Try.underlying23 Try.underlying53 rfl ?_
  refine l_move rfl rfl ?_
  have hsv := @shV_zero v wd v0
  have hsb := @shV_bd v wd v0
  refine l_shr (r := shV v wd) rfl rfl rfl (by omega) (by rw [show min wd.toNat IntKind.u64.bits = wd.toNat from min64 (by omega)]; rfl) ?_
  refine l_eql rfl rfl rfl ?_
  refine l_assign rfl rfl ?_
  refine l_nil ?_
  refine g_ret Try.func44 rfl (.tmp rfl .nil) ?_
  first | refine ⟨.bool _, rfl, ?_⟩ | refine ⟨_, rfl, ?_⟩
  refine l_not rfl rfl ?_
  refine l_nil ?_
  refine g_cond rfl ?_ ?_
  · intro hbr
    have hbr := of_decide_eq_false (nb_t hbr)
    (exfalso; omega)
  intro hbr
  have hbr := of_decide_eq_true (nb_f hbr)
  refine g_skip ?_
  refine g_seq ?_
  refine g_region ?_
  refine l_move rfl rfl ?_
  first | refine l_conv rfl Try.underlying23 Try.underlying3 rfl (w_i64 (by omega) (by omega)) ?_ | refine l_convw rfl Try.underlying23 Try.underlying3 rfl ?_
  refine l_assign rfl rfl ?_
  refine l_nil ?_
  refine g_seq ?_
  refine g_seq ?_
  refine g_region ?_
  refine l_move rfl rfl ?_
  refine l_move rfl rfl ?_
  first | refine l_sub_ rfl rfl rfl (w_i64 (by omega) (by omega)) ?_ | refine l_subw rfl rfl rfl ?_
  refine l_shl (r := 2 ^ (wd - 1).toNat) rfl rfl rfl (by omega) (by rw [show min (wd - 1).toNat IntKind.i64.bits = (wd - 1).toNat from min64 (by omega), Int.one_mul]; exact w_i64 (by omega) (by omega)) ?_
  refine l_geq rfl rfl rfl ?_
  refine l_nil ?_
  refine g_cond rfl ?_ ?_
  · intro hbr
    have hbr := of_decide_eq_true hbr
    refine g_region ?_
    refine l_move rfl rfl ?_
    refine l_move rfl rfl ?_
    refine l_shl (r := 2 ^ wd.toNat) rfl rfl rfl (by omega) (by rw [show min wd.toNat IntKind.i64.bits = wd.toNat from min64 (by omega), Int.one_mul]; exact w_i64 (by omega) (by omega)) ?_
    first | refine l_sub_ rfl rfl rfl (w_i64 (by omega) (by omega)) ?_ | refine l_subw rfl rfl rfl ?_
    refine l_assign rfl rfl ?_
    refine l_nil ?_
    refine g_seq ?_
    refine g_region ?_
    refine l_move rfl rfl ?_
    refine l_assign rfl rfl ?_
    refine l_assign rfl rfl ?_
    refine l_nil ?_
    refine g_ret Try.func13 rfl (.tmp rfl (.tmp rfl .nil)) ?_
    (first | exact Gives.mki ⟨by rw [show signedV v wd = v by unfold signedV; rw [if_pos (by omega)]]; rfl, rfl⟩ | exact Gives.mki ⟨by rw [show signedV v wd = v - 2 ^ wd.toNat by unfold signedV; rw [if_neg (by omega)]]; rfl, rfl⟩)
  intro hbr
  have hbr := of_decide_eq_false hbr
  refine g_skip ?_
  refine g_seq ?_
  refine g_region ?_
  refine l_move rfl rfl ?_
  refine l_assign rfl rfl ?_
  refine l_assign rfl rfl ?_
  refine l_nil ?_
  refine g_ret Try.func13 rfl (.tmp rfl (.tmp rfl .nil)) ?_
  (first | exact Gives.mki ⟨by rw [show signedV v wd = v by unfold signedV; rw [if_pos (by omega)]]; rfl, rfl⟩ | exact Gives.mki ⟨by rw [show signedV v wd = v - 2 ^ wd.toNat by unfold signedV; rw [if_neg (by omega)]]; rfl, rfl⟩)
theorem signed_out (w0 : World) (F : List Atom) (v : Int) (v0 : 0 ≤ v) (v1 : v ≤ 4294967295) (wd : Int) (wd0 : -9223372036854775808 ≤ wd) (wd1 : wd ≤ 9223372036854775807) (ht : ¬ (1 ≤ wd ∧ wd ≤ 32)) :
    CallK Try.prog 13 [.int .u32 v, .int .i64 wd] w0 (F) (Gives w0 fun v_ F2 => v_ = .tuple #[.int .i64 0, .int .i64 10] ∧ F2 = F) := by
  refine c_enter Try.func13 rfl rfl rfl ?_
  refine g_seq ?_
  refine g_region ?_
  refine l_assign rfl rfl ?_
  refine l_assign rfl rfl ?_
  refine l_nil ?_
  refine g_seq ?_
  refine g_seq ?_
  refine g_region ?_
  refine l_move rfl rfl ?_
  refine l_lss rfl rfl rfl ?_
  refine l_move rfl rfl ?_
  refine l_split 9 rfl ?_ ?_
  · intro hbr
    have hbr := of_decide_eq_true hbr
    refine l_guard_no rfl rfl rfl ?_
    refine l_guard_no rfl rfl rfl ?_
    refine l_pick_t rfl rfl rfl ?_
    refine l_nil ?_
    first | refine g_cond_t rfl ?_ | refine g_cond_t (congrArg (fun b => some (Value.bool b)) (decide_eq_true hbr)) ?_
    refine g_seq ?_
    refine g_region ?_
    refine l_assign rfl rfl ?_
    refine l_assign rfl rfl ?_
    refine l_nil ?_
    refine g_ret Try.func13 rfl (.tmp rfl (.tmp rfl .nil)) ?_
    exact Gives.mki ⟨rfl, rfl⟩
  intro hbr
  have hbr := of_decide_eq_false hbr
  refine l_guard_yes rfl rfl ?_
  refine l_move rfl rfl ?_
  refine l_guard_yes rfl rfl ?_
  refine l_gtr rfl rfl rfl ?_
  refine l_pick_f rfl rfl rfl ?_
  refine l_nil ?_
  refine g_cond rfl ?_ ?_
  · intro hbr
    have hbr := of_decide_eq_true hbr
    refine g_seq ?_
    refine g_region ?_
    refine l_assign rfl rfl ?_
    refine l_assign rfl rfl ?_
    refine l_nil ?_
    refine g_ret Try.func13 rfl (.tmp rfl (.tmp rfl .nil)) ?_
    exact Gives.mki ⟨rfl, rfl⟩
  · intro hbr
    have hbr := of_decide_eq_false hbr
    (exfalso; omega)
theorem signed_big (w0 : World) (F : List Atom) (v : Int) (v0 : 0 ≤ v) (v1 : v ≤ 4294967295) (wd : Int) (wd0 : -9223372036854775808 ≤ wd) (wd1 : wd ≤ 9223372036854775807) (ht : 1 ≤ wd ∧ wd ≤ 32) (hv : 2 ^ wd.toNat ≤ v) :
    CallK Try.prog 13 [.int .u32 v, .int .i64 wd] w0 (F) (Gives w0 fun v_ F2 => v_ = .tuple #[.int .i64 0, .int .i64 11] ∧ F2 = F) := by
  have hpw := pow_bd (k := wd.toNat) (by omega)
  have hph := pow_bd (k := (wd - 1).toNat) (by omega)
  have hhp := half_pow (wd := wd) (by omega)
  refine c_enter Try.func13 rfl rfl rfl ?_
  refine g_seq ?_
  refine g_region ?_
  refine l_assign rfl rfl ?_
  refine l_assign rfl rfl ?_
  refine l_nil ?_
  refine g_seq ?_
  refine g_seq ?_
  refine g_region ?_
  refine l_move rfl rfl ?_
  refine l_lss rfl rfl rfl ?_
  refine l_move rfl rfl ?_
  refine l_split 9 rfl ?_ ?_
  · intro hbr
    have hbr := of_decide_eq_true hbr
    (exfalso; omega)
  intro hbr
  have hbr := of_decide_eq_false hbr
  refine l_guard_yes rfl rfl ?_
  refine l_move rfl rfl ?_
  refine l_guard_yes rfl rfl ?_
  refine l_gtr rfl rfl rfl ?_
  refine l_pick_f rfl rfl rfl ?_
  refine l_nil ?_
  refine g_cond rfl ?_ ?_
  · intro hbr
    have hbr := of_decide_eq_true hbr
    (exfalso; omega)
  intro hbr
  have hbr := of_decide_eq_false hbr
  refine g_skip ?_
  refine g_seq ?_
  refine g_seq ?_
  refine g_region ?_
  refine l_move rfl rfl ?_
  refine l_move rfl rfl ?_
  refine l_inl rfl Try.call44 rfl ?_
  refine c_enter Try.func44 rfl rfl rfl ?_
  refine g_seq ?_
  refine g_region ?_
  refine l_assign rfl rfl ?_
  refine l_nil ?_
  refine g_seq ?_
  refine g_region ?_
  refine l_move rfl rfl ?_
  first | refine l_conv rfl Try.underlying23 Try.underlying53 rfl (w_u64 (by omega) (by omega)) ?_ | refine l_convm (m := 18446744073709551616) rfl wr_u64 Try.underlying23 Try.underlying53 rfl ?_
  refine l_move rfl rfl ?_
  have hsv := @shV_zero v wd v0
  have hsb := @shV_bd v wd v0
  refine l_shr (r := shV v wd) rfl rfl rfl (by omega) (by rw [show min wd.toNat IntKind.u64.bits = wd.toNat from min64 (by omega)]; rfl) ?_
  refine l_eql rfl rfl rfl ?_
  refine l_assign rfl rfl ?_
  refine l_nil ?_
  refine g_ret Try.func44 rfl (.tmp rfl .nil) ?_
  first | refine ⟨.bool _, rfl, ?_⟩ | refine ⟨_, rfl, ?_⟩
  refine l_not rfl rfl ?_
  refine l_nil ?_
  refine g_cond rfl ?_ ?_
  · intro hbr
    have hbr := of_decide_eq_false (nb_t hbr)
    refine g_seq ?_
    refine g_region ?_
    refine l_assign rfl rfl ?_
    refine l_assign rfl rfl ?_
    refine l_nil ?_
    refine g_ret Try.func13 rfl (.tmp rfl (.tmp rfl .nil)) ?_
    exact Gives.mki ⟨rfl, rfl⟩
  · intro hbr
    have hbr := of_decide_eq_true (nb_f hbr)
    (exfalso; omega)
theorem and_masks {a : Int} {k : Nat} (hk : k ≤ 32) : IntKind.i64.wrap (bAnd 64 a (2 ^ k - 1)) = a % 2 ^ k := by
  have h1 : (2 : Int) ^ k - 1 = ((2 ^ k - 1 : Nat) : Int) := by
    have := Nat.one_le_two_pow (n := k)
    rw [pow_nat]; omega
  have hm : bAnd 64 a (2 ^ k - 1) = a % 2 ^ k := by
    rw [h1]
    have h2 : bAnd 64 a ((2 ^ k - 1 : Nat) : Int) = bAnd 64 ((a % 2 ^ 64).toNat : Int) ((2 ^ k - 1 : Nat) : Int) := by
      unfold bAnd
      congr 3
      apply BitVec.eq_of_toNat_eq
      simp [BitVec.toNat_ofInt]
      omega
    rw [h2, and_mask (by omega)]
    have h3 : (0 : Int) ≤ a % 2 ^ 64 := Int.emod_nonneg _ (by decide)
    have h4 : (((a % 2 ^ 64).toNat % 2 ^ k : Nat) : Int) = (a % 2 ^ 64) % 2 ^ k := by
      rw [Int.natCast_emod, Int.toNat_of_nonneg h3]
      simp
    rw [h4]
    refine Int.emod_emod_of_dvd _ ?_
    exact ⟨2 ^ (64 - k), by rw [← Int.pow_add, show k + (64 - k) = 64 by omega]⟩
  rw [hm]
  have h5 := pow_bd hk
  have h6 := Int.emod_nonneg a (show (2 : Int) ^ k ≠ 0 by omega)
  have h7 := Int.emod_lt_of_pos a (show (0 : Int) < 2 ^ k by omega)
  exact w_i64 (by omega) (by omega)
def unsignedV (n wd : Int) : Int := n % 2 ^ wd.toNat
theorem unsigned_bd {n wd : Int} : 0 ≤ unsignedV n wd ∧ unsignedV n wd < 2 ^ wd.toNat := by
  unfold unsignedV
  have h1 : (0 : Int) < 2 ^ wd.toNat := Int.pow_pos (by decide)
  exact ⟨Int.emod_nonneg _ (by omega), Int.emod_lt_of_pos _ h1⟩
/-- In two's complement. -/
theorem unsigned_val {n wd : Int} (h1 : 1 ≤ wd) (ha : -(2 ^ (wd - 1).toNat) ≤ n) (hb : n < 2 ^ (wd - 1).toNat) : unsignedV n wd = if n < 0 then n + 2 ^ wd.toNat else n := by
  have hh := half_pow h1
  have hp : (0 : Int) < 2 ^ (wd - 1).toNat := Int.pow_pos (by decide)
  unfold unsignedV
  split
  · rw [← Int.add_emod_right, Int.emod_eq_of_lt (by omega) (by omega)]
  · rw [Int.emod_eq_of_lt (by omega) (by omega)]
theorem signed_unsigned {n wd : Int} (h1 : 1 ≤ wd) (ha : -(2 ^ (wd - 1).toNat) ≤ n) (hb : n < 2 ^ (wd - 1).toNat) : signedV (unsignedV n wd) wd = n := by
  have hh := half_pow h1
  have hu := unsigned_val h1 ha hb
  unfold signedV
  split at hu
  · rw [hu, if_neg (by omega)]; omega
  · rw [hu, if_pos hb]
theorem unsigned_inj {n m wd : Int} (h1 : 1 ≤ wd) (ha : -(2 ^ (wd - 1).toNat) ≤ n) (hb : n < 2 ^ (wd - 1).toNat) (hc : -(2 ^ (wd - 1).toNat) ≤ m) (hd : m < 2 ^ (wd - 1).toNat) : unsignedV m wd = unsignedV n wd ↔ m = n := by
  constructor
  · intro h
    have e1 := signed_unsigned h1 ha hb
    have e2 := signed_unsigned h1 hc hd
    rw [← e1, ← e2, h]
  · intro h; rw [h]
theorem unsigned_in (w0 : World) (F : List Atom) (n : Int) (n0 : -9223372036854775808 ≤ n) (n1 : n ≤ 9223372036854775807) (wd : Int) (wd0 : -9223372036854775808 ≤ wd) (wd1 : wd ≤ 9223372036854775807) (ht : 1 ≤ wd ∧ wd ≤ 32) (ha : -(2 ^ (wd - 1).toNat) ≤ n) (hb : n < 2 ^ (wd - 1).toNat) :
    CallK Try.prog 12 [.int .i64 n, .int .i64 wd] w0 (F) (Gives w0 fun v_ F2 => v_ = .tuple #[.int .u32 (unsignedV n wd), .int .i64 0] ∧ F2 = F) := by
  have hpw := pow_bd (k := wd.toNat) (by omega)
  have hph := pow_bd (k := (wd - 1).toNat) (by omega)
  have hhp := half_pow (wd := wd) (by omega)
  refine c_enter Try.func12 rfl rfl rfl ?_
  refine g_seq ?_
  refine g_region ?_
  refine l_assign rfl rfl ?_
  refine l_assign rfl rfl ?_
  refine l_nil ?_
  refine g_seq ?_
  refine g_seq ?_
  refine g_region ?_
  refine l_move rfl rfl ?_
  refine l_lss rfl rfl rfl ?_
  refine l_move rfl rfl ?_
  refine l_split 9 rfl ?_ ?_
  · intro hbr
    have hbr := of_decide_eq_true hbr
    (exfalso; omega)
  intro hbr
  have hbr := of_decide_eq_false hbr
  refine l_guard_yes rfl rfl ?_
  refine l_move rfl rfl ?_
  refine l_guard_yes rfl rfl ?_
  refine l_gtr rfl rfl rfl ?_
  refine l_pick_f rfl rfl rfl ?_
  refine l_nil ?_
  refine g_cond rfl ?_ ?_
  · intro hbr
    have hbr := of_decide_eq_true hbr
    (exfalso; omega)
  intro hbr
  have hbr := of_decide_eq_false hbr
  refine g_skip ?_
  refine g_seq ?_
  refine g_region ?_
  refine l_move rfl rfl ?_
  first | refine l_sub_ rfl rfl rfl (w_i64 (by omega) (by omega)) ?_ | refine l_subw rfl rfl rfl ?_
  refine l_shl (r := 2 ^ (wd - 1).toNat) rfl rfl rfl (by omega) (by rw [show min (wd - 1).toNat IntKind.i64.bits = (wd - 1).toNat from min64 (by omega), Int.one_mul]; exact w_i64 (by omega) (by omega)) ?_
  refine l_assign rfl rfl ?_
  refine l_nil ?_
  refine g_seq ?_
  refine g_seq ?_
  refine g_region ?_
  refine l_move rfl rfl ?_
  refine l_move rfl rfl ?_
  refine l_neg rfl rfl (w_i64 (by omega) (by omega)) ?_
  refine l_lss rfl rfl rfl ?_
  refine l_move rfl rfl ?_
  refine l_split 20 rfl ?_ ?_
  · intro hbr
    have hbr := of_decide_eq_true hbr
    (exfalso; omega)
  intro hbr
  have hbr := of_decide_eq_false hbr
  refine l_guard_yes rfl rfl ?_
  refine l_move rfl rfl ?_
  refine l_guard_yes rfl rfl ?_
  refine l_move rfl rfl ?_
  refine l_guard_yes rfl rfl ?_
  refine l_geq rfl rfl rfl ?_
  refine l_pick_f rfl rfl rfl ?_
  refine l_nil ?_
  refine g_cond rfl ?_ ?_
  · intro hbr
    have hbr := of_decide_eq_true hbr
    (exfalso; omega)
  intro hbr
  have hbr := of_decide_eq_false hbr
  refine g_skip ?_
  refine g_seq ?_
  refine g_region ?_
  refine l_move rfl rfl ?_
  refine l_move rfl rfl ?_
  refine l_shl (r := 2 ^ wd.toNat) rfl rfl rfl (by omega) (by rw [show min wd.toNat IntKind.i64.bits = wd.toNat from min64 (by omega), Int.one_mul]; exact w_i64 (by omega) (by omega)) ?_
  first | refine l_sub_ rfl rfl rfl (w_i64 (by omega) (by omega)) ?_ | refine l_subw rfl rfl rfl ?_
  have hub := @unsigned_bd n wd
  refine l_ands (r := unsignedV n wd) rfl rfl rfl (and_masks (by omega)) ?_
  first | refine l_conv rfl Try.underlying3 Try.underlying23 rfl (w_u32 (by omega) (by omega)) ?_ | refine l_convm (m := 4294967296) rfl wr_u32 Try.underlying3 Try.underlying23 rfl ?_
  refine l_assign rfl rfl ?_
  refine l_assign rfl rfl ?_
  refine l_nil ?_
  refine g_ret Try.func12 rfl (.tmp rfl (.tmp rfl .nil)) ?_
  exact Gives.mki ⟨rfl, rfl⟩
theorem unsigned_out (w0 : World) (F : List Atom) (n : Int) (n0 : -9223372036854775808 ≤ n) (n1 : n ≤ 9223372036854775807) (wd : Int) (wd0 : -9223372036854775808 ≤ wd) (wd1 : wd ≤ 9223372036854775807) (ht : ¬ (1 ≤ wd ∧ wd ≤ 32)) :
    CallK Try.prog 12 [.int .i64 n, .int .i64 wd] w0 (F) (Gives w0 fun v_ F2 => v_ = .tuple #[.int .u32 0, .int .i64 10] ∧ F2 = F) := by
  refine c_enter Try.func12 rfl rfl rfl ?_
  refine g_seq ?_
  refine g_region ?_
  refine l_assign rfl rfl ?_
  refine l_assign rfl rfl ?_
  refine l_nil ?_
  refine g_seq ?_
  refine g_seq ?_
  refine g_region ?_
  refine l_move rfl rfl ?_
  refine l_lss rfl rfl rfl ?_
  refine l_move rfl rfl ?_
  refine l_split 9 rfl ?_ ?_
  · intro hbr
    have hbr := of_decide_eq_true hbr
    refine l_guard_no rfl rfl rfl ?_
    refine l_guard_no rfl rfl rfl ?_
    refine l_pick_t rfl rfl rfl ?_
    refine l_nil ?_
    first | refine g_cond_t rfl ?_ | refine g_cond_t (congrArg (fun b => some (Value.bool b)) (decide_eq_true hbr)) ?_
    refine g_seq ?_
    refine g_region ?_
    refine l_assign rfl rfl ?_
    refine l_assign rfl rfl ?_
    refine l_nil ?_
    refine g_ret Try.func12 rfl (.tmp rfl (.tmp rfl .nil)) ?_
    exact Gives.mki ⟨rfl, rfl⟩
  intro hbr
  have hbr := of_decide_eq_false hbr
  refine l_guard_yes rfl rfl ?_
  refine l_move rfl rfl ?_
  refine l_guard_yes rfl rfl ?_
  refine l_gtr rfl rfl rfl ?_
  refine l_pick_f rfl rfl rfl ?_
  refine l_nil ?_
  refine g_cond rfl ?_ ?_
  · intro hbr
    have hbr := of_decide_eq_true hbr
    refine g_seq ?_
    refine g_region ?_
    refine l_assign rfl rfl ?_
    refine l_assign rfl rfl ?_
    refine l_nil ?_
    refine g_ret Try.func12 rfl (.tmp rfl (.tmp rfl .nil)) ?_
    exact Gives.mki ⟨rfl, rfl⟩
  · intro hbr
    have hbr := of_decide_eq_false hbr
    (exfalso; omega)
theorem unsigned_big (w0 : World) (F : List Atom) (n : Int) (n0 : -9223372036854775808 ≤ n) (n1 : n ≤ 9223372036854775807) (wd : Int) (wd0 : -9223372036854775808 ≤ wd) (wd1 : wd ≤ 9223372036854775807) (ht : 1 ≤ wd ∧ wd ≤ 32) (hn : n < -(2 ^ (wd - 1).toNat) ∨ 2 ^ (wd - 1).toNat ≤ n) :
    CallK Try.prog 12 [.int .i64 n, .int .i64 wd] w0 (F) (Gives w0 fun v_ F2 => v_ = .tuple #[.int .u32 0, .int .i64 11] ∧ F2 = F) := by
  have hpw := pow_bd (k := wd.toNat) (by omega)
  have hph := pow_bd (k := (wd - 1).toNat) (by omega)
  have hhp := half_pow (wd := wd) (by omega)
  refine c_enter Try.func12 rfl rfl rfl ?_
  refine g_seq ?_
  refine g_region ?_
  refine l_assign rfl rfl ?_
  refine l_assign rfl rfl ?_
  refine l_nil ?_
  refine g_seq ?_
  refine g_seq ?_
  refine g_region ?_
  refine l_move rfl rfl ?_
  refine l_lss rfl rfl rfl ?_
  refine l_move rfl rfl ?_
  refine l_split 9 rfl ?_ ?_
  · intro hbr
    have hbr := of_decide_eq_true hbr
    (exfalso; omega)
  intro hbr
  have hbr := of_decide_eq_false hbr
  refine l_guard_yes rfl rfl ?_
  refine l_move rfl rfl ?_
  refine l_guard_yes rfl rfl ?_
  refine l_gtr rfl rfl rfl ?_
  refine l_pick_f rfl rfl rfl ?_
  refine l_nil ?_
  refine g_cond rfl ?_ ?_
  · intro hbr
    have hbr := of_decide_eq_true hbr
    (exfalso; omega)
  intro hbr
  have hbr := of_decide_eq_false hbr
  refine g_skip ?_
  refine g_seq ?_
  refine g_region ?_
  refine l_move rfl rfl ?_
  first | refine l_sub_ rfl rfl rfl (w_i64 (by omega) (by omega)) ?_ | refine l_subw rfl rfl rfl ?_
  refine l_shl (r := 2 ^ (wd - 1).toNat) rfl rfl rfl (by omega) (by rw [show min (wd - 1).toNat IntKind.i64.bits = (wd - 1).toNat from min64 (by omega), Int.one_mul]; exact w_i64 (by omega) (by omega)) ?_
  refine l_assign rfl rfl ?_
  refine l_nil ?_
  refine g_seq ?_
  refine g_seq ?_
  refine g_region ?_
  refine l_move rfl rfl ?_
  refine l_move rfl rfl ?_
  refine l_neg rfl rfl (w_i64 (by omega) (by omega)) ?_
  refine l_lss rfl rfl rfl ?_
  refine l_move rfl rfl ?_
  refine l_split 20 rfl ?_ ?_
  · intro hbr
    have hbr := of_decide_eq_true hbr
    refine l_guard_no rfl rfl rfl ?_
    refine l_guard_no rfl rfl rfl ?_
    refine l_guard_no rfl rfl rfl ?_
    refine l_pick_t rfl rfl rfl ?_
    refine l_nil ?_
    first | refine g_cond_t rfl ?_ | refine g_cond_t (congrArg (fun b => some (Value.bool b)) (decide_eq_true hbr)) ?_
    refine g_seq ?_
    refine g_region ?_
    refine l_assign rfl rfl ?_
    refine l_assign rfl rfl ?_
    refine l_nil ?_
    refine g_ret Try.func12 rfl (.tmp rfl (.tmp rfl .nil)) ?_
    exact Gives.mki ⟨rfl, rfl⟩
  intro hbr
  have hbr := of_decide_eq_false hbr
  refine l_guard_yes rfl rfl ?_
  refine l_move rfl rfl ?_
  refine l_guard_yes rfl rfl ?_
  refine l_move rfl rfl ?_
  refine l_guard_yes rfl rfl ?_
  refine l_geq rfl rfl rfl ?_
  refine l_pick_f rfl rfl rfl ?_
  refine l_nil ?_
  refine g_cond rfl ?_ ?_
  · intro hbr
    have hbr := of_decide_eq_true hbr
    refine g_seq ?_
    refine g_region ?_
    refine l_assign rfl rfl ?_
    refine l_assign rfl rfl ?_
    refine l_nil ?_
    refine g_ret Try.func12 rfl (.tmp rfl (.tmp rfl .nil)) ?_
    exact Gives.mki ⟨rfl, rfl⟩
  · intro hbr
    have hbr := of_decide_eq_false hbr
    (exfalso; omega)
end Go.Proofs.Ytnkmhhjldfapdaa.Fw
