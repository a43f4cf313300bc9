import Derived.Test.YtnkmhhjldfapdaaG
namespace Go.Proofs.Ytnkmhhjldfapdaa.Fw
open Go Go.Proofs
set_option linter.unusedVariables false
set_option linter.unusedSimpArgs false
set_option maxRecDepth 10000
theorem fa_25_0 (a : Addr) (w : World) : (Instr.fieldAt 25 (.pointer (some a)) 0).run Try.prog w = .ok (.pointer (some (a.add 0))) w := by
  simp [Instr.fieldAt, Try.runUnderlying25, Instr.sureAddr, fieldPlace, Try.sizeOf23, Sem.run_bind, Sem.run_pure]
theorem fa_25_1 (a : Addr) (w : World) : (Instr.fieldAt 25 (.pointer (some a)) 1).run Try.prog w = .ok (.pointer (some (a.add 1))) w := by
  simp [Instr.fieldAt, Try.runUnderlying25, Instr.sureAddr, fieldPlace, Try.sizeOf23, Sem.run_bind, Sem.run_pure]
theorem fa_25_2 (a : Addr) (w : World) : (Instr.fieldAt 25 (.pointer (some a)) 2).run Try.prog w = .ok (.pointer (some (a.add 2))) w := by
  simp [Instr.fieldAt, Try.runUnderlying25, Instr.sureAddr, fieldPlace, Try.sizeOf3, Sem.run_bind, Sem.run_pure]
theorem fa_25_3 (a : Addr) (w : World) : (Instr.fieldAt 25 (.pointer (some a)) 3).run Try.prog w = .ok (.pointer (some (a.add 3))) w := by
  simp [Instr.fieldAt, Try.runUnderlying25, Instr.sureAddr, fieldPlace, Try.sizeOf3, Sem.run_bind, Sem.run_pure]
theorem vis_s25 {w : World} {r : List Value} (h : Vis Try.prog w 25 r) : ∃ (x0 : Int) (x1 : Int) (x2 : Int) (x3 : Int), r = [.int .u32 x0, .int .u32 x1, .int .i64 x2, .int .i64 x3] ∧ (Lit.int .u32 x0).wf = true ∧ (Lit.int .u32 x1).wf = true ∧ (Lit.int .i64 x2).wf = true ∧ (Lit.int .i64 x3).wf = true := by
  obtain ⟨hl, hf⟩ := vis_struct Try.underlying25 h
  have hc : Try.prog.cellsOf 25 = 4 := by kernel_rfl
  have c23 : Try.prog.cellsOf 23 = 1 := by kernel_rfl
  have c3 : Try.prog.cellsOf 3 = 1 := by kernel_rfl
  match r, hl.trans hc with
  | [z0, z1, z2, z3], _ =>
    obtain ⟨x0, e0, w0⟩ := vis_int Try.underlying23 (hf 0 _ rfl)
    obtain ⟨x1, e1, w1⟩ := vis_int Try.underlying23 (hf 1 _ rfl)
    obtain ⟨x2, e2, w2⟩ := vis_int Try.underlying3 (hf 2 _ rfl)
    obtain ⟨x3, e3, w3⟩ := vis_int Try.underlying3 (hf 3 _ rfl)
    simp [c23, c3] at e0 e1 e2 e3
    subst e0 e1 e2 e3
    exact ⟨x0, x1, x2, x3, rfl, w0, w1, w2, w3⟩
theorem full_v {v wd : Int} (h : v ≤ 4294967295) (hw : wd = 32) : v < 2 ^ wd.toNat := by
  subst hw
  have : (2 : Int) ^ (32 : Int).toNat = 4294967296 := rfl
  omega
theorem fields_law (w0 : World) (F : List Atom) (x : Int) (x0 : 0 ≤ x) (x1 : x ≤ 4294967295) (v : Int) (v0 : 0 ≤ v) (v1 : v ≤ 4294967295) (fr : Int) (fr0 : -9223372036854775808 ≤ fr) (fr1 : fr ≤ 9223372036854775807) (wd : Int) (wd0 : -9223372036854775808 ≤ wd) (wd1 : wd ≤ 9223372036854775807) :
    CallK Try.prog 4 [.agg #[.int .u32 x, .int .u32 v, .int .i64 fr, .int .i64 wd]] w0 (F) (Gives w0 fun v_ F2 => v_ = .bool true ∧ F2 = F) := by
  refine c_enter Try.func4 rfl rfl rfl ?_
  refine g_seq ?_
  refine g_region ?_
  refine l_boxs rfl rfl ?_; intro b1
  refine l_assign rfl rfl ?_
  refine l_nil ?_
  refine g_seq ?_
  refine g_seq ?_
  refine g_region ?_
  refine l_call rfl Try.call9 rfl (fixed_ok _ _) ?_; rintro _ _ ⟨rfl, rfl⟩
  refine l_not rfl rfl ?_
  refine l_nil ?_
  refine g_cond_f rfl ?_
  refine g_skip ?_
  refine g_seq ?_
  refine gp_start mo (by kernel_rfl) (by kernel_rfl) ?_
  refine gp_quiet 0 rfl rfl rfl rfl rfl rfl (q_fieldAddr fa_25_0 rfl) ?_
  first | refine gp_quiet 1 rfl rfl rfl rfl rfl rfl (q_ld Try.isAgg23 rfl rfl) ?_ | refine gp_quiet 1 rfl rfl rfl rfl rfl rfl (q_ldw Try.isAgg23 rfl (by omega)) ?_
  refine gp_quiet 2 rfl rfl rfl rfl rfl rfl (q_fieldAddr fa_25_1 rfl) ?_
  first | refine gp_quiet 3 rfl rfl rfl rfl rfl rfl (q_ld Try.isAgg23 rfl rfl) ?_ | refine gp_quiet 3 rfl rfl rfl rfl rfl rfl (q_ldw Try.isAgg23 rfl (by omega)) ?_
  refine gp_quiet 4 rfl rfl rfl rfl rfl rfl (q_fieldAddr fa_25_2 rfl) ?_
  first | refine gp_quiet 5 rfl rfl rfl rfl rfl rfl (q_ld Try.isAgg3 rfl rfl) ?_ | refine gp_quiet 5 rfl rfl rfl rfl rfl rfl (q_ldw Try.isAgg3 rfl (by omega)) ?_
  refine gp_quiet 6 rfl rfl rfl rfl rfl rfl (q_fieldAddr fa_25_3 rfl) ?_
  first | refine gp_quiet 7 rfl rfl rfl rfl rfl rfl (q_ld Try.isAgg3 rfl rfl) ?_ | refine gp_quiet 7 rfl rfl rfl rfl rfl rfl (q_ldw Try.isAgg3 rfl (by omega)) ?_
  refine gp_quiet 8 rfl rfl rfl rfl rfl rfl (q_assign rfl) ?_
  refine gp_quiet 9 rfl rfl rfl rfl rfl rfl (q_assign rfl) ?_
  refine gp_quiet 10 rfl rfl rfl rfl rfl rfl (q_assign rfl) ?_
  refine gp_quiet 11 rfl rfl rfl rfl rfl rfl (q_assign rfl) ?_
  refine gp_end rfl rfl ?_
  refine g_seq ?_
  refine g_region ?_
  refine l_move rfl rfl ?_
  refine l_move rfl rfl ?_
  refine l_move rfl rfl ?_
  refine l_move rfl rfl ?_
  refine l_call rfl Try.call10 rfl (put_g _ _ x (by omega) (by omega) fr (by omega) (by omega) wd (by omega) (by omega) v (by omega) (by omega)) ?_; rintro _ _ ⟨r1, e1, rfl, rfl, hp1⟩
  have hq1 := hp1
  have hd1 := hp1.bd
  unfold PutG at hq1
  refine l_move rfl rfl ?_
  refine l_extract rfl rfl rfl ?_
  refine l_extract rfl rfl rfl ?_
  refine l_assign rfl rfl ?_
  refine l_assign rfl rfl ?_
  refine l_nil ?_
  refine g_seq ?_
  refine g_region ?_
  refine l_move rfl rfl ?_
  refine l_move rfl rfl ?_
  refine l_move rfl rfl ?_
  refine l_call rfl Try.call11 rfl (field_g _ _ x (by omega) (by omega) fr (by omega) (by omega) wd (by omega) (by omega)) ?_; rintro _ _ ⟨r2, e2, rfl, rfl, hp2⟩
  have hq2 := hp2
  have hd2 := hp2.bd
  unfold FldG at hq2
  have hfb := @field_bd x fr wd
  have hz2 := @shV_zero r2 wd (by omega)
  have hzv := @shV_zero v wd v0
  have hfv := @full_v v wd v1
  refine l_move rfl rfl ?_
  refine l_extract rfl rfl rfl ?_
  refine l_extract rfl rfl rfl ?_
  refine l_assign rfl rfl ?_
  refine l_assign rfl rfl ?_
  refine l_nil ?_
  refine g_seq ?_
  refine g_seq ?_
  refine g_region ?_
  refine l_move rfl rfl ?_
  refine l_lss rfl rfl rfl ?_
  refine l_move rfl rfl ?_
  refine l_split 43 rfl ?_ ?_
  · intro hbr
    have hbr := of_decide_eq_true hbr
    refine l_guard_no rfl rfl rfl ?_
    refine l_guard_no rfl rfl rfl ?_
    refine l_pick_t rfl rfl rfl ?_
    refine l_move rfl rfl ?_
    refine l_guard_no rfl rfl rfl ?_
    refine l_guard_no rfl rfl rfl ?_
    refine l_pick_t rfl rfl rfl ?_
    refine l_move rfl rfl ?_
    refine l_guard_no rfl rfl rfl ?_
    refine l_guard_no rfl rfl rfl ?_
    refine l_pick_t rfl rfl rfl ?_
    refine l_move rfl rfl ?_
    refine l_guard_no rfl rfl rfl ?_
    refine l_guard_no rfl rfl rfl ?_
    refine l_guard_no rfl rfl rfl ?_
    refine l_guard_no rfl rfl rfl ?_
    refine l_pick_t rfl rfl rfl ?_
    refine l_nil ?_
    refine g_cond_t rfl ?_
    refine g_seq ?_
    refine g_region ?_
    refine l_move rfl rfl ?_
    refine l_eql rfl rfl rfl ?_
    refine l_move rfl rfl ?_
    refine l_split 63 rfl ?_ ?_
    · intro hbr
      have hbr := of_decide_eq_true hbr
      refine l_guard_yes rfl rfl ?_
      refine l_move rfl rfl ?_
      refine l_guard_yes rfl rfl ?_
      refine l_eql rfl rfl rfl ?_
      refine l_pick_t rfl rfl rfl ?_
      refine l_move rfl rfl ?_
      refine l_split 67 rfl ?_ ?_
      · intro hbr
        have hbr := of_decide_eq_true hbr
        refine l_guard_yes rfl rfl ?_
        refine l_move rfl rfl ?_
        refine l_guard_yes rfl rfl ?_
        refine l_eql rfl rfl rfl ?_
        refine l_pick_t rfl rfl rfl ?_
        refine l_move rfl rfl ?_
        refine l_split 71 rfl ?_ ?_
        · intro hbr
          have hbr := of_decide_eq_true hbr
          refine l_guard_yes rfl rfl ?_
          refine l_move rfl rfl ?_
          refine l_guard_yes rfl rfl ?_
          refine l_eql rfl rfl rfl ?_
          refine l_pick_t rfl rfl rfl ?_
          refine l_assign rfl rfl ?_
          refine l_nil ?_
          refine g_ret Try.func4 rfl (.tmp rfl .nil) ?_
          (first | exact Gives.mki ⟨rfl, rfl⟩ | exact Gives.mki ⟨(show Value.bool _ = _ from congrArg Value.bool (decide_eq_true (by omega))), rfl⟩)
        · intro hbr
          have hbr := of_decide_eq_false hbr
          (exfalso; omega)
      · intro hbr
        have hbr := of_decide_eq_false hbr
        (exfalso; omega)
    · intro hbr
      have hbr := of_decide_eq_false hbr
      (exfalso; omega)
  intro hbr
  have hbr := of_decide_eq_false hbr
  refine l_guard_yes rfl rfl ?_
  refine l_move rfl rfl ?_
  refine l_guard_yes rfl rfl ?_
  refine l_lss rfl rfl rfl ?_
  refine l_pick_f rfl rfl rfl ?_
  refine l_move rfl rfl ?_
  refine l_split 47 rfl ?_ ?_
  · intro hbr
    have hbr := of_decide_eq_true hbr
    refine l_guard_no rfl rfl rfl ?_
    refine l_guard_no rfl rfl rfl ?_
    refine l_pick_t rfl rfl rfl ?_
    refine l_move rfl rfl ?_
    refine l_guard_no rfl rfl rfl ?_
    refine l_guard_no rfl rfl rfl ?_
    refine l_pick_t rfl rfl rfl ?_
    refine l_move rfl rfl ?_
    refine l_guard_no rfl rfl rfl ?_
    refine l_guard_no rfl rfl rfl ?_
    refine l_guard_no rfl rfl rfl ?_
    refine l_guard_no rfl rfl rfl ?_
    refine l_pick_t rfl rfl rfl ?_
    refine l_nil ?_
    refine g_cond_t rfl ?_
    refine g_seq ?_
    refine g_region ?_
    refine l_move rfl rfl ?_
    refine l_eql rfl rfl rfl ?_
    refine l_move rfl rfl ?_
    refine l_split 63 rfl ?_ ?_
    · intro hbr
      have hbr := of_decide_eq_true hbr
      refine l_guard_yes rfl rfl ?_
      refine l_move rfl rfl ?_
      refine l_guard_yes rfl rfl ?_
      refine l_eql rfl rfl rfl ?_
      refine l_pick_t rfl rfl rfl ?_
      refine l_move rfl rfl ?_
      refine l_split 67 rfl ?_ ?_
      · intro hbr
        have hbr := of_decide_eq_true hbr
        refine l_guard_yes rfl rfl ?_
        refine l_move rfl rfl ?_
        refine l_guard_yes rfl rfl ?_
        refine l_eql rfl rfl rfl ?_
        refine l_pick_t rfl rfl rfl ?_
        refine l_move rfl rfl ?_
        refine l_split 71 rfl ?_ ?_
        · intro hbr
          have hbr := of_decide_eq_true hbr
          refine l_guard_yes rfl rfl ?_
          refine l_move rfl rfl ?_
          refine l_guard_yes rfl rfl ?_
          refine l_eql rfl rfl rfl ?_
          refine l_pick_t rfl rfl rfl ?_
          refine l_assign rfl rfl ?_
          refine l_nil ?_
          refine g_ret Try.func4 rfl (.tmp rfl .nil) ?_
          (first | exact Gives.mki ⟨rfl, rfl⟩ | exact Gives.mki ⟨(show Value.bool _ = _ from congrArg Value.bool (decide_eq_true (by omega))), rfl⟩)
        · intro hbr
          have hbr := of_decide_eq_false hbr
          (exfalso; omega)
      · intro hbr
        have hbr := of_decide_eq_false hbr
        (exfalso; omega)
    · intro hbr
      have hbr := of_decide_eq_false hbr
      (exfalso; omega)
  intro hbr
  have hbr := of_decide_eq_false hbr
  refine l_guard_yes rfl rfl ?_
  refine l_move rfl rfl ?_
  refine l_guard_yes rfl rfl ?_
  refine l_gtr rfl rfl rfl ?_
  refine l_pick_f rfl rfl rfl ?_
  refine l_move rfl rfl ?_
  refine l_split 51 rfl ?_ ?_
  · intro hbr
    have hbr := of_decide_eq_true hbr
    refine l_guard_no rfl rfl rfl ?_
    refine l_guard_no rfl rfl rfl ?_
    refine l_pick_t rfl rfl rfl ?_
    refine l_move rfl rfl ?_
    refine l_guard_no rfl rfl rfl ?_
    refine l_guard_no rfl rfl rfl ?_
    refine l_guard_no rfl rfl rfl ?_
    refine l_guard_no rfl rfl rfl ?_
    refine l_pick_t rfl rfl rfl ?_
    refine l_nil ?_
    refine g_cond_t rfl ?_
    refine g_seq ?_
    refine g_region ?_
    refine l_move rfl rfl ?_
    refine l_eql rfl rfl rfl ?_
    refine l_move rfl rfl ?_
    refine l_split 63 rfl ?_ ?_
    · intro hbr
      have hbr := of_decide_eq_true hbr
      refine l_guard_yes rfl rfl ?_
      refine l_move rfl rfl ?_
      refine l_guard_yes rfl rfl ?_
      refine l_eql rfl rfl rfl ?_
      refine l_pick_t rfl rfl rfl ?_
      refine l_move rfl rfl ?_
      refine l_split 67 rfl ?_ ?_
      · intro hbr
        have hbr := of_decide_eq_true hbr
        refine l_guard_yes rfl rfl ?_
        refine l_move rfl rfl ?_
        refine l_guard_yes rfl rfl ?_
        refine l_eql rfl rfl rfl ?_
        refine l_pick_t rfl rfl rfl ?_
        refine l_move rfl rfl ?_
        refine l_split 71 rfl ?_ ?_
        · intro hbr
          have hbr := of_decide_eq_true hbr
          refine l_guard_yes rfl rfl ?_
          refine l_move rfl rfl ?_
          refine l_guard_yes rfl rfl ?_
          refine l_eql rfl rfl rfl ?_
          refine l_pick_t rfl rfl rfl ?_
          refine l_assign rfl rfl ?_
          refine l_nil ?_
          refine g_ret Try.func4 rfl (.tmp rfl .nil) ?_
          (first | exact Gives.mki ⟨rfl, rfl⟩ | exact Gives.mki ⟨(show Value.bool _ = _ from congrArg Value.bool (decide_eq_true (by omega))), rfl⟩)
        · intro hbr
          have hbr := of_decide_eq_false hbr
          (exfalso; omega)
      · intro hbr
        have hbr := of_decide_eq_false hbr
        (exfalso; omega)
    · intro hbr
      have hbr := of_decide_eq_false hbr
      (exfalso; omega)
  intro hbr
  have hbr := of_decide_eq_false hbr
  refine l_guard_yes rfl rfl ?_
  refine l_move rfl rfl ?_
  refine l_guard_yes rfl rfl ?_
  refine l_gtr rfl rfl rfl ?_
  refine l_pick_f rfl rfl rfl ?_
  refine l_move rfl rfl ?_
  refine l_split 55 rfl ?_ ?_
  · intro hbr
    have hbr := of_decide_eq_true hbr
    refine l_guard_no rfl rfl rfl ?_
    refine l_guard_no rfl rfl rfl ?_
    refine l_guard_no rfl rfl rfl ?_
    refine l_guard_no rfl rfl rfl ?_
    refine l_pick_t rfl rfl rfl ?_
    refine l_nil ?_
    refine g_cond_t rfl ?_
    refine g_seq ?_
    refine g_region ?_
    refine l_move rfl rfl ?_
    refine l_eql rfl rfl rfl ?_
    refine l_move rfl rfl ?_
    refine l_split 63 rfl ?_ ?_
    · intro hbr
      have hbr := of_decide_eq_true hbr
      refine l_guard_yes rfl rfl ?_
      refine l_move rfl rfl ?_
      refine l_guard_yes rfl rfl ?_
      refine l_eql rfl rfl rfl ?_
      refine l_pick_t rfl rfl rfl ?_
      refine l_move rfl rfl ?_
      refine l_split 67 rfl ?_ ?_
      · intro hbr
        have hbr := of_decide_eq_true hbr
        refine l_guard_yes rfl rfl ?_
        refine l_move rfl rfl ?_
        refine l_guard_yes rfl rfl ?_
        refine l_eql rfl rfl rfl ?_
        refine l_pick_t rfl rfl rfl ?_
        refine l_move rfl rfl ?_
        refine l_split 71 rfl ?_ ?_
        · intro hbr
          have hbr := of_decide_eq_true hbr
          refine l_guard_yes rfl rfl ?_
          refine l_move rfl rfl ?_
          refine l_guard_yes rfl rfl ?_
          refine l_eql rfl rfl rfl ?_
          refine l_pick_t rfl rfl rfl ?_
          refine l_assign rfl rfl ?_
          refine l_nil ?_
          refine g_ret Try.func4 rfl (.tmp rfl .nil) ?_
          (first | exact Gives.mki ⟨rfl, rfl⟩ | exact Gives.mki ⟨(show Value.bool _ = _ from congrArg Value.bool (decide_eq_true (by omega))), rfl⟩)
        · intro hbr
          have hbr := of_decide_eq_false hbr
          (exfalso; omega)
      · intro hbr
        have hbr := of_decide_eq_false hbr
        (exfalso; omega)
    · intro hbr
      have hbr := of_decide_eq_false hbr
      (exfalso; omega)
  intro hbr
  have hbr := of_decide_eq_false hbr
  refine l_guard_yes rfl rfl ?_
  refine l_move rfl rfl ?_
  refine l_guard_yes rfl rfl ?_
  refine l_move rfl rfl ?_
  refine l_guard_yes rfl rfl ?_
  first | refine l_add rfl rfl rfl (w_i64 (by omega) (by omega)) ?_ | refine l_addw rfl rfl rfl ?_
  refine l_guard_yes rfl rfl ?_
  refine l_gtr rfl rfl rfl ?_
  refine l_pick_f rfl rfl rfl ?_
  refine l_nil ?_
  refine g_cond rfl ?_ ?_
  · intro hbr
    have hbr := of_decide_eq_true hbr
    refine g_seq ?_
    refine g_region ?_
    refine l_move rfl rfl ?_
    refine l_eql rfl rfl rfl ?_
    refine l_move rfl rfl ?_
    refine l_split 63 rfl ?_ ?_
    · intro hbr
      have hbr := of_decide_eq_true hbr
      refine l_guard_yes rfl rfl ?_
      refine l_move rfl rfl ?_
      refine l_guard_yes rfl rfl ?_
      refine l_eql rfl rfl rfl ?_
      refine l_pick_t rfl rfl rfl ?_
      refine l_move rfl rfl ?_
      refine l_split 67 rfl ?_ ?_
      · intro hbr
        have hbr := of_decide_eq_true hbr
        refine l_guard_yes rfl rfl ?_
        refine l_move rfl rfl ?_
        refine l_guard_yes rfl rfl ?_
        refine l_eql rfl rfl rfl ?_
        refine l_pick_t rfl rfl rfl ?_
        refine l_move rfl rfl ?_
        refine l_split 71 rfl ?_ ?_
        · intro hbr
          have hbr := of_decide_eq_true hbr
          refine l_guard_yes rfl rfl ?_
          refine l_move rfl rfl ?_
          refine l_guard_yes rfl rfl ?_
          refine l_eql rfl rfl rfl ?_
          refine l_pick_t rfl rfl rfl ?_
          refine l_assign rfl rfl ?_
          refine l_nil ?_
          refine g_ret Try.func4 rfl (.tmp rfl .nil) ?_
          (first | exact Gives.mki ⟨rfl, rfl⟩ | exact Gives.mki ⟨(show Value.bool _ = _ from congrArg Value.bool (decide_eq_true (by omega))), rfl⟩)
        · intro hbr
          have hbr := of_decide_eq_false hbr
          (exfalso; omega)
      · intro hbr
        have hbr := of_decide_eq_false hbr
        (exfalso; omega)
    · intro hbr
      have hbr := of_decide_eq_false hbr
      (exfalso; omega)
  intro hbr
  have hbr := of_decide_eq_false hbr
  refine g_skip ?_
  refine g_seq ?_
  refine g_seq ?_
  refine g_region ?_
  refine l_move rfl rfl ?_
  refine l_neq rfl rfl rfl ?_
  refine l_move rfl rfl ?_
  refine l_split 77 rfl ?_ ?_
  · intro hbr
    have hbr := of_decide_eq_true hbr
    (exfalso; omega)
  intro hbr
  have hbr := of_decide_eq_false hbr
  refine l_guard_yes rfl rfl ?_
  refine l_move rfl rfl ?_
  refine l_guard_yes rfl rfl ?_
  refine l_lss rfl rfl rfl ?_
  refine l_guard_yes rfl rfl ?_
  refine l_move rfl rfl ?_
  refine l_split 80 rfl ?_ ?_
  · intro hbr
    have hbr := of_decide_eq_true hbr
    refine l_guard_yes rfl rfl ?_
    refine l_move rfl rfl ?_
    refine l_guard_yes rfl rfl ?_
    refine l_move rfl rfl ?_
    refine l_guard_yes rfl rfl ?_
    first | refine l_conv rfl Try.underlying3 Try.underlying30 rfl (w_u64 (by omega) (by omega)) ?_ | refine l_convm (m := 18446744073709551616) rfl wr_u64 Try.underlying3 Try.underlying30 rfl ?_
    refine l_guard_yes rfl rfl ?_
    refine l_shr (r := shV r2 wd) rfl rfl rfl (by omega) (by rw [show min wd.toNat IntKind.u32.bits = wd.toNat from min32 (by omega)]; rfl) ?_
    refine l_guard_yes rfl rfl ?_
    refine l_neq rfl rfl rfl ?_
    refine l_guard_yes rfl rfl ?_
    refine l_pick_t rfl rfl rfl ?_
    refine l_pick_f rfl rfl rfl ?_
    refine l_nil ?_
    refine g_cond rfl ?_ ?_
    · intro hbr
      have hbr := of_decide_eq_true hbr
      (exfalso; omega)
    intro hbr
    have hbr := of_decide_eq_false hbr
    refine g_skip ?_
    refine g_seq ?_
    refine g_seq ?_
    refine g_region ?_
    refine l_move rfl rfl ?_
    refine l_lss rfl rfl rfl ?_
    refine l_move rfl rfl ?_
    refine l_split 90 rfl ?_ ?_
    · intro hbr
      have hbr := of_decide_eq_true hbr
      refine l_guard_yes rfl rfl ?_
      refine l_move rfl rfl ?_
      refine l_guard_yes rfl rfl ?_
      refine l_move rfl rfl ?_
      refine l_guard_yes rfl rfl ?_
      first | refine l_conv rfl Try.underlying3 Try.underlying30 rfl (w_u64 (by omega) (by omega)) ?_ | refine l_convm (m := 18446744073709551616) rfl wr_u64 Try.underlying3 Try.underlying30 rfl ?_
      refine l_guard_yes rfl rfl ?_
      refine l_shr (r := shV v wd) rfl rfl rfl (by omega) (by rw [show min wd.toNat IntKind.u32.bits = wd.toNat from min32 (by omega)]; rfl) ?_
      refine l_guard_yes rfl rfl ?_
      refine l_neq rfl rfl rfl ?_
      refine l_pick_t rfl rfl rfl ?_
      refine l_nil ?_
      refine g_cond rfl ?_ ?_
      · intro hbr
        have hbr := of_decide_eq_true hbr
        refine g_seq ?_
        refine g_region ?_
        refine l_move rfl rfl ?_
        refine l_eql rfl rfl rfl ?_
        refine l_move rfl rfl ?_
        refine l_split 99 rfl ?_ ?_
        · intro hbr
          have hbr := of_decide_eq_true hbr
          refine l_guard_yes rfl rfl ?_
          refine l_move rfl rfl ?_
          refine l_guard_yes rfl rfl ?_
          refine l_eql rfl rfl rfl ?_
          refine l_pick_t rfl rfl rfl ?_
          refine l_assign rfl rfl ?_
          refine l_nil ?_
          refine g_ret Try.func4 rfl (.tmp rfl .nil) ?_
          (first | exact Gives.mki ⟨rfl, rfl⟩ | exact Gives.mki ⟨(show Value.bool _ = _ from congrArg Value.bool (decide_eq_true (by omega))), rfl⟩)
        · intro hbr
          have hbr := of_decide_eq_false hbr
          (exfalso; omega)
      intro hbr
      have hbr := of_decide_eq_false hbr
      refine g_skip ?_
      refine g_seq ?_
      refine g_region ?_
      refine l_move rfl rfl ?_
      refine l_move rfl rfl ?_
      refine l_move rfl rfl ?_
      have hT : There fr wd := by unfold There; omega
      have hvb : v < 2 ^ wd.toNat := by omega
      have h1r : r1 = putV x fr wd v := by omega
      have h2r : r2 = fieldV x fr wd := by omega
      refine l_call rfl Try.call11 rfl (field_g _ _ r1 (by omega) (by omega) fr (by omega) (by omega) wd (by omega) (by omega)) ?_; rintro _ _ ⟨r3, e3, rfl, rfl, hp3⟩
      have hq3 := hp3
      unfold FldG at hq3
      have h3 : fieldV r1 fr wd = v := by rw [h1r]; exact field_put ⟨x0, x1⟩ hT ⟨v0, hvb⟩
      refine l_move rfl rfl ?_
      refine l_extract rfl rfl rfl ?_
      refine l_extract rfl rfl rfl ?_
      refine l_assign rfl rfl ?_
      refine l_assign rfl rfl ?_
      refine l_nil ?_
      refine g_seq ?_
      refine g_region ?_
      refine l_move rfl rfl ?_
      refine l_move rfl rfl ?_
      refine l_move rfl rfl ?_
      refine l_move rfl rfl ?_
      refine l_call rfl Try.call10 rfl (put_g _ _ r1 (by omega) (by omega) fr (by omega) (by omega) wd (by omega) (by omega) r2 (by omega) (by omega)) ?_; rintro _ _ ⟨r4, e4, rfl, rfl, hp4⟩
      have hq4 := hp4
      unfold PutG at hq4
      have h4 : putV r1 fr wd r2 = x := by rw [h1r, h2r]; exact put_put ⟨x0, x1⟩ hT ⟨v0, hvb⟩
      refine l_move rfl rfl ?_
      refine l_extract rfl rfl rfl ?_
      refine l_extract rfl rfl rfl ?_
      refine l_assign rfl rfl ?_
      refine l_assign rfl rfl ?_
      refine l_nil ?_
      refine g_seq ?_
      refine g_seq ?_
      refine g_region ?_
      refine l_move rfl rfl ?_
      refine l_neq rfl rfl rfl ?_
      refine l_move rfl rfl ?_
      refine l_split 120 rfl ?_ ?_
      · intro hbr
        have hbr := of_decide_eq_true hbr
        (exfalso; omega)
      intro hbr
      have hbr := of_decide_eq_false hbr
      refine l_guard_yes rfl rfl ?_
      refine l_move rfl rfl ?_
      refine l_guard_yes rfl rfl ?_
      refine l_neq rfl rfl rfl ?_
      refine l_pick_f rfl rfl rfl ?_
      refine l_move rfl rfl ?_
      refine l_split 124 rfl ?_ ?_
      · intro hbr
        have hbr := of_decide_eq_true hbr
        (exfalso; omega)
      intro hbr
      have hbr := of_decide_eq_false hbr
      refine l_guard_yes rfl rfl ?_
      refine l_move rfl rfl ?_
      refine l_guard_yes rfl rfl ?_
      refine l_neq rfl rfl rfl ?_
      refine l_pick_f rfl rfl rfl ?_
      refine l_move rfl rfl ?_
      refine l_split 128 rfl ?_ ?_
      · intro hbr
        have hbr := of_decide_eq_true hbr
        (exfalso; omega)
      intro hbr
      have hbr := of_decide_eq_false hbr
      refine l_guard_yes rfl rfl ?_
      refine l_move rfl rfl ?_
      refine l_guard_yes rfl rfl ?_
      refine l_move rfl rfl ?_
      refine l_guard_yes rfl rfl ?_
      refine l_neq rfl rfl rfl ?_
      refine l_pick_f rfl rfl rfl ?_
      refine l_move rfl rfl ?_
      refine l_split 133 rfl ?_ ?_
      · intro hbr
        have hbr := of_decide_eq_true hbr
        (exfalso; omega)
      intro hbr
      have hbr := of_decide_eq_false hbr
      refine l_guard_yes rfl rfl ?_
      refine l_move rfl rfl ?_
      refine l_guard_yes rfl rfl ?_
      refine l_move rfl rfl ?_
      refine l_guard_yes rfl rfl ?_
      refine l_neq rfl rfl rfl ?_
      refine l_pick_f rfl rfl rfl ?_
      refine l_nil ?_
      refine g_cond rfl ?_ ?_
      · intro hbr
        have hbr := of_decide_eq_true hbr
        (exfalso; omega)
      intro hbr
      have hbr := of_decide_eq_false hbr
      refine g_skip ?_
      refine g_seq ?_
      refine g_seq ?_
      refine g_region ?_
      refine l_assign rfl rfl ?_
      refine l_nil ?_
      refine g_block ?_
      refine g_loopc (X := Int) [(3, _), (5, _), (6, _), (7, _)] (.cons rfl (.cons rfl (.cons rfl (.cons rfl (.nil))))) (fun i => 0 ≤ i ∧ i ≤ 32) (fun i => (32 - i).toNat) (fun i => [(15, .int .i64 i)]) (0) (by omega) (.cons rfl .nil) ?_
      rintro i ⟨i0, i1⟩ ih
      dsimp only [List.cons_append, List.nil_append] at ih ⊢
      refine g_seq ?_
      refine g_seq ?_
      refine g_region ?_
      refine l_move rfl rfl ?_
      refine l_lss rfl rfl rfl ?_
      refine l_nil ?_
      refine g_cond rfl ?_ ?_
      · intro hbr
        have hbr := of_decide_eq_true hbr
        refine g_skip ?_
        refine g_seq ?_
        refine g_block ?_
        refine g_seq ?_
        refine g_region ?_
        refine l_move rfl rfl ?_
        refine l_move rfl rfl ?_
        refine l_lss rfl rfl rfl ?_
        refine l_move rfl rfl ?_
        refine l_split 145 rfl ?_ ?_
        · intro hbr
          have hbr := of_decide_eq_true hbr
          refine l_guard_no rfl rfl rfl ?_
          refine l_guard_no rfl rfl rfl ?_
          refine l_guard_no rfl rfl rfl ?_
          refine l_guard_no rfl rfl rfl ?_
          refine l_guard_no rfl rfl rfl ?_
          refine l_pick_t rfl rfl rfl ?_
          refine l_move rfl rfl ?_
          refine l_guard_yes rfl rfl ?_
          refine l_move rfl rfl ?_
          refine l_guard_yes rfl rfl ?_
          refine l_move rfl rfl ?_
          refine l_guard_yes rfl rfl ?_
          first | refine l_conv rfl Try.underlying3 Try.underlying30 rfl (w_u64 (by omega) (by omega)) ?_ | refine l_convm (m := 18446744073709551616) rfl wr_u64 Try.underlying3 Try.underlying30 rfl ?_
          refine l_guard_yes rfl rfl ?_
          refine l_shr (r := shV r1 i) rfl rfl rfl (by omega) (by rw [show min i.toNat IntKind.u32.bits = i.toNat from min32 (by omega)]; rfl) ?_
          refine l_guard_yes rfl rfl ?_
          refine l_and (m := 32) rfl rfl rfl rfl rfl ?_
          refine l_guard_yes rfl rfl ?_
          refine l_move rfl rfl ?_
          refine l_guard_yes rfl rfl ?_
          refine l_move rfl rfl ?_
          refine l_guard_yes rfl rfl ?_
          first | refine l_conv rfl Try.underlying3 Try.underlying30 rfl (w_u64 (by omega) (by omega)) ?_ | refine l_convm (m := 18446744073709551616) rfl wr_u64 Try.underlying3 Try.underlying30 rfl ?_
          refine l_guard_yes rfl rfl ?_
          refine l_shr (r := shV x i) rfl rfl rfl (by omega) (by rw [show min i.toNat IntKind.u32.bits = i.toNat from min32 (by omega)]; rfl) ?_
          refine l_guard_yes rfl rfl ?_
          refine l_and (m := 32) rfl rfl rfl rfl rfl ?_
          refine l_guard_yes rfl rfl ?_
          have hbp : bAnd 32 (shV r1 i) 1 = bAnd 32 (shV x i) 1 := by rw [h1r]; exact bit_put ⟨x0, x1⟩ hT ⟨v0, hvb⟩ (by omega) (by omega)
          refine l_neq rfl rfl rfl ?_
          refine l_pick_t rfl rfl rfl ?_
          refine l_nil ?_
          refine g_cond rfl ?_ ?_
          · intro hbr
            have hbr := of_decide_eq_true hbr
            (exfalso; omega)
          intro hbr
          have hbr := of_decide_eq_false hbr
          refine g_skip ?_
          refine g_inBlock ?_
          refine g_region ?_
          refine l_move rfl rfl ?_
          first | refine l_add rfl rfl rfl (w_i64 (by omega) (by omega)) ?_ | refine l_addw rfl rfl rfl ?_
          refine l_assign rfl rfl ?_
          refine l_nil ?_
          exact g_againi (ih (i + 1) (by omega) (by omega)) (.cons rfl (.cons rfl (.cons rfl (.cons rfl (.cons rfl (.nil))))))
        intro hbr
        have hbr := of_decide_eq_false hbr
        refine l_guard_yes rfl rfl ?_
        refine l_move rfl rfl ?_
        refine l_guard_yes rfl rfl ?_
        refine l_move rfl rfl ?_
        refine l_guard_yes rfl rfl ?_
        refine l_move rfl rfl ?_
        refine l_guard_yes rfl rfl ?_
        first | refine l_add rfl rfl rfl (w_i64 (by omega) (by omega)) ?_ | refine l_addw rfl rfl rfl ?_
        refine l_guard_yes rfl rfl ?_
        refine l_geq rfl rfl rfl ?_
        refine l_pick_f rfl rfl rfl ?_
        refine l_move rfl rfl ?_
        refine l_split 152 rfl ?_ ?_
        · intro hbr
          have hbr := of_decide_eq_true hbr
          refine l_guard_yes rfl rfl ?_
          refine l_move rfl rfl ?_
          refine l_guard_yes rfl rfl ?_
          refine l_move rfl rfl ?_
          refine l_guard_yes rfl rfl ?_
          first | refine l_conv rfl Try.underlying3 Try.underlying30 rfl (w_u64 (by omega) (by omega)) ?_ | refine l_convm (m := 18446744073709551616) rfl wr_u64 Try.underlying3 Try.underlying30 rfl ?_
          refine l_guard_yes rfl rfl ?_
          refine l_shr (r := shV r1 i) rfl rfl rfl (by omega) (by rw [show min i.toNat IntKind.u32.bits = i.toNat from min32 (by omega)]; rfl) ?_
          refine l_guard_yes rfl rfl ?_
          refine l_and (m := 32) rfl rfl rfl rfl rfl ?_
          refine l_guard_yes rfl rfl ?_
          refine l_move rfl rfl ?_
          refine l_guard_yes rfl rfl ?_
          refine l_move rfl rfl ?_
          refine l_guard_yes rfl rfl ?_
          first | refine l_conv rfl Try.underlying3 Try.underlying30 rfl (w_u64 (by omega) (by omega)) ?_ | refine l_convm (m := 18446744073709551616) rfl wr_u64 Try.underlying3 Try.underlying30 rfl ?_
          refine l_guard_yes rfl rfl ?_
          refine l_shr (r := shV x i) rfl rfl rfl (by omega) (by rw [show min i.toNat IntKind.u32.bits = i.toNat from min32 (by omega)]; rfl) ?_
          refine l_guard_yes rfl rfl ?_
          refine l_and (m := 32) rfl rfl rfl rfl rfl ?_
          refine l_guard_yes rfl rfl ?_
          have hbp : bAnd 32 (shV r1 i) 1 = bAnd 32 (shV x i) 1 := by rw [h1r]; exact bit_put ⟨x0, x1⟩ hT ⟨v0, hvb⟩ (by omega) (by omega)
          refine l_neq rfl rfl rfl ?_
          refine l_pick_t rfl rfl rfl ?_
          refine l_nil ?_
          refine g_cond rfl ?_ ?_
          · intro hbr
            have hbr := of_decide_eq_true hbr
            (exfalso; omega)
          intro hbr
          have hbr := of_decide_eq_false hbr
          refine g_skip ?_
          refine g_inBlock ?_
          refine g_region ?_
          refine l_move rfl rfl ?_
          first | refine l_add rfl rfl rfl (w_i64 (by omega) (by omega)) ?_ | refine l_addw rfl rfl rfl ?_
          refine l_assign rfl rfl ?_
          refine l_nil ?_
          exact g_againi (ih (i + 1) (by omega) (by omega)) (.cons rfl (.cons rfl (.cons rfl (.cons rfl (.cons rfl (.nil))))))
        intro hbr
        have hbr := of_decide_eq_false hbr
        refine l_guard_no rfl rfl rfl ?_
        refine l_guard_no rfl rfl rfl ?_
        refine l_guard_no rfl rfl rfl ?_
        refine l_guard_no rfl rfl rfl ?_
        refine l_guard_no rfl rfl rfl ?_
        refine l_guard_no rfl rfl rfl ?_
        refine l_guard_no rfl rfl rfl ?_
        refine l_guard_no rfl rfl rfl ?_
        refine l_guard_no rfl rfl rfl ?_
        refine l_guard_no rfl rfl rfl ?_
        refine l_guard_no rfl rfl rfl ?_
        refine l_pick_f rfl rfl rfl ?_
        refine l_nil ?_
        refine g_cond_f rfl ?_
        refine g_skip ?_
        refine g_inBlock ?_
        refine g_region ?_
        refine l_move rfl rfl ?_
        first | refine l_add rfl rfl rfl (w_i64 (by omega) (by omega)) ?_ | refine l_addw rfl rfl rfl ?_
        refine l_assign rfl rfl ?_
        refine l_nil ?_
        exact g_againi (ih (i + 1) (by omega) (by omega)) (.cons rfl (.cons rfl (.cons rfl (.cons rfl (.cons rfl (.nil))))))
      intro hbr
      have hbr := of_decide_eq_false hbr
      refine g_exit rfl ?_
      refine g_seq ?_
      refine g_region ?_
      refine l_assign rfl rfl ?_
      refine l_nil ?_
      refine g_ret Try.func4 rfl (.tmp rfl .nil) ?_
      (first | exact Gives.mki ⟨rfl, rfl⟩ | exact Gives.mki ⟨(show Value.bool _ = _ from congrArg Value.bool (decide_eq_true (by omega))), rfl⟩)
    · intro hbr
      have hbr := of_decide_eq_false hbr
      (exfalso; omega)
  intro hbr
  have hbr := of_decide_eq_false hbr
  refine l_guard_no rfl rfl rfl ?_
  refine l_guard_no rfl rfl rfl ?_
  refine l_guard_no rfl rfl rfl ?_
  refine l_guard_no rfl rfl rfl ?_
  refine l_guard_no rfl rfl rfl ?_
  refine l_guard_yes rfl rfl ?_
  refine l_pick_f rfl rfl rfl ?_
  refine l_pick_f rfl rfl rfl ?_
  refine l_nil ?_
  refine g_cond_f rfl ?_
  refine g_skip ?_
  refine g_seq ?_
  refine g_seq ?_
  refine g_region ?_
  refine l_move rfl rfl ?_
  refine l_lss rfl rfl rfl ?_
  refine l_move rfl rfl ?_
  refine l_split 90 rfl ?_ ?_
  · intro hbr
    have hbr := of_decide_eq_true hbr
    (exfalso; omega)
  intro hbr
  have hbr := of_decide_eq_false hbr
  refine l_guard_no rfl rfl rfl ?_
  refine l_guard_no rfl rfl rfl ?_
  refine l_guard_no rfl rfl rfl ?_
  refine l_guard_no rfl rfl rfl ?_
  refine l_guard_no rfl rfl rfl ?_
  refine l_pick_f rfl rfl rfl ?_
  refine l_nil ?_
  refine g_cond_f rfl ?_
  refine g_skip ?_
  refine g_seq ?_
  refine g_region ?_
  refine l_move rfl rfl ?_
  refine l_move rfl rfl ?_
  refine l_move rfl rfl ?_
  have hT : There fr wd := by unfold There; omega
  have hvb : v < 2 ^ wd.toNat := by omega
  have h1r : r1 = putV x fr wd v := by omega
  have h2r : r2 = fieldV x fr wd := by omega
  refine l_call rfl Try.call11 rfl (field_g _ _ r1 (by omega) (by omega) fr (by omega) (by omega) wd (by omega) (by omega)) ?_; rintro _ _ ⟨r3, e3, rfl, rfl, hp3⟩
  have hq3 := hp3
  unfold FldG at hq3
  have h3 : fieldV r1 fr wd = v := by rw [h1r]; exact field_put ⟨x0, x1⟩ hT ⟨v0, hvb⟩
  refine l_move rfl rfl ?_
  refine l_extract rfl rfl rfl ?_
  refine l_extract rfl rfl rfl ?_
  refine l_assign rfl rfl ?_
  refine l_assign rfl rfl ?_
  refine l_nil ?_
  refine g_seq ?_
  refine g_region ?_
  refine l_move rfl rfl ?_
  refine l_move rfl rfl ?_
  refine l_move rfl rfl ?_
  refine l_move rfl rfl ?_
  refine l_call rfl Try.call10 rfl (put_g _ _ r1 (by omega) (by omega) fr (by omega) (by omega) wd (by omega) (by omega) r2 (by omega) (by omega)) ?_; rintro _ _ ⟨r4, e4, rfl, rfl, hp4⟩
  have hq4 := hp4
  unfold PutG at hq4
  have h4 : putV r1 fr wd r2 = x := by rw [h1r, h2r]; exact put_put ⟨x0, x1⟩ hT ⟨v0, hvb⟩
  refine l_move rfl rfl ?_
  refine l_extract rfl rfl rfl ?_
  refine l_extract rfl rfl rfl ?_
  refine l_assign rfl rfl ?_
  refine l_assign rfl rfl ?_
  refine l_nil ?_
  refine g_seq ?_
  refine g_seq ?_
  refine g_region ?_
  refine l_move rfl rfl ?_
  refine l_neq rfl rfl rfl ?_
  refine l_move rfl rfl ?_
  refine l_split 120 rfl ?_ ?_
  · intro hbr
    have hbr := of_decide_eq_true hbr
    (exfalso; omega)
  intro hbr
  have hbr := of_decide_eq_false hbr
  refine l_guard_yes rfl rfl ?_
  refine l_move rfl rfl ?_
  refine l_guard_yes rfl rfl ?_
  refine l_neq rfl rfl rfl ?_
  refine l_pick_f rfl rfl rfl ?_
  refine l_move rfl rfl ?_
  refine l_split 124 rfl ?_ ?_
  · intro hbr
    have hbr := of_decide_eq_true hbr
    (exfalso; omega)
  intro hbr
  have hbr := of_decide_eq_false hbr
  refine l_guard_yes rfl rfl ?_
  refine l_move rfl rfl ?_
  refine l_guard_yes rfl rfl ?_
  refine l_neq rfl rfl rfl ?_
  refine l_pick_f rfl rfl rfl ?_
  refine l_move rfl rfl ?_
  refine l_split 128 rfl ?_ ?_
  · intro hbr
    have hbr := of_decide_eq_true hbr
    (exfalso; omega)
  intro hbr
  have hbr := of_decide_eq_false hbr
  refine l_guard_yes rfl rfl ?_
  refine l_move rfl rfl ?_
  refine l_guard_yes rfl rfl ?_
  refine l_move rfl rfl ?_
  refine l_guard_yes rfl rfl ?_
  refine l_neq rfl rfl rfl ?_
  refine l_pick_f rfl rfl rfl ?_
  refine l_move rfl rfl ?_
  refine l_split 133 rfl ?_ ?_
  · intro hbr
    have hbr := of_decide_eq_true hbr
    (exfalso; omega)
  intro hbr
  have hbr := of_decide_eq_false hbr
  refine l_guard_yes rfl rfl ?_
  refine l_move rfl rfl ?_
  refine l_guard_yes rfl rfl ?_
  refine l_move rfl rfl ?_
  refine l_guard_yes rfl rfl ?_
  refine l_neq rfl rfl rfl ?_
  refine l_pick_f rfl rfl rfl ?_
  refine l_nil ?_
  refine g_cond rfl ?_ ?_
  · intro hbr
    have hbr := of_decide_eq_true hbr
    (exfalso; omega)
  intro hbr
  have hbr := of_decide_eq_false hbr
  refine g_skip ?_
  refine g_seq ?_
  refine g_seq ?_
  refine g_region ?_
  refine l_assign rfl rfl ?_
  refine l_nil ?_
  refine g_block ?_
  refine g_loopc (X := Int) [(3, _), (5, _), (6, _), (7, _)] (.cons rfl (.cons rfl (.cons rfl (.cons rfl (.nil))))) (fun i => 0 ≤ i ∧ i ≤ 32) (fun i => (32 - i).toNat) (fun i => [(15, .int .i64 i)]) (0) (by omega) (.cons rfl .nil) ?_
  rintro i ⟨i0, i1⟩ ih
  dsimp only [List.cons_append, List.nil_append] at ih ⊢
  refine g_seq ?_
  refine g_seq ?_
  refine g_region ?_
  refine l_move rfl rfl ?_
  refine l_lss rfl rfl rfl ?_
  refine l_nil ?_
  refine g_cond rfl ?_ ?_
  · intro hbr
    have hbr := of_decide_eq_true hbr
    refine g_skip ?_
    refine g_seq ?_
    refine g_block ?_
    refine g_seq ?_
    refine g_region ?_
    refine l_move rfl rfl ?_
    refine l_move rfl rfl ?_
    refine l_lss rfl rfl rfl ?_
    refine l_move rfl rfl ?_
    refine l_split 145 rfl ?_ ?_
    · intro hbr
      have hbr := of_decide_eq_true hbr
      (exfalso; omega)
    intro hbr
    have hbr := of_decide_eq_false hbr
    refine l_guard_yes rfl rfl ?_
    refine l_move rfl rfl ?_
    refine l_guard_yes rfl rfl ?_
    refine l_move rfl rfl ?_
    refine l_guard_yes rfl rfl ?_
    refine l_move rfl rfl ?_
    refine l_guard_yes rfl rfl ?_
    first | refine l_add rfl rfl rfl (w_i64 (by omega) (by omega)) ?_ | refine l_addw rfl rfl rfl ?_
    refine l_guard_yes rfl rfl ?_
    refine l_geq rfl rfl rfl ?_
    refine l_pick_f rfl rfl rfl ?_
    refine l_move rfl rfl ?_
    refine l_split 152 rfl ?_ ?_
    · intro hbr
      have hbr := of_decide_eq_true hbr
      (exfalso; omega)
    intro hbr
    have hbr := of_decide_eq_false hbr
    refine l_guard_no rfl rfl rfl ?_
    refine l_guard_no rfl rfl rfl ?_
    refine l_guard_no rfl rfl rfl ?_
    refine l_guard_no rfl rfl rfl ?_
    refine l_guard_no rfl rfl rfl ?_
    refine l_guard_no rfl rfl rfl ?_
    refine l_guard_no rfl rfl rfl ?_
    refine l_guard_no rfl rfl rfl ?_
    refine l_guard_no rfl rfl rfl ?_
    refine l_guard_no rfl rfl rfl ?_
    refine l_guard_no rfl rfl rfl ?_
    refine l_pick_f rfl rfl rfl ?_
    refine l_nil ?_
    refine g_cond_f rfl ?_
    refine g_skip ?_
    refine g_inBlock ?_
    refine g_region ?_
    refine l_move rfl rfl ?_
    first | refine l_add rfl rfl rfl (w_i64 (by omega) (by omega)) ?_ | refine l_addw rfl rfl rfl ?_
    refine l_assign rfl rfl ?_
    refine l_nil ?_
    exact g_againi (ih (i + 1) (by omega) (by omega)) (.cons rfl (.cons rfl (.cons rfl (.cons rfl (.cons rfl (.nil))))))
  intro hbr
  have hbr := of_decide_eq_false hbr
  refine g_exit rfl ?_
  refine g_seq ?_
  refine g_region ?_
  refine l_assign rfl rfl ?_
  refine l_nil ?_
  refine g_ret Try.func4 rfl (.tmp rfl .nil) ?_
  (first | exact Gives.mki ⟨rfl, rfl⟩ | exact Gives.mki ⟨(show Value.bool _ = _ from congrArg Value.bool (decide_eq_true (by omega))), rfl⟩)
theorem fields_all (W : World) (l : List Value) (h : Vis Try.prog W 25 l) : CallK Try.prog 4 [.agg l.toArray] W [Old W] (Gives W fun v F2 => v = .bool true ∧ F2 = [Old W]) := by
  obtain ⟨x0, x1, x2, x3, rfl, w0, w1, w2, w3⟩ := vis_s25 h
  exact fields_law W [Old W] x0 (wf_u32 w0).1 (wf_u32 w0).2 x1 (wf_u32 w1).1 (wf_u32 w1).2 x2 (wf_i64 w2).1 (wf_i64 w2).2 x3 (wf_i64 w3).1 (wf_i64 w3).2
end Go.Proofs.Ytnkmhhjldfapdaa.Fw
