import Derived.Test.YtoflbmjdpngdiaaLaw
namespace Go.Proofs.Ytoflbmjdpngdiaa.Fw
open Go Go.Proofs
set_option linter.unusedVariables false
set_option linter.unusedSimpArgs false
set_option maxRecDepth 10000
theorem fa_37_0 (a : Addr) (w : World) : (Instr.fieldAt 37 (.pointer (some a)) 0).run Try.prog w = .ok (.pointer (some (a.add 0))) w := by
  simp [Instr.fieldAt, Try.runUnderlying37, Instr.sureAddr, fieldPlace, Try.sizeOf3, Sem.run_bind, Sem.run_pure]
theorem fa_37_1 (a : Addr) (w : World) : (Instr.fieldAt 37 (.pointer (some a)) 1).run Try.prog w = .ok (.pointer (some (a.add 1))) w := by
  simp [Instr.fieldAt, Try.runUnderlying37, Instr.sureAddr, fieldPlace, Try.sizeOf3, Sem.run_bind, Sem.run_pure]
theorem sqe_42 (x0 : Int) (x1 : Int) (y0 : Int) (y1 : Int) (w : World) : (binOp .eql 42 (.agg #[.int .i64 x0, .int .i64 x1]) (.agg #[.int .i64 y0, .int .i64 y1])).run Try.prog w = .ok (.bool ((decide (x0 = y0) && decide (x1 = y1)))) w := by
  rw [run_eql_struct, sq_42]; rfl
theorem fa_37_2 (a : Addr) (w : World) : (Instr.fieldAt 37 (.pointer (some a)) 2).run Try.prog w = .ok (.pointer (some (a.add 2))) w := by
  simp [Instr.fieldAt, Try.runUnderlying37, Instr.sureAddr, fieldPlace, Try.sizeOf3, Sem.run_bind, Sem.run_pure]
theorem fa_37_3 (a : Addr) (w : World) : (Instr.fieldAt 37 (.pointer (some a)) 3).run Try.prog w = .ok (.pointer (some (a.add 3))) w := by
  simp [Instr.fieldAt, Try.runUnderlying37, Instr.sureAddr, fieldPlace, Try.sizeOf23, Sem.run_bind, Sem.run_pure]
set_option maxHeartbeats 4000000 in
theorem one_look_ok (w0 : World) (F : List Atom) (b g n c b2 g2 c2 : Nat) (W : List Int) (hW : W.length = n) (hc : n ≤ c) (hc2 : n ≤ c2) (hn : n ≤ 1073741824) (hU : U32s W) (kd at_ kk x : Int) (a0 : -9223372036854775808 ≤ at_) (a1 : at_ ≤ 9223372036854775807) (k0 : -9223372036854775808 ≤ kk) (k1 : kk ≤ 9223372036854775807) (x0 : 0 ≤ x) (x1 : x ≤ 4294967295) (hk : kd = 0) (h : inR n at_ 2) :
    CallK Try.prog 10 [.pointer (some ⟨b, 0, none⟩), .pointer (some ⟨b2, 0, none⟩), .agg [Value.int .i64 kd, .int .i64 at_, .int .i64 kk, .int .u32 x].toArray] w0 (Blk b (.cells [.slice (some ⟨g, 0, none⟩) n c].toArray 56 (0, 0)) :: Own 23 1 (.slice (some ⟨g, 0, none⟩) n c) n (ints .u32 W) :: Blk b2 (.cells [.slice (some ⟨g2, 0, none⟩) n c2].toArray 58 (0, 0)) :: Own 23 1 (.slice (some ⟨g2, 0, none⟩) n c2) n (ints .u32 W) :: F) (Gives w0 fun v F2 => v = .bool true ∧ ∃ W2, W2.length = n ∧ U32s W2 ∧ F2 = Blk b (.cells [.slice (some ⟨g, 0, none⟩) n c].toArray 56 (0, 0)) :: Own 23 1 (.slice (some ⟨g, 0, none⟩) n c) n (ints .u32 W2) :: Blk b2 (.cells [.slice (some ⟨g2, 0, none⟩) n c2].toArray 58 (0, 0)) :: Own 23 1 (.slice (some ⟨g2, 0, none⟩) n c2) n (ints .u32 W2) :: F) := by
  refine c_enter Try.func10 rfl rfl rfl ?_
  refine g_seq ?_
  refine g_region ?_
  refine l_boxs rfl rfl ?_; intro b5
  refine l_assign rfl rfl ?_
  refine l_nil ?_
  refine g_seq ?_
  refine g_seq ?_
  refine g_region ?_
  refine l_fieldAddr rfl fa_37_0 rfl ?_
  first | refine l_ld rfl Try.isAgg3 rfl rfl ?_ | refine l_ldw rfl Try.isAgg3 rfl (by omega) ?_
  refine l_nil ?_
  refine g_block ?_
  refine g_seq ?_
  refine g_region ?_
  refine l_eql rfl rfl rfl ?_
  refine l_assign rfl rfl ?_
  refine l_nil ?_
  refine g_cond rfl ?_ ?_
  · intro hbr
    have hbr := of_decide_eq_true hbr
    refine g_seq ?_
    refine g_region ?_
    refine l_move rfl rfl ?_
    refine l_fieldAddr rfl fa_37_1 rfl ?_
    first | refine l_ld rfl Try.isAgg3 rfl rfl ?_ | refine l_ldw rfl Try.isAgg3 rfl (by omega) ?_
    refine l_fronto g ?_
    refine l_frontb b ?_
    refine l_call rfl Try.call13 rfl (look_ok _ _ b g n c W hW hc hn hU _ (by omega) h) ?_; rintro _ _ ⟨rfl, rfl⟩
    refine l_move rfl rfl ?_
    refine l_extract rfl rfl rfl ?_
    refine l_extract rfl rfl rfl ?_
    refine l_allocs rfl Try.zeroValue42 ?_; intro b7
    refine l_sts Try.sizeOf42 rfl rfl rfl rfl rfl ?_
    refine l_assign rfl rfl ?_
    refine l_nil ?_
    refine g_seq ?_
    refine g_region ?_
    refine l_move rfl rfl ?_
    refine l_fieldAddr rfl fa_37_1 rfl ?_
    first | refine l_ld rfl Try.isAgg3 rfl rfl ?_ | refine l_ldw rfl Try.isAgg3 rfl (by omega) ?_
    refine l_fronto g2 ?_
    refine l_frontb b2 ?_
    refine l_call rfl Try.call21 rfl (rlook_ok _ _ b2 g2 n c2 W hW hc2 hn hU _ (by omega) h) ?_; rintro _ _ ⟨rfl, rfl⟩
    refine l_move rfl rfl ?_
    refine l_extract rfl rfl rfl ?_
    refine l_extract rfl rfl rfl ?_
    refine l_extract rfl rfl rfl ?_
    refine l_assign rfl rfl ?_
    refine l_assign rfl rfl ?_
    refine l_assign rfl rfl ?_
    refine l_nil ?_
    refine g_seq ?_
    refine g_region ?_
    refine l_lds rfl Try.isAgg42 Try.sizeOf42 rfl rfl ?_
    refine l_move rfl rfl ?_
    refine l_move rfl rfl ?_
    refine l_build rfl rfl (fun w => bd_42_0_1 _ _ w) ?_
    refine l_bin rfl rfl rfl (fun w => run_eqGuard_agg w _ _ _ _ _ _ Try.eqGuardType42) (fun w => sqe_42 _ _ _ _ w) ?_
    refine l_move rfl rfl ?_
    refine l_split 46 rfl ?_ ?_
    · intro hbr
      refine l_guard_yes rfl rfl ?_
      refine l_move rfl rfl ?_
      refine l_guard_yes rfl rfl ?_
      refine l_move rfl rfl ?_
      refine l_guard_yes rfl rfl ?_
      refine l_eql rfl rfl rfl ?_
      refine l_pick_t rfl rfl rfl ?_
      refine l_assign rfl rfl ?_
      refine l_nil ?_
      refine g_ret Try.func10 rfl (.tmp rfl .nil) ?_
      refine Gives.mki ⟨?_, W, hW, hU, rfl⟩
      (first | rfl | (simp only [resVal, decide_true, Bool.and_true, Bool.true_and, beq_self_eq_true]))
    · intro hbr
      first | (exfalso; simp at hbr; done) | (exfalso; simp at hbr; omega)
  · intro hbr
    have hbr := of_decide_eq_false hbr
    (exfalso; omega)
set_option maxHeartbeats 4000000 in
theorem one_look_out (w0 : World) (F : List Atom) (b g n c b2 g2 c2 : Nat) (W : List Int) (hW : W.length = n) (hc : n ≤ c) (hc2 : n ≤ c2) (hn : n ≤ 1073741824) (hU : U32s W) (kd at_ kk x : Int) (a0 : -9223372036854775808 ≤ at_) (a1 : at_ ≤ 9223372036854775807) (k0 : -9223372036854775808 ≤ kk) (k1 : kk ≤ 9223372036854775807) (x0 : 0 ≤ x) (x1 : x ≤ 4294967295) (hk : kd = 0) (h : ¬ inR n at_ 2) :
    CallK Try.prog 10 [.pointer (some ⟨b, 0, none⟩), .pointer (some ⟨b2, 0, none⟩), .agg [Value.int .i64 kd, .int .i64 at_, .int .i64 kk, .int .u32 x].toArray] w0 (Blk b (.cells [.slice (some ⟨g, 0, none⟩) n c].toArray 56 (0, 0)) :: Own 23 1 (.slice (some ⟨g, 0, none⟩) n c) n (ints .u32 W) :: Blk b2 (.cells [.slice (some ⟨g2, 0, none⟩) n c2].toArray 58 (0, 0)) :: Own 23 1 (.slice (some ⟨g2, 0, none⟩) n c2) n (ints .u32 W) :: F) (Gives w0 fun v F2 => v = .bool true ∧ ∃ W2, W2.length = n ∧ U32s W2 ∧ F2 = Blk b (.cells [.slice (some ⟨g, 0, none⟩) n c].toArray 56 (0, 0)) :: Own 23 1 (.slice (some ⟨g, 0, none⟩) n c) n (ints .u32 W2) :: Blk b2 (.cells [.slice (some ⟨g2, 0, none⟩) n c2].toArray 58 (0, 0)) :: Own 23 1 (.slice (some ⟨g2, 0, none⟩) n c2) n (ints .u32 W2) :: F) := by
  refine c_enter Try.func10 rfl rfl rfl ?_
  refine g_seq ?_
  refine g_region ?_
  refine l_boxs rfl rfl ?_; intro b5
  refine l_assign rfl rfl ?_
  refine l_nil ?_
  refine g_seq ?_
  refine g_seq ?_
  refine g_region ?_
  refine l_fieldAddr rfl fa_37_0 rfl ?_
  first | refine l_ld rfl Try.isAgg3 rfl rfl ?_ | refine l_ldw rfl Try.isAgg3 rfl (by omega) ?_
  refine l_nil ?_
  refine g_block ?_
  refine g_seq ?_
  refine g_region ?_
  refine l_eql rfl rfl rfl ?_
  refine l_assign rfl rfl ?_
  refine l_nil ?_
  refine g_cond rfl ?_ ?_
  · intro hbr
    have hbr := of_decide_eq_true hbr
    refine g_seq ?_
    refine g_region ?_
    refine l_move rfl rfl ?_
    refine l_fieldAddr rfl fa_37_1 rfl ?_
    first | refine l_ld rfl Try.isAgg3 rfl rfl ?_ | refine l_ldw rfl Try.isAgg3 rfl (by omega) ?_
    refine l_fronto g ?_
    refine l_frontb b ?_
    refine l_call rfl Try.call13 rfl (look_bad _ _ b g n c W hW hc hn _ (by omega) (by omega) h) ?_; rintro _ _ ⟨rfl, rfl⟩
    refine l_move rfl rfl ?_
    refine l_extract rfl rfl rfl ?_
    refine l_extract rfl rfl rfl ?_
    refine l_allocs rfl Try.zeroValue42 ?_; intro b7
    refine l_sts Try.sizeOf42 rfl rfl rfl rfl rfl ?_
    refine l_assign rfl rfl ?_
    refine l_nil ?_
    refine g_seq ?_
    refine g_region ?_
    refine l_move rfl rfl ?_
    refine l_fieldAddr rfl fa_37_1 rfl ?_
    first | refine l_ld rfl Try.isAgg3 rfl rfl ?_ | refine l_ldw rfl Try.isAgg3 rfl (by omega) ?_
    refine l_fronto g2 ?_
    refine l_frontb b2 ?_
    refine l_call rfl Try.call21 rfl (rlook_out _ _ b2 g2 n c2 W hW hc2 hn _ (by omega) (by omega) h) ?_; rintro _ _ ⟨rfl, rfl⟩
    refine l_move rfl rfl ?_
    refine l_extract rfl rfl rfl ?_
    refine l_extract rfl rfl rfl ?_
    refine l_extract rfl rfl rfl ?_
    refine l_assign rfl rfl ?_
    refine l_assign rfl rfl ?_
    refine l_assign rfl rfl ?_
    refine l_nil ?_
    refine g_seq ?_
    refine g_region ?_
    refine l_lds rfl Try.isAgg42 Try.sizeOf42 rfl rfl ?_
    refine l_move rfl rfl ?_
    refine l_move rfl rfl ?_
    refine l_build rfl rfl (fun w => bd_42_0_1 _ _ w) ?_
    refine l_bin rfl rfl rfl (fun w => run_eqGuard_agg w _ _ _ _ _ _ Try.eqGuardType42) (fun w => sqe_42 _ _ _ _ w) ?_
    refine l_move rfl rfl ?_
    refine l_split 46 rfl ?_ ?_
    · intro hbr
      refine l_guard_yes rfl rfl ?_
      refine l_move rfl rfl ?_
      refine l_guard_yes rfl rfl ?_
      refine l_move rfl rfl ?_
      refine l_guard_yes rfl rfl ?_
      refine l_eql rfl rfl rfl ?_
      refine l_pick_t rfl rfl rfl ?_
      refine l_assign rfl rfl ?_
      refine l_nil ?_
      refine g_ret Try.func10 rfl (.tmp rfl .nil) ?_
      refine Gives.mki ⟨?_, W, hW, hU, rfl⟩
      (first | rfl | (simp only [resVal, decide_true, Bool.and_true, Bool.true_and, beq_self_eq_true]))
    · intro hbr
      first | (exfalso; simp at hbr; done) | (exfalso; simp at hbr; omega)
  · intro hbr
    have hbr := of_decide_eq_false hbr
    (exfalso; omega)
set_option maxHeartbeats 4000000 in
theorem one_come_out (w0 : World) (F : List Atom) (b g n c b2 g2 c2 : Nat) (W : List Int) (hW : W.length = n) (hc : n ≤ c) (hc2 : n ≤ c2) (hn : n ≤ 1073741824) (hU : U32s W) (kd at_ kk x : Int) (a0 : -9223372036854775808 ≤ at_) (a1 : at_ ≤ 9223372036854775807) (k0 : -9223372036854775808 ≤ kk) (k1 : kk ≤ 9223372036854775807) (x0 : 0 ≤ x) (x1 : x ≤ 4294967295) (hk : kd = 1) (h : ¬ inR n at_ 2) :
    CallK Try.prog 10 [.pointer (some ⟨b, 0, none⟩), .pointer (some ⟨b2, 0, none⟩), .agg [Value.int .i64 kd, .int .i64 at_, .int .i64 kk, .int .u32 x].toArray] w0 (Blk b (.cells [.slice (some ⟨g, 0, none⟩) n c].toArray 56 (0, 0)) :: Own 23 1 (.slice (some ⟨g, 0, none⟩) n c) n (ints .u32 W) :: Blk b2 (.cells [.slice (some ⟨g2, 0, none⟩) n c2].toArray 58 (0, 0)) :: Own 23 1 (.slice (some ⟨g2, 0, none⟩) n c2) n (ints .u32 W) :: F) (Gives w0 fun v F2 => v = .bool true ∧ ∃ W2, W2.length = n ∧ U32s W2 ∧ F2 = Blk b (.cells [.slice (some ⟨g, 0, none⟩) n c].toArray 56 (0, 0)) :: Own 23 1 (.slice (some ⟨g, 0, none⟩) n c) n (ints .u32 W2) :: Blk b2 (.cells [.slice (some ⟨g2, 0, none⟩) n c2].toArray 58 (0, 0)) :: Own 23 1 (.slice (some ⟨g2, 0, none⟩) n c2) n (ints .u32 W2) :: F) := by
  refine c_enter Try.func10 rfl rfl rfl ?_
  refine g_seq ?_
  refine g_region ?_
  refine l_boxs rfl rfl ?_; intro b5
  refine l_assign rfl rfl ?_
  refine l_nil ?_
  refine g_seq ?_
  refine g_seq ?_
  refine g_region ?_
  refine l_fieldAddr rfl fa_37_0 rfl ?_
  first | refine l_ld rfl Try.isAgg3 rfl rfl ?_ | refine l_ldw rfl Try.isAgg3 rfl (by omega) ?_
  refine l_nil ?_
  refine g_block ?_
  refine g_seq ?_
  refine g_region ?_
  refine l_eql rfl rfl rfl ?_
  refine l_assign rfl rfl ?_
  refine l_nil ?_
  refine g_cond rfl ?_ ?_
  · intro hbr
    have hbr := of_decide_eq_true hbr
    (exfalso; omega)
  intro hbr
  have hbr := of_decide_eq_false hbr
  refine g_seq ?_
  refine g_region ?_
  refine l_eql rfl rfl rfl ?_
  refine l_assign rfl rfl ?_
  refine l_nil ?_
  refine g_cond rfl ?_ ?_
  · intro hbr
    have hbr := of_decide_eq_true hbr
    refine g_seq ?_
    refine g_region ?_
    refine l_move rfl rfl ?_
    refine l_fieldAddr rfl fa_37_1 rfl ?_
    first | refine l_ld rfl Try.isAgg3 rfl rfl ?_ | refine l_ldw rfl Try.isAgg3 rfl (by omega) ?_
    refine l_fieldAddr rfl fa_37_2 rfl ?_
    first | refine l_ld rfl Try.isAgg3 rfl rfl ?_ | refine l_ldw rfl Try.isAgg3 rfl (by omega) ?_
    refine l_fronto g ?_
    refine l_frontb b ?_
    refine l_call rfl Try.call14 rfl (come_out _ _ b g n c W hW hc hn _ (by omega) (by omega) h _ (by omega) (by omega)) ?_; rintro _ _ ⟨rfl, rfl⟩
    refine l_move rfl rfl ?_
    refine l_extract rfl rfl rfl ?_
    refine l_extract rfl rfl rfl ?_
    refine l_assign rfl rfl ?_
    refine l_assign rfl rfl ?_
    refine l_nil ?_
    refine g_seq ?_
    refine g_region ?_
    refine l_move rfl rfl ?_
    refine l_fieldAddr rfl fa_37_1 rfl ?_
    first | refine l_ld rfl Try.isAgg3 rfl rfl ?_ | refine l_ldw rfl Try.isAgg3 rfl (by omega) ?_
    refine l_fieldAddr rfl fa_37_2 rfl ?_
    first | refine l_ld rfl Try.isAgg3 rfl rfl ?_ | refine l_ldw rfl Try.isAgg3 rfl (by omega) ?_
    refine l_fronto g2 ?_
    refine l_frontb b2 ?_
    refine l_call rfl Try.call22 rfl (rcome_out _ _ b2 g2 n c2 W hW hc2 hn _ (by omega) (by omega) h _ (by omega) (by omega)) ?_; rintro _ _ ⟨rfl, rfl⟩
    refine l_move rfl rfl ?_
    refine l_extract rfl rfl rfl ?_
    refine l_extract rfl rfl rfl ?_
    refine l_assign rfl rfl ?_
    refine l_assign rfl rfl ?_
    refine l_nil ?_
    refine g_seq ?_
    refine g_region ?_
    refine l_move rfl rfl ?_
    refine l_move rfl rfl ?_
    refine l_eqlb rfl Try.underlying4 rfl rfl ?_
    refine l_move rfl rfl ?_
    refine l_split 74 rfl ?_ ?_
    · intro hbr
      refine l_guard_yes rfl rfl ?_
      refine l_move rfl rfl ?_
      refine l_guard_yes rfl rfl ?_
      refine l_move rfl rfl ?_
      refine l_guard_yes rfl rfl ?_
      refine l_eql rfl rfl rfl ?_
      refine l_pick_t rfl rfl rfl ?_
      refine l_assign rfl rfl ?_
      refine l_nil ?_
      refine g_ret Try.func10 rfl (.tmp rfl .nil) ?_
      refine Gives.mki ⟨?_, W, hW, hU, rfl⟩
      (first | rfl | (simp only [resVal, decide_true, Bool.and_true, Bool.true_and, beq_self_eq_true]))
    · intro hbr
      first | (exfalso; simp at hbr; done) | (exfalso; simp at hbr; omega)
  · intro hbr
    have hbr := of_decide_eq_false hbr
    (exfalso; omega)
set_option maxHeartbeats 4000000 in
theorem one_come_bad (w0 : World) (F : List Atom) (b g n c b2 g2 c2 : Nat) (W : List Int) (hW : W.length = n) (hc : n ≤ c) (hc2 : n ≤ c2) (hn : n ≤ 1073741824) (hU : U32s W) (kd at_ kk x : Int) (a0 : -9223372036854775808 ≤ at_) (a1 : at_ ≤ 9223372036854775807) (k0 : -9223372036854775808 ≤ kk) (k1 : kk ≤ 9223372036854775807) (x0 : 0 ≤ x) (x1 : x ≤ 4294967295) (hk : kd = 1) (h : inR n at_ 2) (hq : ¬ (1 ≤ kk ∧ kk ≤ 4)) :
    CallK Try.prog 10 [.pointer (some ⟨b, 0, none⟩), .pointer (some ⟨b2, 0, none⟩), .agg [Value.int .i64 kd, .int .i64 at_, .int .i64 kk, .int .u32 x].toArray] w0 (Blk b (.cells [.slice (some ⟨g, 0, none⟩) n c].toArray 56 (0, 0)) :: Own 23 1 (.slice (some ⟨g, 0, none⟩) n c) n (ints .u32 W) :: Blk b2 (.cells [.slice (some ⟨g2, 0, none⟩) n c2].toArray 58 (0, 0)) :: Own 23 1 (.slice (some ⟨g2, 0, none⟩) n c2) n (ints .u32 W) :: F) (Gives w0 fun v F2 => v = .bool true ∧ ∃ W2, W2.length = n ∧ U32s W2 ∧ F2 = Blk b (.cells [.slice (some ⟨g, 0, none⟩) n c].toArray 56 (0, 0)) :: Own 23 1 (.slice (some ⟨g, 0, none⟩) n c) n (ints .u32 W2) :: Blk b2 (.cells [.slice (some ⟨g2, 0, none⟩) n c2].toArray 58 (0, 0)) :: Own 23 1 (.slice (some ⟨g2, 0, none⟩) n c2) n (ints .u32 W2) :: F) := by
  refine c_enter Try.func10 rfl rfl rfl ?_
  refine g_seq ?_
  refine g_region ?_
  refine l_boxs rfl rfl ?_; intro b5
  refine l_assign rfl rfl ?_
  refine l_nil ?_
  refine g_seq ?_
  refine g_seq ?_
  refine g_region ?_
  refine l_fieldAddr rfl fa_37_0 rfl ?_
  first | refine l_ld rfl Try.isAgg3 rfl rfl ?_ | refine l_ldw rfl Try.isAgg3 rfl (by omega) ?_
  refine l_nil ?_
  refine g_block ?_
  refine g_seq ?_
  refine g_region ?_
  refine l_eql rfl rfl rfl ?_
  refine l_assign rfl rfl ?_
  refine l_nil ?_
  refine g_cond rfl ?_ ?_
  · intro hbr
    have hbr := of_decide_eq_true hbr
    (exfalso; omega)
  intro hbr
  have hbr := of_decide_eq_false hbr
  refine g_seq ?_
  refine g_region ?_
  refine l_eql rfl rfl rfl ?_
  refine l_assign rfl rfl ?_
  refine l_nil ?_
  refine g_cond rfl ?_ ?_
  · intro hbr
    have hbr := of_decide_eq_true hbr
    refine g_seq ?_
    refine g_region ?_
    refine l_move rfl rfl ?_
    refine l_fieldAddr rfl fa_37_1 rfl ?_
    first | refine l_ld rfl Try.isAgg3 rfl rfl ?_ | refine l_ldw rfl Try.isAgg3 rfl (by omega) ?_
    refine l_fieldAddr rfl fa_37_2 rfl ?_
    first | refine l_ld rfl Try.isAgg3 rfl rfl ?_ | refine l_ldw rfl Try.isAgg3 rfl (by omega) ?_
    refine l_fronto g ?_
    refine l_frontb b ?_
    refine l_call rfl Try.call14 rfl (come_bad _ _ b g n c W hW hc hn hU _ (by omega) h _ (by omega) (by omega) hq) ?_; rintro _ _ ⟨rfl, rfl⟩
    refine l_move rfl rfl ?_
    refine l_extract rfl rfl rfl ?_
    refine l_extract rfl rfl rfl ?_
    refine l_assign rfl rfl ?_
    refine l_assign rfl rfl ?_
    refine l_nil ?_
    refine g_seq ?_
    refine g_region ?_
    refine l_move rfl rfl ?_
    refine l_fieldAddr rfl fa_37_1 rfl ?_
    first | refine l_ld rfl Try.isAgg3 rfl rfl ?_ | refine l_ldw rfl Try.isAgg3 rfl (by omega) ?_
    refine l_fieldAddr rfl fa_37_2 rfl ?_
    first | refine l_ld rfl Try.isAgg3 rfl rfl ?_ | refine l_ldw rfl Try.isAgg3 rfl (by omega) ?_
    refine l_fronto g2 ?_
    refine l_frontb b2 ?_
    refine l_call rfl Try.call22 rfl (rcome_bad _ _ b2 g2 n c2 W hW hc2 hn hU _ (by omega) h _ (by omega) (by omega) hq) ?_; rintro _ _ ⟨rfl, rfl⟩
    refine l_move rfl rfl ?_
    refine l_extract rfl rfl rfl ?_
    refine l_extract rfl rfl rfl ?_
    refine l_assign rfl rfl ?_
    refine l_assign rfl rfl ?_
    refine l_nil ?_
    refine g_seq ?_
    refine g_region ?_
    refine l_move rfl rfl ?_
    refine l_move rfl rfl ?_
    refine l_eqlb rfl Try.underlying4 rfl rfl ?_
    refine l_move rfl rfl ?_
    refine l_split 74 rfl ?_ ?_
    · intro hbr
      refine l_guard_yes rfl rfl ?_
      refine l_move rfl rfl ?_
      refine l_guard_yes rfl rfl ?_
      refine l_move rfl rfl ?_
      refine l_guard_yes rfl rfl ?_
      refine l_eql rfl rfl rfl ?_
      refine l_pick_t rfl rfl rfl ?_
      refine l_assign rfl rfl ?_
      refine l_nil ?_
      refine g_ret Try.func10 rfl (.tmp rfl .nil) ?_
      refine Gives.mki ⟨?_, W, hW, hU, rfl⟩
      (first | rfl | (simp only [resVal, decide_true, Bool.and_true, Bool.true_and, beq_self_eq_true]))
    · intro hbr
      first | (exfalso; simp at hbr; done) | (exfalso; simp at hbr; omega)
  · intro hbr
    have hbr := of_decide_eq_false hbr
    (exfalso; omega)
set_option maxHeartbeats 4000000 in
theorem one_come_full (w0 : World) (F : List Atom) (b g n c b2 g2 c2 : Nat) (W : List Int) (hW : W.length = n) (hc : n ≤ c) (hc2 : n ≤ c2) (hn : n ≤ 1073741824) (hU : U32s W) (kd at_ kk x : Int) (a0 : -9223372036854775808 ≤ at_) (a1 : at_ ≤ 9223372036854775807) (k0 : -9223372036854775808 ≤ kk) (k1 : kk ≤ 9223372036854775807) (x0 : 0 ≤ x) (x1 : x ≤ 4294967295) (hk : kd = 1) (h : inR n at_ 2) (hq : 1 ≤ kk ∧ kk ≤ 4) (hf : kk ≤ W.getD at_.toNat 0) :
    CallK Try.prog 10 [.pointer (some ⟨b, 0, none⟩), .pointer (some ⟨b2, 0, none⟩), .agg [Value.int .i64 kd, .int .i64 at_, .int .i64 kk, .int .u32 x].toArray] w0 (Blk b (.cells [.slice (some ⟨g, 0, none⟩) n c].toArray 56 (0, 0)) :: Own 23 1 (.slice (some ⟨g, 0, none⟩) n c) n (ints .u32 W) :: Blk b2 (.cells [.slice (some ⟨g2, 0, none⟩) n c2].toArray 58 (0, 0)) :: Own 23 1 (.slice (some ⟨g2, 0, none⟩) n c2) n (ints .u32 W) :: F) (Gives w0 fun v F2 => v = .bool true ∧ ∃ W2, W2.length = n ∧ U32s W2 ∧ F2 = Blk b (.cells [.slice (some ⟨g, 0, none⟩) n c].toArray 56 (0, 0)) :: Own 23 1 (.slice (some ⟨g, 0, none⟩) n c) n (ints .u32 W2) :: Blk b2 (.cells [.slice (some ⟨g2, 0, none⟩) n c2].toArray 58 (0, 0)) :: Own 23 1 (.slice (some ⟨g2, 0, none⟩) n c2) n (ints .u32 W2) :: F) := by
  refine c_enter Try.func10 rfl rfl rfl ?_
  refine g_seq ?_
  refine g_region ?_
  refine l_boxs rfl rfl ?_; intro b5
  refine l_assign rfl rfl ?_
  refine l_nil ?_
  refine g_seq ?_
  refine g_seq ?_
  refine g_region ?_
  refine l_fieldAddr rfl fa_37_0 rfl ?_
  first | refine l_ld rfl Try.isAgg3 rfl rfl ?_ | refine l_ldw rfl Try.isAgg3 rfl (by omega) ?_
  refine l_nil ?_
  refine g_block ?_
  refine g_seq ?_
  refine g_region ?_
  refine l_eql rfl rfl rfl ?_
  refine l_assign rfl rfl ?_
  refine l_nil ?_
  refine g_cond rfl ?_ ?_
  · intro hbr
    have hbr := of_decide_eq_true hbr
    (exfalso; omega)
  intro hbr
  have hbr := of_decide_eq_false hbr
  refine g_seq ?_
  refine g_region ?_
  refine l_eql rfl rfl rfl ?_
  refine l_assign rfl rfl ?_
  refine l_nil ?_
  refine g_cond rfl ?_ ?_
  · intro hbr
    have hbr := of_decide_eq_true hbr
    refine g_seq ?_
    refine g_region ?_
    refine l_move rfl rfl ?_
    refine l_fieldAddr rfl fa_37_1 rfl ?_
    first | refine l_ld rfl Try.isAgg3 rfl rfl ?_ | refine l_ldw rfl Try.isAgg3 rfl (by omega) ?_
    refine l_fieldAddr rfl fa_37_2 rfl ?_
    first | refine l_ld rfl Try.isAgg3 rfl rfl ?_ | refine l_ldw rfl Try.isAgg3 rfl (by omega) ?_
    refine l_fronto g ?_
    refine l_frontb b ?_
    refine l_call rfl Try.call14 rfl (come_full _ _ b g n c W hW hc hn hU _ (by omega) h _ (by omega) (by omega) hq hf) ?_; rintro _ _ ⟨rfl, rfl⟩
    refine l_move rfl rfl ?_
    refine l_extract rfl rfl rfl ?_
    refine l_extract rfl rfl rfl ?_
    refine l_assign rfl rfl ?_
    refine l_assign rfl rfl ?_
    refine l_nil ?_
    refine g_seq ?_
    refine g_region ?_
    refine l_move rfl rfl ?_
    refine l_fieldAddr rfl fa_37_1 rfl ?_
    first | refine l_ld rfl Try.isAgg3 rfl rfl ?_ | refine l_ldw rfl Try.isAgg3 rfl (by omega) ?_
    refine l_fieldAddr rfl fa_37_2 rfl ?_
    first | refine l_ld rfl Try.isAgg3 rfl rfl ?_ | refine l_ldw rfl Try.isAgg3 rfl (by omega) ?_
    refine l_fronto g2 ?_
    refine l_frontb b2 ?_
    refine l_call rfl Try.call22 rfl (rcome_full _ _ b2 g2 n c2 W hW hc2 hn hU _ (by omega) h _ (by omega) (by omega) hq hf) ?_; rintro _ _ ⟨rfl, rfl⟩
    refine l_move rfl rfl ?_
    refine l_extract rfl rfl rfl ?_
    refine l_extract rfl rfl rfl ?_
    refine l_assign rfl rfl ?_
    refine l_assign rfl rfl ?_
    refine l_nil ?_
    refine g_seq ?_
    refine g_region ?_
    refine l_move rfl rfl ?_
    refine l_move rfl rfl ?_
    refine l_eqlb rfl Try.underlying4 rfl rfl ?_
    refine l_move rfl rfl ?_
    refine l_split 74 rfl ?_ ?_
    · intro hbr
      refine l_guard_yes rfl rfl ?_
      refine l_move rfl rfl ?_
      refine l_guard_yes rfl rfl ?_
      refine l_move rfl rfl ?_
      refine l_guard_yes rfl rfl ?_
      refine l_eql rfl rfl rfl ?_
      refine l_pick_t rfl rfl rfl ?_
      refine l_assign rfl rfl ?_
      refine l_nil ?_
      refine g_ret Try.func10 rfl (.tmp rfl .nil) ?_
      refine Gives.mki ⟨?_, W, hW, hU, rfl⟩
      (first | rfl | (simp only [resVal, decide_true, Bool.and_true, Bool.true_and, beq_self_eq_true]))
    · intro hbr
      first | (exfalso; simp at hbr; done) | (exfalso; simp at hbr; omega)
  · intro hbr
    have hbr := of_decide_eq_false hbr
    (exfalso; omega)
set_option maxHeartbeats 4000000 in
theorem one_come_ok (w0 : World) (F : List Atom) (b g n c b2 g2 c2 : Nat) (W : List Int) (hW : W.length = n) (hc : n ≤ c) (hc2 : n ≤ c2) (hn : n ≤ 1073741824) (hU : U32s W) (kd at_ kk x : Int) (a0 : -9223372036854775808 ≤ at_) (a1 : at_ ≤ 9223372036854775807) (k0 : -9223372036854775808 ≤ kk) (k1 : kk ≤ 9223372036854775807) (x0 : 0 ≤ x) (x1 : x ≤ 4294967295) (hk : kd = 1) (h : inR n at_ 2) (hq : 1 ≤ kk ∧ kk ≤ 4) (hf : ¬ kk ≤ W.getD at_.toNat 0) :
    CallK Try.prog 10 [.pointer (some ⟨b, 0, none⟩), .pointer (some ⟨b2, 0, none⟩), .agg [Value.int .i64 kd, .int .i64 at_, .int .i64 kk, .int .u32 x].toArray] w0 (Blk b (.cells [.slice (some ⟨g, 0, none⟩) n c].toArray 56 (0, 0)) :: Own 23 1 (.slice (some ⟨g, 0, none⟩) n c) n (ints .u32 W) :: Blk b2 (.cells [.slice (some ⟨g2, 0, none⟩) n c2].toArray 58 (0, 0)) :: Own 23 1 (.slice (some ⟨g2, 0, none⟩) n c2) n (ints .u32 W) :: F) (Gives w0 fun v F2 => v = .bool true ∧ ∃ W2, W2.length = n ∧ U32s W2 ∧ F2 = Blk b (.cells [.slice (some ⟨g, 0, none⟩) n c].toArray 56 (0, 0)) :: Own 23 1 (.slice (some ⟨g, 0, none⟩) n c) n (ints .u32 W2) :: Blk b2 (.cells [.slice (some ⟨g2, 0, none⟩) n c2].toArray 58 (0, 0)) :: Own 23 1 (.slice (some ⟨g2, 0, none⟩) n c2) n (ints .u32 W2) :: F) := by
  obtain ⟨h0, _, h2, h3⟩ := (show 0 ≤ at_ ∧ (0:Int) ≤ 2 ∧ at_ ≤ n ∧ (2:Int) ≤ n - at_ from h)
  obtain ⟨u0, u1⟩ := hU at_.toNat
  refine c_enter Try.func10 rfl rfl rfl ?_
  refine g_seq ?_
  refine g_region ?_
  refine l_boxs rfl rfl ?_; intro b5
  refine l_assign rfl rfl ?_
  refine l_nil ?_
  refine g_seq ?_
  refine g_seq ?_
  refine g_region ?_
  refine l_fieldAddr rfl fa_37_0 rfl ?_
  first | refine l_ld rfl Try.isAgg3 rfl rfl ?_ | refine l_ldw rfl Try.isAgg3 rfl (by omega) ?_
  refine l_nil ?_
  refine g_block ?_
  refine g_seq ?_
  refine g_region ?_
  refine l_eql rfl rfl rfl ?_
  refine l_assign rfl rfl ?_
  refine l_nil ?_
  refine g_cond rfl ?_ ?_
  · intro hbr
    have hbr := of_decide_eq_true hbr
    (exfalso; omega)
  intro hbr
  have hbr := of_decide_eq_false hbr
  refine g_seq ?_
  refine g_region ?_
  refine l_eql rfl rfl rfl ?_
  refine l_assign rfl rfl ?_
  refine l_nil ?_
  refine g_cond rfl ?_ ?_
  · intro hbr
    have hbr := of_decide_eq_true hbr
    refine g_seq ?_
    refine g_region ?_
    refine l_move rfl rfl ?_
    refine l_fieldAddr rfl fa_37_1 rfl ?_
    first | refine l_ld rfl Try.isAgg3 rfl rfl ?_ | refine l_ldw rfl Try.isAgg3 rfl (by omega) ?_
    refine l_fieldAddr rfl fa_37_2 rfl ?_
    first | refine l_ld rfl Try.isAgg3 rfl rfl ?_ | refine l_ldw rfl Try.isAgg3 rfl (by omega) ?_
    refine l_fronto g ?_
    refine l_frontb b ?_
    refine l_call rfl Try.call14 rfl (come_ok _ _ b g n c W hW hc hn hU _ (by omega) h _ (by omega) (by omega) hq hf) ?_; rintro _ _ ⟨rfl, rfl⟩
    refine l_move rfl rfl ?_
    refine l_extract rfl rfl rfl ?_
    refine l_extract rfl rfl rfl ?_
    refine l_assign rfl rfl ?_
    refine l_assign rfl rfl ?_
    refine l_nil ?_
    refine g_seq ?_
    refine g_region ?_
    refine l_move rfl rfl ?_
    refine l_fieldAddr rfl fa_37_1 rfl ?_
    first | refine l_ld rfl Try.isAgg3 rfl rfl ?_ | refine l_ldw rfl Try.isAgg3 rfl (by omega) ?_
    refine l_fieldAddr rfl fa_37_2 rfl ?_
    first | refine l_ld rfl Try.isAgg3 rfl rfl ?_ | refine l_ldw rfl Try.isAgg3 rfl (by omega) ?_
    refine l_fronto g2 ?_
    refine l_frontb b2 ?_
    refine l_call rfl Try.call22 rfl (rcome_ok _ _ b2 g2 n c2 W hW hc2 hn hU _ (by omega) h _ (by omega) (by omega) hq hf) ?_; rintro _ _ ⟨rfl, rfl⟩
    refine l_move rfl rfl ?_
    refine l_extract rfl rfl rfl ?_
    refine l_extract rfl rfl rfl ?_
    refine l_assign rfl rfl ?_
    refine l_assign rfl rfl ?_
    refine l_nil ?_
    refine g_seq ?_
    refine g_region ?_
    refine l_move rfl rfl ?_
    refine l_move rfl rfl ?_
    refine l_eqlb rfl Try.underlying4 rfl rfl ?_
    refine l_move rfl rfl ?_
    refine l_split 74 rfl ?_ ?_
    · intro hbr
      refine l_guard_yes rfl rfl ?_
      refine l_move rfl rfl ?_
      refine l_guard_yes rfl rfl ?_
      refine l_move rfl rfl ?_
      refine l_guard_yes rfl rfl ?_
      refine l_eql rfl rfl rfl ?_
      refine l_pick_t rfl rfl rfl ?_
      refine l_assign rfl rfl ?_
      refine l_nil ?_
      refine g_ret Try.func10 rfl (.tmp rfl .nil) ?_
      refine Gives.mki ⟨?_, (W.set at_.toNat (W.getD at_.toNat 0 + 1)), (by simpa using hW), (hU.set (by omega) _), rfl⟩
      (first | rfl | (simp only [resVal, decide_true, Bool.and_true, Bool.true_and, beq_self_eq_true]))
    · intro hbr
      first | (exfalso; simp at hbr; done) | (exfalso; simp at hbr; omega)
  · intro hbr
    have hbr := of_decide_eq_false hbr
    (exfalso; omega)
set_option maxHeartbeats 4000000 in
theorem one_open_out (w0 : World) (F : List Atom) (b g n c b2 g2 c2 : Nat) (W : List Int) (hW : W.length = n) (hc : n ≤ c) (hc2 : n ≤ c2) (hn : n ≤ 1073741824) (hU : U32s W) (kd at_ kk x : Int) (a0 : -9223372036854775808 ≤ at_) (a1 : at_ ≤ 9223372036854775807) (k0 : -9223372036854775808 ≤ kk) (k1 : kk ≤ 9223372036854775807) (x0 : 0 ≤ x) (x1 : x ≤ 4294967295) (hk : kd = 2) (h : ¬ inR n at_ 2) :
    CallK Try.prog 10 [.pointer (some ⟨b, 0, none⟩), .pointer (some ⟨b2, 0, none⟩), .agg [Value.int .i64 kd, .int .i64 at_, .int .i64 kk, .int .u32 x].toArray] w0 (Blk b (.cells [.slice (some ⟨g, 0, none⟩) n c].toArray 56 (0, 0)) :: Own 23 1 (.slice (some ⟨g, 0, none⟩) n c) n (ints .u32 W) :: Blk b2 (.cells [.slice (some ⟨g2, 0, none⟩) n c2].toArray 58 (0, 0)) :: Own 23 1 (.slice (some ⟨g2, 0, none⟩) n c2) n (ints .u32 W) :: F) (Gives w0 fun v F2 => v = .bool true ∧ ∃ W2, W2.length = n ∧ U32s W2 ∧ F2 = Blk b (.cells [.slice (some ⟨g, 0, none⟩) n c].toArray 56 (0, 0)) :: Own 23 1 (.slice (some ⟨g, 0, none⟩) n c) n (ints .u32 W2) :: Blk b2 (.cells [.slice (some ⟨g2, 0, none⟩) n c2].toArray 58 (0, 0)) :: Own 23 1 (.slice (some ⟨g2, 0, none⟩) n c2) n (ints .u32 W2) :: F) := by
  refine c_enter Try.func10 rfl rfl rfl ?_
  refine g_seq ?_
  refine g_region ?_
  refine l_boxs rfl rfl ?_; intro b5
  refine l_assign rfl rfl ?_
  refine l_nil ?_
  refine g_seq ?_
  refine g_seq ?_
  refine g_region ?_
  refine l_fieldAddr rfl fa_37_0 rfl ?_
  first | refine l_ld rfl Try.isAgg3 rfl rfl ?_ | refine l_ldw rfl Try.isAgg3 rfl (by omega) ?_
  refine l_nil ?_
  refine g_block ?_
  refine g_seq ?_
  refine g_region ?_
  refine l_eql rfl rfl rfl ?_
  refine l_assign rfl rfl ?_
  refine l_nil ?_
  refine g_cond rfl ?_ ?_
  · intro hbr
    have hbr := of_decide_eq_true hbr
    (exfalso; omega)
  intro hbr
  have hbr := of_decide_eq_false hbr
  refine g_seq ?_
  refine g_region ?_
  refine l_eql rfl rfl rfl ?_
  refine l_assign rfl rfl ?_
  refine l_nil ?_
  refine g_cond rfl ?_ ?_
  · intro hbr
    have hbr := of_decide_eq_true hbr
    (exfalso; omega)
  intro hbr
  have hbr := of_decide_eq_false hbr
  refine g_seq ?_
  refine g_region ?_
  refine l_eql rfl rfl rfl ?_
  refine l_assign rfl rfl ?_
  refine l_nil ?_
  refine g_cond rfl ?_ ?_
  · intro hbr
    have hbr := of_decide_eq_true hbr
    refine g_seq ?_
    refine gp_start mo (by kernel_rfl) (by kernel_rfl) ?_
    refine gp_quiet 0 rfl rfl rfl rfl rfl rfl (q_move rfl) ?_
    refine gp_quiet 1 rfl rfl rfl rfl rfl rfl (q_fieldAddr fa_37_1 rfl) ?_
    first | refine gp_quiet 2 rfl rfl rfl rfl rfl rfl (q_ld Try.isAgg3 rfl rfl) ?_ | refine gp_quiet 2 rfl rfl rfl rfl rfl rfl (q_ldw Try.isAgg3 rfl (by omega)) ?_
    refine gp_quiet 3 rfl rfl rfl rfl rfl rfl (q_fieldAddr fa_37_2 rfl) ?_
    first | refine gp_quiet 4 rfl rfl rfl rfl rfl rfl (q_ld Try.isAgg3 rfl rfl) ?_ | refine gp_quiet 4 rfl rfl rfl rfl rfl rfl (q_ldw Try.isAgg3 rfl (by omega)) ?_
    refine gp_quiet 6 rfl rfl rfl rfl rfl rfl (q_move rfl) ?_
    refine gp_quiet 7 rfl rfl rfl rfl rfl rfl (q_fieldAddr fa_37_1 rfl) ?_
    first | refine gp_quiet 8 rfl rfl rfl rfl rfl rfl (q_ld Try.isAgg3 rfl rfl) ?_ | refine gp_quiet 8 rfl rfl rfl rfl rfl rfl (q_ldw Try.isAgg3 rfl (by omega)) ?_
    refine gp_quiet 9 rfl rfl rfl rfl rfl rfl (q_fieldAddr fa_37_2 rfl) ?_
    first | refine gp_quiet 10 rfl rfl rfl rfl rfl rfl (q_ld Try.isAgg3 rfl rfl) ?_ | refine gp_quiet 10 rfl rfl rfl rfl rfl rfl (q_ldw Try.isAgg3 rfl (by omega)) ?_
    refine gp_fronto g ?_
    refine gp_frontb b ?_
    refine gp_eff 5 rfl rfl rfl rfl rfl rfl (does_call Try.call15 rfl (open_out _ _ b g n c W hW hc hn _ (by omega) (by omega) h _ (by omega) (by omega))) ?_
    rintro _ _ ⟨rfl, rfl⟩
    refine ⟨?_, ?_⟩
    · first | refine .cons rfl rfl rfl rfl rfl (q_ld Try.isAgg3 rfl rfl) ?_ | refine .cons rfl rfl rfl rfl rfl (q_ldw Try.isAgg3 rfl (by omega)) ?_
      refine .cons rfl rfl rfl rfl rfl (q_fieldAddr fa_37_2 rfl) ?_
      first | refine .cons rfl rfl rfl rfl rfl (q_ld Try.isAgg3 rfl rfl) ?_ | refine .cons rfl rfl rfl rfl rfl (q_ldw Try.isAgg3 rfl (by omega)) ?_
      refine .cons rfl rfl rfl rfl rfl (q_fieldAddr fa_37_1 rfl) ?_
      refine .cons rfl rfl rfl rfl rfl (q_move rfl) ?_
      first | refine .cons rfl rfl rfl rfl rfl (q_ld Try.isAgg3 rfl rfl) ?_ | refine .cons rfl rfl rfl rfl rfl (q_ldw Try.isAgg3 rfl (by omega)) ?_
      refine .cons rfl rfl rfl rfl rfl (q_fieldAddr fa_37_2 rfl) ?_
      first | refine .cons rfl rfl rfl rfl rfl (q_ld Try.isAgg3 rfl rfl) ?_ | refine .cons rfl rfl rfl rfl rfl (q_ldw Try.isAgg3 rfl (by omega)) ?_
      refine .cons rfl rfl rfl rfl rfl (q_fieldAddr fa_37_1 rfl) ?_
      refine .cons rfl rfl rfl rfl rfl (q_move rfl) ?_
      exact .nil
    refine gp_fronto g2 ?_
    refine gp_frontb b2 ?_
    refine gp_eff 11 rfl rfl rfl rfl rfl rfl (does_call Try.call23 rfl (ropen_out _ _ b2 g2 n c2 W hW hc2 hn _ (by omega) (by omega) h _ (by omega) (by omega))) ?_
    rintro _ _ ⟨rfl, rfl⟩
    refine ⟨?_, ?_⟩
    · first | refine .cons rfl rfl rfl rfl rfl (q_ld Try.isAgg3 rfl rfl) ?_ | refine .cons rfl rfl rfl rfl rfl (q_ldw Try.isAgg3 rfl (by omega)) ?_
      refine .cons rfl rfl rfl rfl rfl (q_fieldAddr fa_37_2 rfl) ?_
      first | refine .cons rfl rfl rfl rfl rfl (q_ld Try.isAgg3 rfl rfl) ?_ | refine .cons rfl rfl rfl rfl rfl (q_ldw Try.isAgg3 rfl (by omega)) ?_
      refine .cons rfl rfl rfl rfl rfl (q_fieldAddr fa_37_1 rfl) ?_
      refine .cons rfl rfl rfl rfl rfl (q_move rfl) ?_
      first | refine .cons rfl rfl rfl rfl rfl (q_ld Try.isAgg3 rfl rfl) ?_ | refine .cons rfl rfl rfl rfl rfl (q_ldw Try.isAgg3 rfl (by omega)) ?_
      refine .cons rfl rfl rfl rfl rfl (q_fieldAddr fa_37_2 rfl) ?_
      first | refine .cons rfl rfl rfl rfl rfl (q_ld Try.isAgg3 rfl rfl) ?_ | refine .cons rfl rfl rfl rfl rfl (q_ldw Try.isAgg3 rfl (by omega)) ?_
      refine .cons rfl rfl rfl rfl rfl (q_fieldAddr fa_37_1 rfl) ?_
      refine .cons rfl rfl rfl rfl rfl (q_move rfl) ?_
      exact .nil
    refine gp_quiet 12 rfl rfl rfl rfl rfl rfl (q_eql rfl rfl) ?_
    refine gp_quiet 13 rfl rfl rfl rfl rfl rfl (q_assign rfl) ?_
    refine gp_end rfl rfl ?_
    refine g_ret Try.func10 rfl (.tmp rfl .nil) ?_
    refine Gives.mki ⟨?_, W, hW, hU, rfl⟩
    (first | rfl | (simp only [resVal, decide_true, Bool.and_true, Bool.true_and, beq_self_eq_true]))
  · intro hbr
    have hbr := of_decide_eq_false hbr
    (exfalso; omega)
set_option maxHeartbeats 4000000 in
theorem one_open_bad (w0 : World) (F : List Atom) (b g n c b2 g2 c2 : Nat) (W : List Int) (hW : W.length = n) (hc : n ≤ c) (hc2 : n ≤ c2) (hn : n ≤ 1073741824) (hU : U32s W) (kd at_ kk x : Int) (a0 : -9223372036854775808 ≤ at_) (a1 : at_ ≤ 9223372036854775807) (k0 : -9223372036854775808 ≤ kk) (k1 : kk ≤ 9223372036854775807) (x0 : 0 ≤ x) (x1 : x ≤ 4294967295) (hk : kd = 2) (h : inR n at_ 2) (hq : ¬ (1 ≤ kk ∧ kk ≤ 4)) :
    CallK Try.prog 10 [.pointer (some ⟨b, 0, none⟩), .pointer (some ⟨b2, 0, none⟩), .agg [Value.int .i64 kd, .int .i64 at_, .int .i64 kk, .int .u32 x].toArray] w0 (Blk b (.cells [.slice (some ⟨g, 0, none⟩) n c].toArray 56 (0, 0)) :: Own 23 1 (.slice (some ⟨g, 0, none⟩) n c) n (ints .u32 W) :: Blk b2 (.cells [.slice (some ⟨g2, 0, none⟩) n c2].toArray 58 (0, 0)) :: Own 23 1 (.slice (some ⟨g2, 0, none⟩) n c2) n (ints .u32 W) :: F) (Gives w0 fun v F2 => v = .bool true ∧ ∃ W2, W2.length = n ∧ U32s W2 ∧ F2 = Blk b (.cells [.slice (some ⟨g, 0, none⟩) n c].toArray 56 (0, 0)) :: Own 23 1 (.slice (some ⟨g, 0, none⟩) n c) n (ints .u32 W2) :: Blk b2 (.cells [.slice (some ⟨g2, 0, none⟩) n c2].toArray 58 (0, 0)) :: Own 23 1 (.slice (some ⟨g2, 0, none⟩) n c2) n (ints .u32 W2) :: F) := by
  refine c_enter Try.func10 rfl rfl rfl ?_
  refine g_seq ?_
  refine g_region ?_
  refine l_boxs rfl rfl ?_; intro b5
  refine l_assign rfl rfl ?_
  refine l_nil ?_
  refine g_seq ?_
  refine g_seq ?_
  refine g_region ?_
  refine l_fieldAddr rfl fa_37_0 rfl ?_
  first | refine l_ld rfl Try.isAgg3 rfl rfl ?_ | refine l_ldw rfl Try.isAgg3 rfl (by omega) ?_
  refine l_nil ?_
  refine g_block ?_
  refine g_seq ?_
  refine g_region ?_
  refine l_eql rfl rfl rfl ?_
  refine l_assign rfl rfl ?_
  refine l_nil ?_
  refine g_cond rfl ?_ ?_
  · intro hbr
    have hbr := of_decide_eq_true hbr
    (exfalso; omega)
  intro hbr
  have hbr := of_decide_eq_false hbr
  refine g_seq ?_
  refine g_region ?_
  refine l_eql rfl rfl rfl ?_
  refine l_assign rfl rfl ?_
  refine l_nil ?_
  refine g_cond rfl ?_ ?_
  · intro hbr
    have hbr := of_decide_eq_true hbr
    (exfalso; omega)
  intro hbr
  have hbr := of_decide_eq_false hbr
  refine g_seq ?_
  refine g_region ?_
  refine l_eql rfl rfl rfl ?_
  refine l_assign rfl rfl ?_
  refine l_nil ?_
  refine g_cond rfl ?_ ?_
  · intro hbr
    have hbr := of_decide_eq_true hbr
    refine g_seq ?_
    refine gp_start mo (by kernel_rfl) (by kernel_rfl) ?_
    refine gp_quiet 0 rfl rfl rfl rfl rfl rfl (q_move rfl) ?_
    refine gp_quiet 1 rfl rfl rfl rfl rfl rfl (q_fieldAddr fa_37_1 rfl) ?_
    first | refine gp_quiet 2 rfl rfl rfl rfl rfl rfl (q_ld Try.isAgg3 rfl rfl) ?_ | refine gp_quiet 2 rfl rfl rfl rfl rfl rfl (q_ldw Try.isAgg3 rfl (by omega)) ?_
    refine gp_quiet 3 rfl rfl rfl rfl rfl rfl (q_fieldAddr fa_37_2 rfl) ?_
    first | refine gp_quiet 4 rfl rfl rfl rfl rfl rfl (q_ld Try.isAgg3 rfl rfl) ?_ | refine gp_quiet 4 rfl rfl rfl rfl rfl rfl (q_ldw Try.isAgg3 rfl (by omega)) ?_
    refine gp_quiet 6 rfl rfl rfl rfl rfl rfl (q_move rfl) ?_
    refine gp_quiet 7 rfl rfl rfl rfl rfl rfl (q_fieldAddr fa_37_1 rfl) ?_
    first | refine gp_quiet 8 rfl rfl rfl rfl rfl rfl (q_ld Try.isAgg3 rfl rfl) ?_ | refine gp_quiet 8 rfl rfl rfl rfl rfl rfl (q_ldw Try.isAgg3 rfl (by omega)) ?_
    refine gp_quiet 9 rfl rfl rfl rfl rfl rfl (q_fieldAddr fa_37_2 rfl) ?_
    first | refine gp_quiet 10 rfl rfl rfl rfl rfl rfl (q_ld Try.isAgg3 rfl rfl) ?_ | refine gp_quiet 10 rfl rfl rfl rfl rfl rfl (q_ldw Try.isAgg3 rfl (by omega)) ?_
    refine gp_fronto g ?_
    refine gp_frontb b ?_
    refine gp_eff 5 rfl rfl rfl rfl rfl rfl (does_call Try.call15 rfl (open_bad _ _ b g n c W hW hc hn hU _ (by omega) h _ (by omega) (by omega) hq)) ?_
    rintro _ _ ⟨rfl, rfl⟩
    refine ⟨?_, ?_⟩
    · first | refine .cons rfl rfl rfl rfl rfl (q_ld Try.isAgg3 rfl rfl) ?_ | refine .cons rfl rfl rfl rfl rfl (q_ldw Try.isAgg3 rfl (by omega)) ?_
      refine .cons rfl rfl rfl rfl rfl (q_fieldAddr fa_37_2 rfl) ?_
      first | refine .cons rfl rfl rfl rfl rfl (q_ld Try.isAgg3 rfl rfl) ?_ | refine .cons rfl rfl rfl rfl rfl (q_ldw Try.isAgg3 rfl (by omega)) ?_
      refine .cons rfl rfl rfl rfl rfl (q_fieldAddr fa_37_1 rfl) ?_
      refine .cons rfl rfl rfl rfl rfl (q_move rfl) ?_
      first | refine .cons rfl rfl rfl rfl rfl (q_ld Try.isAgg3 rfl rfl) ?_ | refine .cons rfl rfl rfl rfl rfl (q_ldw Try.isAgg3 rfl (by omega)) ?_
      refine .cons rfl rfl rfl rfl rfl (q_fieldAddr fa_37_2 rfl) ?_
      first | refine .cons rfl rfl rfl rfl rfl (q_ld Try.isAgg3 rfl rfl) ?_ | refine .cons rfl rfl rfl rfl rfl (q_ldw Try.isAgg3 rfl (by omega)) ?_
      refine .cons rfl rfl rfl rfl rfl (q_fieldAddr fa_37_1 rfl) ?_
      refine .cons rfl rfl rfl rfl rfl (q_move rfl) ?_
      exact .nil
    refine gp_fronto g2 ?_
    refine gp_frontb b2 ?_
    refine gp_eff 11 rfl rfl rfl rfl rfl rfl (does_call Try.call23 rfl (ropen_bad _ _ b2 g2 n c2 W hW hc2 hn hU _ (by omega) h _ (by omega) (by omega) hq)) ?_
    rintro _ _ ⟨rfl, rfl⟩
    refine ⟨?_, ?_⟩
    · first | refine .cons rfl rfl rfl rfl rfl (q_ld Try.isAgg3 rfl rfl) ?_ | refine .cons rfl rfl rfl rfl rfl (q_ldw Try.isAgg3 rfl (by omega)) ?_
      refine .cons rfl rfl rfl rfl rfl (q_fieldAddr fa_37_2 rfl) ?_
      first | refine .cons rfl rfl rfl rfl rfl (q_ld Try.isAgg3 rfl rfl) ?_ | refine .cons rfl rfl rfl rfl rfl (q_ldw Try.isAgg3 rfl (by omega)) ?_
      refine .cons rfl rfl rfl rfl rfl (q_fieldAddr fa_37_1 rfl) ?_
      refine .cons rfl rfl rfl rfl rfl (q_move rfl) ?_
      first | refine .cons rfl rfl rfl rfl rfl (q_ld Try.isAgg3 rfl rfl) ?_ | refine .cons rfl rfl rfl rfl rfl (q_ldw Try.isAgg3 rfl (by omega)) ?_
      refine .cons rfl rfl rfl rfl rfl (q_fieldAddr fa_37_2 rfl) ?_
      first | refine .cons rfl rfl rfl rfl rfl (q_ld Try.isAgg3 rfl rfl) ?_ | refine .cons rfl rfl rfl rfl rfl (q_ldw Try.isAgg3 rfl (by omega)) ?_
      refine .cons rfl rfl rfl rfl rfl (q_fieldAddr fa_37_1 rfl) ?_
      refine .cons rfl rfl rfl rfl rfl (q_move rfl) ?_
      exact .nil
    refine gp_quiet 12 rfl rfl rfl rfl rfl rfl (q_eql rfl rfl) ?_
    refine gp_quiet 13 rfl rfl rfl rfl rfl rfl (q_assign rfl) ?_
    refine gp_end rfl rfl ?_
    refine g_ret Try.func10 rfl (.tmp rfl .nil) ?_
    refine Gives.mki ⟨?_, W, hW, hU, rfl⟩
    (first | rfl | (simp only [resVal, decide_true, Bool.and_true, Bool.true_and, beq_self_eq_true]))
  · intro hbr
    have hbr := of_decide_eq_false hbr
    (exfalso; omega)
set_option maxHeartbeats 4000000 in
theorem one_open_short (w0 : World) (F : List Atom) (b g n c b2 g2 c2 : Nat) (W : List Int) (hW : W.length = n) (hc : n ≤ c) (hc2 : n ≤ c2) (hn : n ≤ 1073741824) (hU : U32s W) (kd at_ kk x : Int) (a0 : -9223372036854775808 ≤ at_) (a1 : at_ ≤ 9223372036854775807) (k0 : -9223372036854775808 ≤ kk) (k1 : kk ≤ 9223372036854775807) (x0 : 0 ≤ x) (x1 : x ≤ 4294967295) (hk : kd = 2) (h : inR n at_ 2) (hq : 1 ≤ kk ∧ kk ≤ 4) (hf : W.getD at_.toNat 0 < kk) :
    CallK Try.prog 10 [.pointer (some ⟨b, 0, none⟩), .pointer (some ⟨b2, 0, none⟩), .agg [Value.int .i64 kd, .int .i64 at_, .int .i64 kk, .int .u32 x].toArray] w0 (Blk b (.cells [.slice (some ⟨g, 0, none⟩) n c].toArray 56 (0, 0)) :: Own 23 1 (.slice (some ⟨g, 0, none⟩) n c) n (ints .u32 W) :: Blk b2 (.cells [.slice (some ⟨g2, 0, none⟩) n c2].toArray 58 (0, 0)) :: Own 23 1 (.slice (some ⟨g2, 0, none⟩) n c2) n (ints .u32 W) :: F) (Gives w0 fun v F2 => v = .bool true ∧ ∃ W2, W2.length = n ∧ U32s W2 ∧ F2 = Blk b (.cells [.slice (some ⟨g, 0, none⟩) n c].toArray 56 (0, 0)) :: Own 23 1 (.slice (some ⟨g, 0, none⟩) n c) n (ints .u32 W2) :: Blk b2 (.cells [.slice (some ⟨g2, 0, none⟩) n c2].toArray 58 (0, 0)) :: Own 23 1 (.slice (some ⟨g2, 0, none⟩) n c2) n (ints .u32 W2) :: F) := by
  refine c_enter Try.func10 rfl rfl rfl ?_
  refine g_seq ?_
  refine g_region ?_
  refine l_boxs rfl rfl ?_; intro b5
  refine l_assign rfl rfl ?_
  refine l_nil ?_
  refine g_seq ?_
  refine g_seq ?_
  refine g_region ?_
  refine l_fieldAddr rfl fa_37_0 rfl ?_
  first | refine l_ld rfl Try.isAgg3 rfl rfl ?_ | refine l_ldw rfl Try.isAgg3 rfl (by omega) ?_
  refine l_nil ?_
  refine g_block ?_
  refine g_seq ?_
  refine g_region ?_
  refine l_eql rfl rfl rfl ?_
  refine l_assign rfl rfl ?_
  refine l_nil ?_
  refine g_cond rfl ?_ ?_
  · intro hbr
    have hbr := of_decide_eq_true hbr
    (exfalso; omega)
  intro hbr
  have hbr := of_decide_eq_false hbr
  refine g_seq ?_
  refine g_region ?_
  refine l_eql rfl rfl rfl ?_
  refine l_assign rfl rfl ?_
  refine l_nil ?_
  refine g_cond rfl ?_ ?_
  · intro hbr
    have hbr := of_decide_eq_true hbr
    (exfalso; omega)
  intro hbr
  have hbr := of_decide_eq_false hbr
  refine g_seq ?_
  refine g_region ?_
  refine l_eql rfl rfl rfl ?_
  refine l_assign rfl rfl ?_
  refine l_nil ?_
  refine g_cond rfl ?_ ?_
  · intro hbr
    have hbr := of_decide_eq_true hbr
    refine g_seq ?_
    refine gp_start mo (by kernel_rfl) (by kernel_rfl) ?_
    refine gp_quiet 0 rfl rfl rfl rfl rfl rfl (q_move rfl) ?_
    refine gp_quiet 1 rfl rfl rfl rfl rfl rfl (q_fieldAddr fa_37_1 rfl) ?_
    first | refine gp_quiet 2 rfl rfl rfl rfl rfl rfl (q_ld Try.isAgg3 rfl rfl) ?_ | refine gp_quiet 2 rfl rfl rfl rfl rfl rfl (q_ldw Try.isAgg3 rfl (by omega)) ?_
    refine gp_quiet 3 rfl rfl rfl rfl rfl rfl (q_fieldAddr fa_37_2 rfl) ?_
    first | refine gp_quiet 4 rfl rfl rfl rfl rfl rfl (q_ld Try.isAgg3 rfl rfl) ?_ | refine gp_quiet 4 rfl rfl rfl rfl rfl rfl (q_ldw Try.isAgg3 rfl (by omega)) ?_
    refine gp_quiet 6 rfl rfl rfl rfl rfl rfl (q_move rfl) ?_
    refine gp_quiet 7 rfl rfl rfl rfl rfl rfl (q_fieldAddr fa_37_1 rfl) ?_
    first | refine gp_quiet 8 rfl rfl rfl rfl rfl rfl (q_ld Try.isAgg3 rfl rfl) ?_ | refine gp_quiet 8 rfl rfl rfl rfl rfl rfl (q_ldw Try.isAgg3 rfl (by omega)) ?_
    refine gp_quiet 9 rfl rfl rfl rfl rfl rfl (q_fieldAddr fa_37_2 rfl) ?_
    first | refine gp_quiet 10 rfl rfl rfl rfl rfl rfl (q_ld Try.isAgg3 rfl rfl) ?_ | refine gp_quiet 10 rfl rfl rfl rfl rfl rfl (q_ldw Try.isAgg3 rfl (by omega)) ?_
    refine gp_fronto g ?_
    refine gp_frontb b ?_
    refine gp_eff 5 rfl rfl rfl rfl rfl rfl (does_call Try.call15 rfl (open_short _ _ b g n c W hW hc hn hU _ (by omega) h _ (by omega) (by omega) hq hf)) ?_
    rintro _ _ ⟨rfl, rfl⟩
    refine ⟨?_, ?_⟩
    · first | refine .cons rfl rfl rfl rfl rfl (q_ld Try.isAgg3 rfl rfl) ?_ | refine .cons rfl rfl rfl rfl rfl (q_ldw Try.isAgg3 rfl (by omega)) ?_
      refine .cons rfl rfl rfl rfl rfl (q_fieldAddr fa_37_2 rfl) ?_
      first | refine .cons rfl rfl rfl rfl rfl (q_ld Try.isAgg3 rfl rfl) ?_ | refine .cons rfl rfl rfl rfl rfl (q_ldw Try.isAgg3 rfl (by omega)) ?_
      refine .cons rfl rfl rfl rfl rfl (q_fieldAddr fa_37_1 rfl) ?_
      refine .cons rfl rfl rfl rfl rfl (q_move rfl) ?_
      first | refine .cons rfl rfl rfl rfl rfl (q_ld Try.isAgg3 rfl rfl) ?_ | refine .cons rfl rfl rfl rfl rfl (q_ldw Try.isAgg3 rfl (by omega)) ?_
      refine .cons rfl rfl rfl rfl rfl (q_fieldAddr fa_37_2 rfl) ?_
      first | refine .cons rfl rfl rfl rfl rfl (q_ld Try.isAgg3 rfl rfl) ?_ | refine .cons rfl rfl rfl rfl rfl (q_ldw Try.isAgg3 rfl (by omega)) ?_
      refine .cons rfl rfl rfl rfl rfl (q_fieldAddr fa_37_1 rfl) ?_
      refine .cons rfl rfl rfl rfl rfl (q_move rfl) ?_
      exact .nil
    refine gp_fronto g2 ?_
    refine gp_frontb b2 ?_
    refine gp_eff 11 rfl rfl rfl rfl rfl rfl (does_call Try.call23 rfl (ropen_short _ _ b2 g2 n c2 W hW hc2 hn hU _ (by omega) h _ (by omega) (by omega) hq hf)) ?_
    rintro _ _ ⟨rfl, rfl⟩
    refine ⟨?_, ?_⟩
    · first | refine .cons rfl rfl rfl rfl rfl (q_ld Try.isAgg3 rfl rfl) ?_ | refine .cons rfl rfl rfl rfl rfl (q_ldw Try.isAgg3 rfl (by omega)) ?_
      refine .cons rfl rfl rfl rfl rfl (q_fieldAddr fa_37_2 rfl) ?_
      first | refine .cons rfl rfl rfl rfl rfl (q_ld Try.isAgg3 rfl rfl) ?_ | refine .cons rfl rfl rfl rfl rfl (q_ldw Try.isAgg3 rfl (by omega)) ?_
      refine .cons rfl rfl rfl rfl rfl (q_fieldAddr fa_37_1 rfl) ?_
      refine .cons rfl rfl rfl rfl rfl (q_move rfl) ?_
      first | refine .cons rfl rfl rfl rfl rfl (q_ld Try.isAgg3 rfl rfl) ?_ | refine .cons rfl rfl rfl rfl rfl (q_ldw Try.isAgg3 rfl (by omega)) ?_
      refine .cons rfl rfl rfl rfl rfl (q_fieldAddr fa_37_2 rfl) ?_
      first | refine .cons rfl rfl rfl rfl rfl (q_ld Try.isAgg3 rfl rfl) ?_ | refine .cons rfl rfl rfl rfl rfl (q_ldw Try.isAgg3 rfl (by omega)) ?_
      refine .cons rfl rfl rfl rfl rfl (q_fieldAddr fa_37_1 rfl) ?_
      refine .cons rfl rfl rfl rfl rfl (q_move rfl) ?_
      exact .nil
    refine gp_quiet 12 rfl rfl rfl rfl rfl rfl (q_eql rfl rfl) ?_
    refine gp_quiet 13 rfl rfl rfl rfl rfl rfl (q_assign rfl) ?_
    refine gp_end rfl rfl ?_
    refine g_ret Try.func10 rfl (.tmp rfl .nil) ?_
    refine Gives.mki ⟨?_, W, hW, hU, rfl⟩
    (first | rfl | (simp only [resVal, decide_true, Bool.and_true, Bool.true_and, beq_self_eq_true]))
  · intro hbr
    have hbr := of_decide_eq_false hbr
    (exfalso; omega)
set_option maxHeartbeats 4000000 in
theorem one_open_full (w0 : World) (F : List Atom) (b g n c b2 g2 c2 : Nat) (W : List Int) (hW : W.length = n) (hc : n ≤ c) (hc2 : n ≤ c2) (hn : n ≤ 1073741824) (hU : U32s W) (kd at_ kk x : Int) (a0 : -9223372036854775808 ≤ at_) (a1 : at_ ≤ 9223372036854775807) (k0 : -9223372036854775808 ≤ kk) (k1 : kk ≤ 9223372036854775807) (x0 : 0 ≤ x) (x1 : x ≤ 4294967295) (hk : kd = 2) (h : inR n at_ 2) (hq : 1 ≤ kk ∧ kk ≤ 4) (hf : kk < W.getD at_.toNat 0) :
    CallK Try.prog 10 [.pointer (some ⟨b, 0, none⟩), .pointer (some ⟨b2, 0, none⟩), .agg [Value.int .i64 kd, .int .i64 at_, .int .i64 kk, .int .u32 x].toArray] w0 (Blk b (.cells [.slice (some ⟨g, 0, none⟩) n c].toArray 56 (0, 0)) :: Own 23 1 (.slice (some ⟨g, 0, none⟩) n c) n (ints .u32 W) :: Blk b2 (.cells [.slice (some ⟨g2, 0, none⟩) n c2].toArray 58 (0, 0)) :: Own 23 1 (.slice (some ⟨g2, 0, none⟩) n c2) n (ints .u32 W) :: F) (Gives w0 fun v F2 => v = .bool true ∧ ∃ W2, W2.length = n ∧ U32s W2 ∧ F2 = Blk b (.cells [.slice (some ⟨g, 0, none⟩) n c].toArray 56 (0, 0)) :: Own 23 1 (.slice (some ⟨g, 0, none⟩) n c) n (ints .u32 W2) :: Blk b2 (.cells [.slice (some ⟨g2, 0, none⟩) n c2].toArray 58 (0, 0)) :: Own 23 1 (.slice (some ⟨g2, 0, none⟩) n c2) n (ints .u32 W2) :: F) := by
  refine c_enter Try.func10 rfl rfl rfl ?_
  refine g_seq ?_
  refine g_region ?_
  refine l_boxs rfl rfl ?_; intro b5
  refine l_assign rfl rfl ?_
  refine l_nil ?_
  refine g_seq ?_
  refine g_seq ?_
  refine g_region ?_
  refine l_fieldAddr rfl fa_37_0 rfl ?_
  first | refine l_ld rfl Try.isAgg3 rfl rfl ?_ | refine l_ldw rfl Try.isAgg3 rfl (by omega) ?_
  refine l_nil ?_
  refine g_block ?_
  refine g_seq ?_
  refine g_region ?_
  refine l_eql rfl rfl rfl ?_
  refine l_assign rfl rfl ?_
  refine l_nil ?_
  refine g_cond rfl ?_ ?_
  · intro hbr
    have hbr := of_decide_eq_true hbr
    (exfalso; omega)
  intro hbr
  have hbr := of_decide_eq_false hbr
  refine g_seq ?_
  refine g_region ?_
  refine l_eql rfl rfl rfl ?_
  refine l_assign rfl rfl ?_
  refine l_nil ?_
  refine g_cond rfl ?_ ?_
  · intro hbr
    have hbr := of_decide_eq_true hbr
    (exfalso; omega)
  intro hbr
  have hbr := of_decide_eq_false hbr
  refine g_seq ?_
  refine g_region ?_
  refine l_eql rfl rfl rfl ?_
  refine l_assign rfl rfl ?_
  refine l_nil ?_
  refine g_cond rfl ?_ ?_
  · intro hbr
    have hbr := of_decide_eq_true hbr
    refine g_seq ?_
    refine gp_start mo (by kernel_rfl) (by kernel_rfl) ?_
    refine gp_quiet 0 rfl rfl rfl rfl rfl rfl (q_move rfl) ?_
    refine gp_quiet 1 rfl rfl rfl rfl rfl rfl (q_fieldAddr fa_37_1 rfl) ?_
    first | refine gp_quiet 2 rfl rfl rfl rfl rfl rfl (q_ld Try.isAgg3 rfl rfl) ?_ | refine gp_quiet 2 rfl rfl rfl rfl rfl rfl (q_ldw Try.isAgg3 rfl (by omega)) ?_
    refine gp_quiet 3 rfl rfl rfl rfl rfl rfl (q_fieldAddr fa_37_2 rfl) ?_
    first | refine gp_quiet 4 rfl rfl rfl rfl rfl rfl (q_ld Try.isAgg3 rfl rfl) ?_ | refine gp_quiet 4 rfl rfl rfl rfl rfl rfl (q_ldw Try.isAgg3 rfl (by omega)) ?_
    refine gp_quiet 6 rfl rfl rfl rfl rfl rfl (q_move rfl) ?_
    refine gp_quiet 7 rfl rfl rfl rfl rfl rfl (q_fieldAddr fa_37_1 rfl) ?_
    first | refine gp_quiet 8 rfl rfl rfl rfl rfl rfl (q_ld Try.isAgg3 rfl rfl) ?_ | refine gp_quiet 8 rfl rfl rfl rfl rfl rfl (q_ldw Try.isAgg3 rfl (by omega)) ?_
    refine gp_quiet 9 rfl rfl rfl rfl rfl rfl (q_fieldAddr fa_37_2 rfl) ?_
    first | refine gp_quiet 10 rfl rfl rfl rfl rfl rfl (q_ld Try.isAgg3 rfl rfl) ?_ | refine gp_quiet 10 rfl rfl rfl rfl rfl rfl (q_ldw Try.isAgg3 rfl (by omega)) ?_
    refine gp_fronto g ?_
    refine gp_frontb b ?_
    refine gp_eff 5 rfl rfl rfl rfl rfl rfl (does_call Try.call15 rfl (open_full _ _ b g n c W hW hc hn hU _ (by omega) h _ (by omega) (by omega) hq hf)) ?_
    rintro _ _ ⟨rfl, rfl⟩
    refine ⟨?_, ?_⟩
    · first | refine .cons rfl rfl rfl rfl rfl (q_ld Try.isAgg3 rfl rfl) ?_ | refine .cons rfl rfl rfl rfl rfl (q_ldw Try.isAgg3 rfl (by omega)) ?_
      refine .cons rfl rfl rfl rfl rfl (q_fieldAddr fa_37_2 rfl) ?_
      first | refine .cons rfl rfl rfl rfl rfl (q_ld Try.isAgg3 rfl rfl) ?_ | refine .cons rfl rfl rfl rfl rfl (q_ldw Try.isAgg3 rfl (by omega)) ?_
      refine .cons rfl rfl rfl rfl rfl (q_fieldAddr fa_37_1 rfl) ?_
      refine .cons rfl rfl rfl rfl rfl (q_move rfl) ?_
      first | refine .cons rfl rfl rfl rfl rfl (q_ld Try.isAgg3 rfl rfl) ?_ | refine .cons rfl rfl rfl rfl rfl (q_ldw Try.isAgg3 rfl (by omega)) ?_
      refine .cons rfl rfl rfl rfl rfl (q_fieldAddr fa_37_2 rfl) ?_
      first | refine .cons rfl rfl rfl rfl rfl (q_ld Try.isAgg3 rfl rfl) ?_ | refine .cons rfl rfl rfl rfl rfl (q_ldw Try.isAgg3 rfl (by omega)) ?_
      refine .cons rfl rfl rfl rfl rfl (q_fieldAddr fa_37_1 rfl) ?_
      refine .cons rfl rfl rfl rfl rfl (q_move rfl) ?_
      exact .nil
    refine gp_fronto g2 ?_
    refine gp_frontb b2 ?_
    refine gp_eff 11 rfl rfl rfl rfl rfl rfl (does_call Try.call23 rfl (ropen_full _ _ b2 g2 n c2 W hW hc2 hn hU _ (by omega) h _ (by omega) (by omega) hq hf)) ?_
    rintro _ _ ⟨rfl, rfl⟩
    refine ⟨?_, ?_⟩
    · first | refine .cons rfl rfl rfl rfl rfl (q_ld Try.isAgg3 rfl rfl) ?_ | refine .cons rfl rfl rfl rfl rfl (q_ldw Try.isAgg3 rfl (by omega)) ?_
      refine .cons rfl rfl rfl rfl rfl (q_fieldAddr fa_37_2 rfl) ?_
      first | refine .cons rfl rfl rfl rfl rfl (q_ld Try.isAgg3 rfl rfl) ?_ | refine .cons rfl rfl rfl rfl rfl (q_ldw Try.isAgg3 rfl (by omega)) ?_
      refine .cons rfl rfl rfl rfl rfl (q_fieldAddr fa_37_1 rfl) ?_
      refine .cons rfl rfl rfl rfl rfl (q_move rfl) ?_
      first | refine .cons rfl rfl rfl rfl rfl (q_ld Try.isAgg3 rfl rfl) ?_ | refine .cons rfl rfl rfl rfl rfl (q_ldw Try.isAgg3 rfl (by omega)) ?_
      refine .cons rfl rfl rfl rfl rfl (q_fieldAddr fa_37_2 rfl) ?_
      first | refine .cons rfl rfl rfl rfl rfl (q_ld Try.isAgg3 rfl rfl) ?_ | refine .cons rfl rfl rfl rfl rfl (q_ldw Try.isAgg3 rfl (by omega)) ?_
      refine .cons rfl rfl rfl rfl rfl (q_fieldAddr fa_37_1 rfl) ?_
      refine .cons rfl rfl rfl rfl rfl (q_move rfl) ?_
      exact .nil
    refine gp_quiet 12 rfl rfl rfl rfl rfl rfl (q_eql rfl rfl) ?_
    refine gp_quiet 13 rfl rfl rfl rfl rfl rfl (q_assign rfl) ?_
    refine gp_end rfl rfl ?_
    refine g_ret Try.func10 rfl (.tmp rfl .nil) ?_
    refine Gives.mki ⟨?_, W, hW, hU, rfl⟩
    (first | rfl | (simp only [resVal, decide_true, Bool.and_true, Bool.true_and, beq_self_eq_true]))
  · intro hbr
    have hbr := of_decide_eq_false hbr
    (exfalso; omega)
set_option maxHeartbeats 4000000 in
theorem one_open_ok (w0 : World) (F : List Atom) (b g n c b2 g2 c2 : Nat) (W : List Int) (hW : W.length = n) (hc : n ≤ c) (hc2 : n ≤ c2) (hn : n ≤ 1073741824) (hU : U32s W) (kd at_ kk x : Int) (a0 : -9223372036854775808 ≤ at_) (a1 : at_ ≤ 9223372036854775807) (k0 : -9223372036854775808 ≤ kk) (k1 : kk ≤ 9223372036854775807) (x0 : 0 ≤ x) (x1 : x ≤ 4294967295) (hk : kd = 2) (h : inR n at_ 2) (hq : 1 ≤ kk ∧ kk ≤ 4) (hf : W.getD at_.toNat 0 = kk) :
    CallK Try.prog 10 [.pointer (some ⟨b, 0, none⟩), .pointer (some ⟨b2, 0, none⟩), .agg [Value.int .i64 kd, .int .i64 at_, .int .i64 kk, .int .u32 x].toArray] w0 (Blk b (.cells [.slice (some ⟨g, 0, none⟩) n c].toArray 56 (0, 0)) :: Own 23 1 (.slice (some ⟨g, 0, none⟩) n c) n (ints .u32 W) :: Blk b2 (.cells [.slice (some ⟨g2, 0, none⟩) n c2].toArray 58 (0, 0)) :: Own 23 1 (.slice (some ⟨g2, 0, none⟩) n c2) n (ints .u32 W) :: F) (Gives w0 fun v F2 => v = .bool true ∧ ∃ W2, W2.length = n ∧ U32s W2 ∧ F2 = Blk b (.cells [.slice (some ⟨g, 0, none⟩) n c].toArray 56 (0, 0)) :: Own 23 1 (.slice (some ⟨g, 0, none⟩) n c) n (ints .u32 W2) :: Blk b2 (.cells [.slice (some ⟨g2, 0, none⟩) n c2].toArray 58 (0, 0)) :: Own 23 1 (.slice (some ⟨g2, 0, none⟩) n c2) n (ints .u32 W2) :: F) := by
  obtain ⟨h0, _, h2, h3⟩ := (show 0 ≤ at_ ∧ (0:Int) ≤ 2 ∧ at_ ≤ n ∧ (2:Int) ≤ n - at_ from h)
  obtain ⟨u0, u1⟩ := hU at_.toNat
  refine c_enter Try.func10 rfl rfl rfl ?_
  refine g_seq ?_
  refine g_region ?_
  refine l_boxs rfl rfl ?_; intro b5
  refine l_assign rfl rfl ?_
  refine l_nil ?_
  refine g_seq ?_
  refine g_seq ?_
  refine g_region ?_
  refine l_fieldAddr rfl fa_37_0 rfl ?_
  first | refine l_ld rfl Try.isAgg3 rfl rfl ?_ | refine l_ldw rfl Try.isAgg3 rfl (by omega) ?_
  refine l_nil ?_
  refine g_block ?_
  refine g_seq ?_
  refine g_region ?_
  refine l_eql rfl rfl rfl ?_
  refine l_assign rfl rfl ?_
  refine l_nil ?_
  refine g_cond rfl ?_ ?_
  · intro hbr
    have hbr := of_decide_eq_true hbr
    (exfalso; omega)
  intro hbr
  have hbr := of_decide_eq_false hbr
  refine g_seq ?_
  refine g_region ?_
  refine l_eql rfl rfl rfl ?_
  refine l_assign rfl rfl ?_
  refine l_nil ?_
  refine g_cond rfl ?_ ?_
  · intro hbr
    have hbr := of_decide_eq_true hbr
    (exfalso; omega)
  intro hbr
  have hbr := of_decide_eq_false hbr
  refine g_seq ?_
  refine g_region ?_
  refine l_eql rfl rfl rfl ?_
  refine l_assign rfl rfl ?_
  refine l_nil ?_
  refine g_cond rfl ?_ ?_
  · intro hbr
    have hbr := of_decide_eq_true hbr
    refine g_seq ?_
    refine gp_start mo (by kernel_rfl) (by kernel_rfl) ?_
    refine gp_quiet 0 rfl rfl rfl rfl rfl rfl (q_move rfl) ?_
    refine gp_quiet 1 rfl rfl rfl rfl rfl rfl (q_fieldAddr fa_37_1 rfl) ?_
    first | refine gp_quiet 2 rfl rfl rfl rfl rfl rfl (q_ld Try.isAgg3 rfl rfl) ?_ | refine gp_quiet 2 rfl rfl rfl rfl rfl rfl (q_ldw Try.isAgg3 rfl (by omega)) ?_
    refine gp_quiet 3 rfl rfl rfl rfl rfl rfl (q_fieldAddr fa_37_2 rfl) ?_
    first | refine gp_quiet 4 rfl rfl rfl rfl rfl rfl (q_ld Try.isAgg3 rfl rfl) ?_ | refine gp_quiet 4 rfl rfl rfl rfl rfl rfl (q_ldw Try.isAgg3 rfl (by omega)) ?_
    refine gp_quiet 6 rfl rfl rfl rfl rfl rfl (q_move rfl) ?_
    refine gp_quiet 7 rfl rfl rfl rfl rfl rfl (q_fieldAddr fa_37_1 rfl) ?_
    first | refine gp_quiet 8 rfl rfl rfl rfl rfl rfl (q_ld Try.isAgg3 rfl rfl) ?_ | refine gp_quiet 8 rfl rfl rfl rfl rfl rfl (q_ldw Try.isAgg3 rfl (by omega)) ?_
    refine gp_quiet 9 rfl rfl rfl rfl rfl rfl (q_fieldAddr fa_37_2 rfl) ?_
    first | refine gp_quiet 10 rfl rfl rfl rfl rfl rfl (q_ld Try.isAgg3 rfl rfl) ?_ | refine gp_quiet 10 rfl rfl rfl rfl rfl rfl (q_ldw Try.isAgg3 rfl (by omega)) ?_
    refine gp_fronto g ?_
    refine gp_frontb b ?_
    refine gp_eff 5 rfl rfl rfl rfl rfl rfl (does_call Try.call15 rfl (open_ok _ _ b g n c W hW hc hn hU _ (by omega) h _ (by omega) (by omega) hq hf)) ?_
    rintro _ _ ⟨rfl, rfl⟩
    refine ⟨?_, ?_⟩
    · first | refine .cons rfl rfl rfl rfl rfl (q_ld Try.isAgg3 rfl rfl) ?_ | refine .cons rfl rfl rfl rfl rfl (q_ldw Try.isAgg3 rfl (by omega)) ?_
      refine .cons rfl rfl rfl rfl rfl (q_fieldAddr fa_37_2 rfl) ?_
      first | refine .cons rfl rfl rfl rfl rfl (q_ld Try.isAgg3 rfl rfl) ?_ | refine .cons rfl rfl rfl rfl rfl (q_ldw Try.isAgg3 rfl (by omega)) ?_
      refine .cons rfl rfl rfl rfl rfl (q_fieldAddr fa_37_1 rfl) ?_
      refine .cons rfl rfl rfl rfl rfl (q_move rfl) ?_
      first | refine .cons rfl rfl rfl rfl rfl (q_ld Try.isAgg3 rfl rfl) ?_ | refine .cons rfl rfl rfl rfl rfl (q_ldw Try.isAgg3 rfl (by omega)) ?_
      refine .cons rfl rfl rfl rfl rfl (q_fieldAddr fa_37_2 rfl) ?_
      first | refine .cons rfl rfl rfl rfl rfl (q_ld Try.isAgg3 rfl rfl) ?_ | refine .cons rfl rfl rfl rfl rfl (q_ldw Try.isAgg3 rfl (by omega)) ?_
      refine .cons rfl rfl rfl rfl rfl (q_fieldAddr fa_37_1 rfl) ?_
      refine .cons rfl rfl rfl rfl rfl (q_move rfl) ?_
      exact .nil
    refine gp_fronto g2 ?_
    refine gp_frontb b2 ?_
    refine gp_eff 11 rfl rfl rfl rfl rfl rfl (does_call Try.call23 rfl (ropen_ok _ _ b2 g2 n c2 W hW hc2 hn hU _ (by omega) h _ (by omega) (by omega) hq hf)) ?_
    rintro _ _ ⟨rfl, rfl⟩
    refine ⟨?_, ?_⟩
    · first | refine .cons rfl rfl rfl rfl rfl (q_ld Try.isAgg3 rfl rfl) ?_ | refine .cons rfl rfl rfl rfl rfl (q_ldw Try.isAgg3 rfl (by omega)) ?_
      refine .cons rfl rfl rfl rfl rfl (q_fieldAddr fa_37_2 rfl) ?_
      first | refine .cons rfl rfl rfl rfl rfl (q_ld Try.isAgg3 rfl rfl) ?_ | refine .cons rfl rfl rfl rfl rfl (q_ldw Try.isAgg3 rfl (by omega)) ?_
      refine .cons rfl rfl rfl rfl rfl (q_fieldAddr fa_37_1 rfl) ?_
      refine .cons rfl rfl rfl rfl rfl (q_move rfl) ?_
      first | refine .cons rfl rfl rfl rfl rfl (q_ld Try.isAgg3 rfl rfl) ?_ | refine .cons rfl rfl rfl rfl rfl (q_ldw Try.isAgg3 rfl (by omega)) ?_
      refine .cons rfl rfl rfl rfl rfl (q_fieldAddr fa_37_2 rfl) ?_
      first | refine .cons rfl rfl rfl rfl rfl (q_ld Try.isAgg3 rfl rfl) ?_ | refine .cons rfl rfl rfl rfl rfl (q_ldw Try.isAgg3 rfl (by omega)) ?_
      refine .cons rfl rfl rfl rfl rfl (q_fieldAddr fa_37_1 rfl) ?_
      refine .cons rfl rfl rfl rfl rfl (q_move rfl) ?_
      exact .nil
    refine gp_quiet 12 rfl rfl rfl rfl rfl rfl (q_eql rfl rfl) ?_
    refine gp_quiet 13 rfl rfl rfl rfl rfl rfl (q_assign rfl) ?_
    refine gp_end rfl rfl ?_
    refine g_ret Try.func10 rfl (.tmp rfl .nil) ?_
    refine Gives.mki ⟨?_, ((W.set at_.toNat 0).set (at_.toNat + 1) ((W.getD (at_.toNat + 1) 0 + 1) % 4294967296)), (by simpa using hW), ((hU.set (by omega) _).set (by omega) _), rfl⟩
    (first | rfl | (simp only [resVal, decide_true, Bool.and_true, Bool.true_and, beq_self_eq_true]))
  · intro hbr
    have hbr := of_decide_eq_false hbr
    (exfalso; omega)
set_option maxHeartbeats 4000000 in
theorem one_both_11 (w0 : World) (F : List Atom) (b g n c b2 g2 c2 : Nat) (W : List Int) (hW : W.length = n) (hc : n ≤ c) (hc2 : n ≤ c2) (hn : n ≤ 1073741824) (hU : U32s W) (kd at_ kk x : Int) (a0 : -9223372036854775808 ≤ at_) (a1 : at_ ≤ 9223372036854775807) (k0 : -9223372036854775808 ≤ kk) (k1 : kk ≤ 9223372036854775807) (x0 : 0 ≤ x) (x1 : x ≤ 4294967295) (hk : kd = 3) (hm : at_ < 9223372036854775807) (h1 : inR n at_ 1) (h2 : inR n (at_ + 1) 1) :
    CallK Try.prog 10 [.pointer (some ⟨b, 0, none⟩), .pointer (some ⟨b2, 0, none⟩), .agg [Value.int .i64 kd, .int .i64 at_, .int .i64 kk, .int .u32 x].toArray] w0 (Blk b (.cells [.slice (some ⟨g, 0, none⟩) n c].toArray 56 (0, 0)) :: Own 23 1 (.slice (some ⟨g, 0, none⟩) n c) n (ints .u32 W) :: Blk b2 (.cells [.slice (some ⟨g2, 0, none⟩) n c2].toArray 58 (0, 0)) :: Own 23 1 (.slice (some ⟨g2, 0, none⟩) n c2) n (ints .u32 W) :: F) (Gives w0 fun v F2 => v = .bool true ∧ ∃ W2, W2.length = n ∧ U32s W2 ∧ F2 = Blk b (.cells [.slice (some ⟨g, 0, none⟩) n c].toArray 56 (0, 0)) :: Own 23 1 (.slice (some ⟨g, 0, none⟩) n c) n (ints .u32 W2) :: Blk b2 (.cells [.slice (some ⟨g2, 0, none⟩) n c2].toArray 58 (0, 0)) :: Own 23 1 (.slice (some ⟨g2, 0, none⟩) n c2) n (ints .u32 W2) :: F) := by
  refine c_enter Try.func10 rfl rfl rfl ?_
  refine g_seq ?_
  refine g_region ?_
  refine l_boxs rfl rfl ?_; intro b5
  refine l_assign rfl rfl ?_
  refine l_nil ?_
  refine g_seq ?_
  refine g_seq ?_
  refine g_region ?_
  refine l_fieldAddr rfl fa_37_0 rfl ?_
  first | refine l_ld rfl Try.isAgg3 rfl rfl ?_ | refine l_ldw rfl Try.isAgg3 rfl (by omega) ?_
  refine l_nil ?_
  refine g_block ?_
  refine g_seq ?_
  refine g_region ?_
  refine l_eql rfl rfl rfl ?_
  refine l_assign rfl rfl ?_
  refine l_nil ?_
  refine g_cond rfl ?_ ?_
  · intro hbr
    have hbr := of_decide_eq_true hbr
    (exfalso; omega)
  intro hbr
  have hbr := of_decide_eq_false hbr
  refine g_seq ?_
  refine g_region ?_
  refine l_eql rfl rfl rfl ?_
  refine l_assign rfl rfl ?_
  refine l_nil ?_
  refine g_cond rfl ?_ ?_
  · intro hbr
    have hbr := of_decide_eq_true hbr
    (exfalso; omega)
  intro hbr
  have hbr := of_decide_eq_false hbr
  refine g_seq ?_
  refine g_region ?_
  refine l_eql rfl rfl rfl ?_
  refine l_assign rfl rfl ?_
  refine l_nil ?_
  refine g_cond rfl ?_ ?_
  · intro hbr
    have hbr := of_decide_eq_true hbr
    (exfalso; omega)
  intro hbr
  have hbr := of_decide_eq_false hbr
  refine g_seq ?_
  refine g_region ?_
  refine l_eql rfl rfl rfl ?_
  refine l_assign rfl rfl ?_
  refine l_nil ?_
  refine g_cond rfl ?_ ?_
  · intro hbr
    have hbr := of_decide_eq_true hbr
    refine g_seq ?_
    refine g_region ?_
    refine l_move rfl rfl ?_
    refine l_fieldAddr rfl fa_37_1 rfl ?_
    first | refine l_ld rfl Try.isAgg3 rfl rfl ?_ | refine l_ldw rfl Try.isAgg3 rfl (by omega) ?_
    refine l_fieldAddr rfl fa_37_3 rfl ?_
    first | refine l_ld rfl Try.isAgg23 rfl rfl ?_ | refine l_ldw rfl Try.isAgg23 rfl (by omega) ?_
    refine l_fronto g ?_
    refine l_frontb b ?_
    refine l_call rfl Try.call18 rfl (write_ok _ _ b g n c W hW hc hn _ _ (by omega) h1) ?_; rintro _ _ ⟨rfl, rfl⟩
    refine l_assign rfl rfl ?_
    refine l_nil ?_
    refine g_seq ?_
    refine g_region ?_
    refine l_move rfl rfl ?_
    refine l_fieldAddr rfl fa_37_1 rfl ?_
    first | refine l_ld rfl Try.isAgg3 rfl rfl ?_ | refine l_ldw rfl Try.isAgg3 rfl (by omega) ?_
    refine l_fieldAddr rfl fa_37_3 rfl ?_
    first | refine l_ld rfl Try.isAgg23 rfl rfl ?_ | refine l_ldw rfl Try.isAgg23 rfl (by omega) ?_
    refine l_fronto g2 ?_
    refine l_frontb b2 ?_
    refine l_call rfl Try.call24 rfl (rwrite_ok _ _ b2 g2 n c2 W hW hc2 hn _ _ (by omega) h1) ?_; rintro _ _ ⟨rfl, rfl⟩
    refine l_assign rfl rfl ?_
    refine l_nil ?_
    refine g_seq ?_
    refine g_seq ?_
    refine g_region ?_
    refine l_move rfl rfl ?_
    refine l_move rfl rfl ?_
    refine l_neq rfl rfl rfl ?_
    refine l_nil ?_
    refine g_cond rfl ?_ ?_
    · intro hbr
      have hbr := of_decide_eq_true hbr
      (exfalso; omega)
    intro hbr
    have hbr := of_decide_eq_false hbr
    refine g_skip ?_
    refine g_seq ?_
    refine gp_start mo (by kernel_rfl) (by kernel_rfl) ?_
    refine gp_quiet 0 rfl rfl rfl rfl rfl rfl (q_move rfl) ?_
    refine gp_quiet 1 rfl rfl rfl rfl rfl rfl (q_fieldAddr fa_37_1 rfl) ?_
    first | refine gp_quiet 2 rfl rfl rfl rfl rfl rfl (q_ld Try.isAgg3 rfl rfl) ?_ | refine gp_quiet 2 rfl rfl rfl rfl rfl rfl (q_ldw Try.isAgg3 rfl (by omega)) ?_
    first | refine gp_quiet 3 rfl rfl rfl rfl rfl rfl (q_add rfl rfl (w_i64 (by omega) (by omega))) ?_ | refine gp_quiet 3 rfl rfl rfl rfl rfl rfl (q_addw rfl rfl) ?_
    refine gp_quiet 4 rfl rfl rfl rfl rfl rfl (q_fieldAddr fa_37_3 rfl) ?_
    first | refine gp_quiet 5 rfl rfl rfl rfl rfl rfl (q_ld Try.isAgg23 rfl rfl) ?_ | refine gp_quiet 5 rfl rfl rfl rfl rfl rfl (q_ldw Try.isAgg23 rfl (by omega)) ?_
    refine gp_quiet 6 rfl rfl rfl rfl rfl rfl (q_addm (m := 4294967296) wr_u32 rfl rfl) ?_
    refine gp_quiet 8 rfl rfl rfl rfl rfl rfl (q_move rfl) ?_
    refine gp_quiet 9 rfl rfl rfl rfl rfl rfl (q_fieldAddr fa_37_1 rfl) ?_
    first | refine gp_quiet 10 rfl rfl rfl rfl rfl rfl (q_ld Try.isAgg3 rfl rfl) ?_ | refine gp_quiet 10 rfl rfl rfl rfl rfl rfl (q_ldw Try.isAgg3 rfl (by omega)) ?_
    first | refine gp_quiet 11 rfl rfl rfl rfl rfl rfl (q_add rfl rfl (w_i64 (by omega) (by omega))) ?_ | refine gp_quiet 11 rfl rfl rfl rfl rfl rfl (q_addw rfl rfl) ?_
    refine gp_quiet 12 rfl rfl rfl rfl rfl rfl (q_fieldAddr fa_37_3 rfl) ?_
    first | refine gp_quiet 13 rfl rfl rfl rfl rfl rfl (q_ld Try.isAgg23 rfl rfl) ?_ | refine gp_quiet 13 rfl rfl rfl rfl rfl rfl (q_ldw Try.isAgg23 rfl (by omega)) ?_
    refine gp_quiet 14 rfl rfl rfl rfl rfl rfl (q_addm (m := 4294967296) wr_u32 rfl rfl) ?_
    refine gp_fronto g ?_
    refine gp_frontb b ?_
    refine gp_eff 7 rfl rfl rfl rfl rfl rfl (does_call Try.call18 rfl (write_ok _ _ b g n c (W.set at_.toNat x) (by simpa using hW) hc hn _ _ (by omega) h2)) ?_
    rintro _ _ ⟨rfl, rfl⟩
    refine ⟨?_, ?_⟩
    · refine .cons rfl rfl rfl rfl rfl (q_addm (m := 4294967296) wr_u32 rfl rfl) ?_
      first | refine .cons rfl rfl rfl rfl rfl (q_ld Try.isAgg23 rfl rfl) ?_ | refine .cons rfl rfl rfl rfl rfl (q_ldw Try.isAgg23 rfl (by omega)) ?_
      refine .cons rfl rfl rfl rfl rfl (q_fieldAddr fa_37_3 rfl) ?_
      first | refine .cons rfl rfl rfl rfl rfl (q_add rfl rfl (w_i64 (by omega) (by omega))) ?_ | refine .cons rfl rfl rfl rfl rfl (q_addw rfl rfl) ?_
      first | refine .cons rfl rfl rfl rfl rfl (q_ld Try.isAgg3 rfl rfl) ?_ | refine .cons rfl rfl rfl rfl rfl (q_ldw Try.isAgg3 rfl (by omega)) ?_
      refine .cons rfl rfl rfl rfl rfl (q_fieldAddr fa_37_1 rfl) ?_
      refine .cons rfl rfl rfl rfl rfl (q_move rfl) ?_
      refine .cons rfl rfl rfl rfl rfl (q_addm (m := 4294967296) wr_u32 rfl rfl) ?_
      first | refine .cons rfl rfl rfl rfl rfl (q_ld Try.isAgg23 rfl rfl) ?_ | refine .cons rfl rfl rfl rfl rfl (q_ldw Try.isAgg23 rfl (by omega)) ?_
      refine .cons rfl rfl rfl rfl rfl (q_fieldAddr fa_37_3 rfl) ?_
      first | refine .cons rfl rfl rfl rfl rfl (q_add rfl rfl (w_i64 (by omega) (by omega))) ?_ | refine .cons rfl rfl rfl rfl rfl (q_addw rfl rfl) ?_
      first | refine .cons rfl rfl rfl rfl rfl (q_ld Try.isAgg3 rfl rfl) ?_ | refine .cons rfl rfl rfl rfl rfl (q_ldw Try.isAgg3 rfl (by omega)) ?_
      refine .cons rfl rfl rfl rfl rfl (q_fieldAddr fa_37_1 rfl) ?_
      refine .cons rfl rfl rfl rfl rfl (q_move rfl) ?_
      exact .nil
    refine gp_fronto g2 ?_
    refine gp_frontb b2 ?_
    refine gp_eff 15 rfl rfl rfl rfl rfl rfl (does_call Try.call24 rfl (rwrite_ok _ _ b2 g2 n c2 (W.set at_.toNat x) (by simpa using hW) hc2 hn _ _ (by omega) h2)) ?_
    rintro _ _ ⟨rfl, rfl⟩
    refine ⟨?_, ?_⟩
    · refine .cons rfl rfl rfl rfl rfl (q_addm (m := 4294967296) wr_u32 rfl rfl) ?_
      first | refine .cons rfl rfl rfl rfl rfl (q_ld Try.isAgg23 rfl rfl) ?_ | refine .cons rfl rfl rfl rfl rfl (q_ldw Try.isAgg23 rfl (by omega)) ?_
      refine .cons rfl rfl rfl rfl rfl (q_fieldAddr fa_37_3 rfl) ?_
      first | refine .cons rfl rfl rfl rfl rfl (q_add rfl rfl (w_i64 (by omega) (by omega))) ?_ | refine .cons rfl rfl rfl rfl rfl (q_addw rfl rfl) ?_
      first | refine .cons rfl rfl rfl rfl rfl (q_ld Try.isAgg3 rfl rfl) ?_ | refine .cons rfl rfl rfl rfl rfl (q_ldw Try.isAgg3 rfl (by omega)) ?_
      refine .cons rfl rfl rfl rfl rfl (q_fieldAddr fa_37_1 rfl) ?_
      refine .cons rfl rfl rfl rfl rfl (q_move rfl) ?_
      refine .cons rfl rfl rfl rfl rfl (q_addm (m := 4294967296) wr_u32 rfl rfl) ?_
      first | refine .cons rfl rfl rfl rfl rfl (q_ld Try.isAgg23 rfl rfl) ?_ | refine .cons rfl rfl rfl rfl rfl (q_ldw Try.isAgg23 rfl (by omega)) ?_
      refine .cons rfl rfl rfl rfl rfl (q_fieldAddr fa_37_3 rfl) ?_
      first | refine .cons rfl rfl rfl rfl rfl (q_add rfl rfl (w_i64 (by omega) (by omega))) ?_ | refine .cons rfl rfl rfl rfl rfl (q_addw rfl rfl) ?_
      first | refine .cons rfl rfl rfl rfl rfl (q_ld Try.isAgg3 rfl rfl) ?_ | refine .cons rfl rfl rfl rfl rfl (q_ldw Try.isAgg3 rfl (by omega)) ?_
      refine .cons rfl rfl rfl rfl rfl (q_fieldAddr fa_37_1 rfl) ?_
      refine .cons rfl rfl rfl rfl rfl (q_move rfl) ?_
      exact .nil
    refine gp_quiet 16 rfl rfl rfl rfl rfl rfl (q_eql rfl rfl) ?_
    refine gp_quiet 17 rfl rfl rfl rfl rfl rfl (q_assign rfl) ?_
    refine gp_end rfl rfl ?_
    refine g_ret Try.func10 rfl (.tmp rfl .nil) ?_
    refine Gives.mki ⟨?_, ((W.set at_.toNat x).set (at_ + 1).toNat ((x + 1) % 4294967296)), (by simpa using hW), ((hU.set (by omega) _).set (by omega) _), rfl⟩
    (first | rfl | (simp only [resVal, decide_true, Bool.and_true, Bool.true_and, beq_self_eq_true]))
  · intro hbr
    have hbr := of_decide_eq_false hbr
    (exfalso; omega)
set_option maxHeartbeats 4000000 in
theorem one_both_10 (w0 : World) (F : List Atom) (b g n c b2 g2 c2 : Nat) (W : List Int) (hW : W.length = n) (hc : n ≤ c) (hc2 : n ≤ c2) (hn : n ≤ 1073741824) (hU : U32s W) (kd at_ kk x : Int) (a0 : -9223372036854775808 ≤ at_) (a1 : at_ ≤ 9223372036854775807) (k0 : -9223372036854775808 ≤ kk) (k1 : kk ≤ 9223372036854775807) (x0 : 0 ≤ x) (x1 : x ≤ 4294967295) (hk : kd = 3) (hm : at_ < 9223372036854775807) (h1 : inR n at_ 1) (h2 : ¬ inR n (at_ + 1) 1) :
    CallK Try.prog 10 [.pointer (some ⟨b, 0, none⟩), .pointer (some ⟨b2, 0, none⟩), .agg [Value.int .i64 kd, .int .i64 at_, .int .i64 kk, .int .u32 x].toArray] w0 (Blk b (.cells [.slice (some ⟨g, 0, none⟩) n c].toArray 56 (0, 0)) :: Own 23 1 (.slice (some ⟨g, 0, none⟩) n c) n (ints .u32 W) :: Blk b2 (.cells [.slice (some ⟨g2, 0, none⟩) n c2].toArray 58 (0, 0)) :: Own 23 1 (.slice (some ⟨g2, 0, none⟩) n c2) n (ints .u32 W) :: F) (Gives w0 fun v F2 => v = .bool true ∧ ∃ W2, W2.length = n ∧ U32s W2 ∧ F2 = Blk b (.cells [.slice (some ⟨g, 0, none⟩) n c].toArray 56 (0, 0)) :: Own 23 1 (.slice (some ⟨g, 0, none⟩) n c) n (ints .u32 W2) :: Blk b2 (.cells [.slice (some ⟨g2, 0, none⟩) n c2].toArray 58 (0, 0)) :: Own 23 1 (.slice (some ⟨g2, 0, none⟩) n c2) n (ints .u32 W2) :: F) := by
  refine c_enter Try.func10 rfl rfl rfl ?_
  refine g_seq ?_
  refine g_region ?_
  refine l_boxs rfl rfl ?_; intro b5
  refine l_assign rfl rfl ?_
  refine l_nil ?_
  refine g_seq ?_
  refine g_seq ?_
  refine g_region ?_
  refine l_fieldAddr rfl fa_37_0 rfl ?_
  first | refine l_ld rfl Try.isAgg3 rfl rfl ?_ | refine l_ldw rfl Try.isAgg3 rfl (by omega) ?_
  refine l_nil ?_
  refine g_block ?_
  refine g_seq ?_
  refine g_region ?_
  refine l_eql rfl rfl rfl ?_
  refine l_assign rfl rfl ?_
  refine l_nil ?_
  refine g_cond rfl ?_ ?_
  · intro hbr
    have hbr := of_decide_eq_true hbr
    (exfalso; omega)
  intro hbr
  have hbr := of_decide_eq_false hbr
  refine g_seq ?_
  refine g_region ?_
  refine l_eql rfl rfl rfl ?_
  refine l_assign rfl rfl ?_
  refine l_nil ?_
  refine g_cond rfl ?_ ?_
  · intro hbr
    have hbr := of_decide_eq_true hbr
    (exfalso; omega)
  intro hbr
  have hbr := of_decide_eq_false hbr
  refine g_seq ?_
  refine g_region ?_
  refine l_eql rfl rfl rfl ?_
  refine l_assign rfl rfl ?_
  refine l_nil ?_
  refine g_cond rfl ?_ ?_
  · intro hbr
    have hbr := of_decide_eq_true hbr
    (exfalso; omega)
  intro hbr
  have hbr := of_decide_eq_false hbr
  refine g_seq ?_
  refine g_region ?_
  refine l_eql rfl rfl rfl ?_
  refine l_assign rfl rfl ?_
  refine l_nil ?_
  refine g_cond rfl ?_ ?_
  · intro hbr
    have hbr := of_decide_eq_true hbr
    refine g_seq ?_
    refine g_region ?_
    refine l_move rfl rfl ?_
    refine l_fieldAddr rfl fa_37_1 rfl ?_
    first | refine l_ld rfl Try.isAgg3 rfl rfl ?_ | refine l_ldw rfl Try.isAgg3 rfl (by omega) ?_
    refine l_fieldAddr rfl fa_37_3 rfl ?_
    first | refine l_ld rfl Try.isAgg23 rfl rfl ?_ | refine l_ldw rfl Try.isAgg23 rfl (by omega) ?_
    refine l_fronto g ?_
    refine l_frontb b ?_
    refine l_call rfl Try.call18 rfl (write_ok _ _ b g n c W hW hc hn _ _ (by omega) h1) ?_; rintro _ _ ⟨rfl, rfl⟩
    refine l_assign rfl rfl ?_
    refine l_nil ?_
    refine g_seq ?_
    refine g_region ?_
    refine l_move rfl rfl ?_
    refine l_fieldAddr rfl fa_37_1 rfl ?_
    first | refine l_ld rfl Try.isAgg3 rfl rfl ?_ | refine l_ldw rfl Try.isAgg3 rfl (by omega) ?_
    refine l_fieldAddr rfl fa_37_3 rfl ?_
    first | refine l_ld rfl Try.isAgg23 rfl rfl ?_ | refine l_ldw rfl Try.isAgg23 rfl (by omega) ?_
    refine l_fronto g2 ?_
    refine l_frontb b2 ?_
    refine l_call rfl Try.call24 rfl (rwrite_ok _ _ b2 g2 n c2 W hW hc2 hn _ _ (by omega) h1) ?_; rintro _ _ ⟨rfl, rfl⟩
    refine l_assign rfl rfl ?_
    refine l_nil ?_
    refine g_seq ?_
    refine g_seq ?_
    refine g_region ?_
    refine l_move rfl rfl ?_
    refine l_move rfl rfl ?_
    refine l_neq rfl rfl rfl ?_
    refine l_nil ?_
    refine g_cond rfl ?_ ?_
    · intro hbr
      have hbr := of_decide_eq_true hbr
      (exfalso; omega)
    intro hbr
    have hbr := of_decide_eq_false hbr
    refine g_skip ?_
    refine g_seq ?_
    refine gp_start mo (by kernel_rfl) (by kernel_rfl) ?_
    refine gp_quiet 0 rfl rfl rfl rfl rfl rfl (q_move rfl) ?_
    refine gp_quiet 1 rfl rfl rfl rfl rfl rfl (q_fieldAddr fa_37_1 rfl) ?_
    first | refine gp_quiet 2 rfl rfl rfl rfl rfl rfl (q_ld Try.isAgg3 rfl rfl) ?_ | refine gp_quiet 2 rfl rfl rfl rfl rfl rfl (q_ldw Try.isAgg3 rfl (by omega)) ?_
    first | refine gp_quiet 3 rfl rfl rfl rfl rfl rfl (q_add rfl rfl (w_i64 (by omega) (by omega))) ?_ | refine gp_quiet 3 rfl rfl rfl rfl rfl rfl (q_addw rfl rfl) ?_
    refine gp_quiet 4 rfl rfl rfl rfl rfl rfl (q_fieldAddr fa_37_3 rfl) ?_
    first | refine gp_quiet 5 rfl rfl rfl rfl rfl rfl (q_ld Try.isAgg23 rfl rfl) ?_ | refine gp_quiet 5 rfl rfl rfl rfl rfl rfl (q_ldw Try.isAgg23 rfl (by omega)) ?_
    refine gp_quiet 6 rfl rfl rfl rfl rfl rfl (q_addm (m := 4294967296) wr_u32 rfl rfl) ?_
    refine gp_quiet 8 rfl rfl rfl rfl rfl rfl (q_move rfl) ?_
    refine gp_quiet 9 rfl rfl rfl rfl rfl rfl (q_fieldAddr fa_37_1 rfl) ?_
    first | refine gp_quiet 10 rfl rfl rfl rfl rfl rfl (q_ld Try.isAgg3 rfl rfl) ?_ | refine gp_quiet 10 rfl rfl rfl rfl rfl rfl (q_ldw Try.isAgg3 rfl (by omega)) ?_
    first | refine gp_quiet 11 rfl rfl rfl rfl rfl rfl (q_add rfl rfl (w_i64 (by omega) (by omega))) ?_ | refine gp_quiet 11 rfl rfl rfl rfl rfl rfl (q_addw rfl rfl) ?_
    refine gp_quiet 12 rfl rfl rfl rfl rfl rfl (q_fieldAddr fa_37_3 rfl) ?_
    first | refine gp_quiet 13 rfl rfl rfl rfl rfl rfl (q_ld Try.isAgg23 rfl rfl) ?_ | refine gp_quiet 13 rfl rfl rfl rfl rfl rfl (q_ldw Try.isAgg23 rfl (by omega)) ?_
    refine gp_quiet 14 rfl rfl rfl rfl rfl rfl (q_addm (m := 4294967296) wr_u32 rfl rfl) ?_
    refine gp_fronto g ?_
    refine gp_frontb b ?_
    refine gp_eff 7 rfl rfl rfl rfl rfl rfl (does_call Try.call18 rfl (write_bad _ _ b g n c (W.set at_.toNat x) (by simpa using hW) hc hn _ _ (by omega) (by omega) h2)) ?_
    rintro _ _ ⟨rfl, rfl⟩
    refine ⟨?_, ?_⟩
    · refine .cons rfl rfl rfl rfl rfl (q_addm (m := 4294967296) wr_u32 rfl rfl) ?_
      first | refine .cons rfl rfl rfl rfl rfl (q_ld Try.isAgg23 rfl rfl) ?_ | refine .cons rfl rfl rfl rfl rfl (q_ldw Try.isAgg23 rfl (by omega)) ?_
      refine .cons rfl rfl rfl rfl rfl (q_fieldAddr fa_37_3 rfl) ?_
      first | refine .cons rfl rfl rfl rfl rfl (q_add rfl rfl (w_i64 (by omega) (by omega))) ?_ | refine .cons rfl rfl rfl rfl rfl (q_addw rfl rfl) ?_
      first | refine .cons rfl rfl rfl rfl rfl (q_ld Try.isAgg3 rfl rfl) ?_ | refine .cons rfl rfl rfl rfl rfl (q_ldw Try.isAgg3 rfl (by omega)) ?_
      refine .cons rfl rfl rfl rfl rfl (q_fieldAddr fa_37_1 rfl) ?_
      refine .cons rfl rfl rfl rfl rfl (q_move rfl) ?_
      refine .cons rfl rfl rfl rfl rfl (q_addm (m := 4294967296) wr_u32 rfl rfl) ?_
      first | refine .cons rfl rfl rfl rfl rfl (q_ld Try.isAgg23 rfl rfl) ?_ | refine .cons rfl rfl rfl rfl rfl (q_ldw Try.isAgg23 rfl (by omega)) ?_
      refine .cons rfl rfl rfl rfl rfl (q_fieldAddr fa_37_3 rfl) ?_
      first | refine .cons rfl rfl rfl rfl rfl (q_add rfl rfl (w_i64 (by omega) (by omega))) ?_ | refine .cons rfl rfl rfl rfl rfl (q_addw rfl rfl) ?_
      first | refine .cons rfl rfl rfl rfl rfl (q_ld Try.isAgg3 rfl rfl) ?_ | refine .cons rfl rfl rfl rfl rfl (q_ldw Try.isAgg3 rfl (by omega)) ?_
      refine .cons rfl rfl rfl rfl rfl (q_fieldAddr fa_37_1 rfl) ?_
      refine .cons rfl rfl rfl rfl rfl (q_move rfl) ?_
      exact .nil
    refine gp_fronto g2 ?_
    refine gp_frontb b2 ?_
    refine gp_eff 15 rfl rfl rfl rfl rfl rfl (does_call Try.call24 rfl (rwrite_bad _ _ b2 g2 n c2 (W.set at_.toNat x) (by simpa using hW) hc2 hn _ _ (by omega) (by omega) h2)) ?_
    rintro _ _ ⟨rfl, rfl⟩
    refine ⟨?_, ?_⟩
    · refine .cons rfl rfl rfl rfl rfl (q_addm (m := 4294967296) wr_u32 rfl rfl) ?_
      first | refine .cons rfl rfl rfl rfl rfl (q_ld Try.isAgg23 rfl rfl) ?_ | refine .cons rfl rfl rfl rfl rfl (q_ldw Try.isAgg23 rfl (by omega)) ?_
      refine .cons rfl rfl rfl rfl rfl (q_fieldAddr fa_37_3 rfl) ?_
      first | refine .cons rfl rfl rfl rfl rfl (q_add rfl rfl (w_i64 (by omega) (by omega))) ?_ | refine .cons rfl rfl rfl rfl rfl (q_addw rfl rfl) ?_
      first | refine .cons rfl rfl rfl rfl rfl (q_ld Try.isAgg3 rfl rfl) ?_ | refine .cons rfl rfl rfl rfl rfl (q_ldw Try.isAgg3 rfl (by omega)) ?_
      refine .cons rfl rfl rfl rfl rfl (q_fieldAddr fa_37_1 rfl) ?_
      refine .cons rfl rfl rfl rfl rfl (q_move rfl) ?_
      refine .cons rfl rfl rfl rfl rfl (q_addm (m := 4294967296) wr_u32 rfl rfl) ?_
      first | refine .cons rfl rfl rfl rfl rfl (q_ld Try.isAgg23 rfl rfl) ?_ | refine .cons rfl rfl rfl rfl rfl (q_ldw Try.isAgg23 rfl (by omega)) ?_
      refine .cons rfl rfl rfl rfl rfl (q_fieldAddr fa_37_3 rfl) ?_
      first | refine .cons rfl rfl rfl rfl rfl (q_add rfl rfl (w_i64 (by omega) (by omega))) ?_ | refine .cons rfl rfl rfl rfl rfl (q_addw rfl rfl) ?_
      first | refine .cons rfl rfl rfl rfl rfl (q_ld Try.isAgg3 rfl rfl) ?_ | refine .cons rfl rfl rfl rfl rfl (q_ldw Try.isAgg3 rfl (by omega)) ?_
      refine .cons rfl rfl rfl rfl rfl (q_fieldAddr fa_37_1 rfl) ?_
      refine .cons rfl rfl rfl rfl rfl (q_move rfl) ?_
      exact .nil
    refine gp_quiet 16 rfl rfl rfl rfl rfl rfl (q_eql rfl rfl) ?_
    refine gp_quiet 17 rfl rfl rfl rfl rfl rfl (q_assign rfl) ?_
    refine gp_end rfl rfl ?_
    refine g_ret Try.func10 rfl (.tmp rfl .nil) ?_
    refine Gives.mki ⟨?_, (W.set at_.toNat x), (by simpa using hW), (hU.set (by omega) _), rfl⟩
    (first | rfl | (simp only [resVal, decide_true, Bool.and_true, Bool.true_and, beq_self_eq_true]))
  · intro hbr
    have hbr := of_decide_eq_false hbr
    (exfalso; omega)
set_option maxHeartbeats 4000000 in
theorem one_both_01 (w0 : World) (F : List Atom) (b g n c b2 g2 c2 : Nat) (W : List Int) (hW : W.length = n) (hc : n ≤ c) (hc2 : n ≤ c2) (hn : n ≤ 1073741824) (hU : U32s W) (kd at_ kk x : Int) (a0 : -9223372036854775808 ≤ at_) (a1 : at_ ≤ 9223372036854775807) (k0 : -9223372036854775808 ≤ kk) (k1 : kk ≤ 9223372036854775807) (x0 : 0 ≤ x) (x1 : x ≤ 4294967295) (hk : kd = 3) (hm : at_ < 9223372036854775807) (h1 : ¬ inR n at_ 1) (h2 : inR n (at_ + 1) 1) :
    CallK Try.prog 10 [.pointer (some ⟨b, 0, none⟩), .pointer (some ⟨b2, 0, none⟩), .agg [Value.int .i64 kd, .int .i64 at_, .int .i64 kk, .int .u32 x].toArray] w0 (Blk b (.cells [.slice (some ⟨g, 0, none⟩) n c].toArray 56 (0, 0)) :: Own 23 1 (.slice (some ⟨g, 0, none⟩) n c) n (ints .u32 W) :: Blk b2 (.cells [.slice (some ⟨g2, 0, none⟩) n c2].toArray 58 (0, 0)) :: Own 23 1 (.slice (some ⟨g2, 0, none⟩) n c2) n (ints .u32 W) :: F) (Gives w0 fun v F2 => v = .bool true ∧ ∃ W2, W2.length = n ∧ U32s W2 ∧ F2 = Blk b (.cells [.slice (some ⟨g, 0, none⟩) n c].toArray 56 (0, 0)) :: Own 23 1 (.slice (some ⟨g, 0, none⟩) n c) n (ints .u32 W2) :: Blk b2 (.cells [.slice (some ⟨g2, 0, none⟩) n c2].toArray 58 (0, 0)) :: Own 23 1 (.slice (some ⟨g2, 0, none⟩) n c2) n (ints .u32 W2) :: F) := by
  refine c_enter Try.func10 rfl rfl rfl ?_
  refine g_seq ?_
  refine g_region ?_
  refine l_boxs rfl rfl ?_; intro b5
  refine l_assign rfl rfl ?_
  refine l_nil ?_
  refine g_seq ?_
  refine g_seq ?_
  refine g_region ?_
  refine l_fieldAddr rfl fa_37_0 rfl ?_
  first | refine l_ld rfl Try.isAgg3 rfl rfl ?_ | refine l_ldw rfl Try.isAgg3 rfl (by omega) ?_
  refine l_nil ?_
  refine g_block ?_
  refine g_seq ?_
  refine g_region ?_
  refine l_eql rfl rfl rfl ?_
  refine l_assign rfl rfl ?_
  refine l_nil ?_
  refine g_cond rfl ?_ ?_
  · intro hbr
    have hbr := of_decide_eq_true hbr
    (exfalso; omega)
  intro hbr
  have hbr := of_decide_eq_false hbr
  refine g_seq ?_
  refine g_region ?_
  refine l_eql rfl rfl rfl ?_
  refine l_assign rfl rfl ?_
  refine l_nil ?_
  refine g_cond rfl ?_ ?_
  · intro hbr
    have hbr := of_decide_eq_true hbr
    (exfalso; omega)
  intro hbr
  have hbr := of_decide_eq_false hbr
  refine g_seq ?_
  refine g_region ?_
  refine l_eql rfl rfl rfl ?_
  refine l_assign rfl rfl ?_
  refine l_nil ?_
  refine g_cond rfl ?_ ?_
  · intro hbr
    have hbr := of_decide_eq_true hbr
    (exfalso; omega)
  intro hbr
  have hbr := of_decide_eq_false hbr
  refine g_seq ?_
  refine g_region ?_
  refine l_eql rfl rfl rfl ?_
  refine l_assign rfl rfl ?_
  refine l_nil ?_
  refine g_cond rfl ?_ ?_
  · intro hbr
    have hbr := of_decide_eq_true hbr
    refine g_seq ?_
    refine g_region ?_
    refine l_move rfl rfl ?_
    refine l_fieldAddr rfl fa_37_1 rfl ?_
    first | refine l_ld rfl Try.isAgg3 rfl rfl ?_ | refine l_ldw rfl Try.isAgg3 rfl (by omega) ?_
    refine l_fieldAddr rfl fa_37_3 rfl ?_
    first | refine l_ld rfl Try.isAgg23 rfl rfl ?_ | refine l_ldw rfl Try.isAgg23 rfl (by omega) ?_
    refine l_fronto g ?_
    refine l_frontb b ?_
    refine l_call rfl Try.call18 rfl (write_bad _ _ b g n c W hW hc hn _ _ (by omega) (by omega) h1) ?_; rintro _ _ ⟨rfl, rfl⟩
    refine l_assign rfl rfl ?_
    refine l_nil ?_
    refine g_seq ?_
    refine g_region ?_
    refine l_move rfl rfl ?_
    refine l_fieldAddr rfl fa_37_1 rfl ?_
    first | refine l_ld rfl Try.isAgg3 rfl rfl ?_ | refine l_ldw rfl Try.isAgg3 rfl (by omega) ?_
    refine l_fieldAddr rfl fa_37_3 rfl ?_
    first | refine l_ld rfl Try.isAgg23 rfl rfl ?_ | refine l_ldw rfl Try.isAgg23 rfl (by omega) ?_
    refine l_fronto g2 ?_
    refine l_frontb b2 ?_
    refine l_call rfl Try.call24 rfl (rwrite_bad _ _ b2 g2 n c2 W hW hc2 hn _ _ (by omega) (by omega) h1) ?_; rintro _ _ ⟨rfl, rfl⟩
    refine l_assign rfl rfl ?_
    refine l_nil ?_
    refine g_seq ?_
    refine g_seq ?_
    refine g_region ?_
    refine l_move rfl rfl ?_
    refine l_move rfl rfl ?_
    refine l_neq rfl rfl rfl ?_
    refine l_nil ?_
    refine g_cond rfl ?_ ?_
    · intro hbr
      have hbr := of_decide_eq_true hbr
      (exfalso; omega)
    intro hbr
    have hbr := of_decide_eq_false hbr
    refine g_skip ?_
    refine g_seq ?_
    refine gp_start mo (by kernel_rfl) (by kernel_rfl) ?_
    refine gp_quiet 0 rfl rfl rfl rfl rfl rfl (q_move rfl) ?_
    refine gp_quiet 1 rfl rfl rfl rfl rfl rfl (q_fieldAddr fa_37_1 rfl) ?_
    first | refine gp_quiet 2 rfl rfl rfl rfl rfl rfl (q_ld Try.isAgg3 rfl rfl) ?_ | refine gp_quiet 2 rfl rfl rfl rfl rfl rfl (q_ldw Try.isAgg3 rfl (by omega)) ?_
    first | refine gp_quiet 3 rfl rfl rfl rfl rfl rfl (q_add rfl rfl (w_i64 (by omega) (by omega))) ?_ | refine gp_quiet 3 rfl rfl rfl rfl rfl rfl (q_addw rfl rfl) ?_
    refine gp_quiet 4 rfl rfl rfl rfl rfl rfl (q_fieldAddr fa_37_3 rfl) ?_
    first | refine gp_quiet 5 rfl rfl rfl rfl rfl rfl (q_ld Try.isAgg23 rfl rfl) ?_ | refine gp_quiet 5 rfl rfl rfl rfl rfl rfl (q_ldw Try.isAgg23 rfl (by omega)) ?_
    refine gp_quiet 6 rfl rfl rfl rfl rfl rfl (q_addm (m := 4294967296) wr_u32 rfl rfl) ?_
    refine gp_quiet 8 rfl rfl rfl rfl rfl rfl (q_move rfl) ?_
    refine gp_quiet 9 rfl rfl rfl rfl rfl rfl (q_fieldAddr fa_37_1 rfl) ?_
    first | refine gp_quiet 10 rfl rfl rfl rfl rfl rfl (q_ld Try.isAgg3 rfl rfl) ?_ | refine gp_quiet 10 rfl rfl rfl rfl rfl rfl (q_ldw Try.isAgg3 rfl (by omega)) ?_
    first | refine gp_quiet 11 rfl rfl rfl rfl rfl rfl (q_add rfl rfl (w_i64 (by omega) (by omega))) ?_ | refine gp_quiet 11 rfl rfl rfl rfl rfl rfl (q_addw rfl rfl) ?_
    refine gp_quiet 12 rfl rfl rfl rfl rfl rfl (q_fieldAddr fa_37_3 rfl) ?_
    first | refine gp_quiet 13 rfl rfl rfl rfl rfl rfl (q_ld Try.isAgg23 rfl rfl) ?_ | refine gp_quiet 13 rfl rfl rfl rfl rfl rfl (q_ldw Try.isAgg23 rfl (by omega)) ?_
    refine gp_quiet 14 rfl rfl rfl rfl rfl rfl (q_addm (m := 4294967296) wr_u32 rfl rfl) ?_
    refine gp_fronto g ?_
    refine gp_frontb b ?_
    refine gp_eff 7 rfl rfl rfl rfl rfl rfl (does_call Try.call18 rfl (write_ok _ _ b g n c W hW hc hn _ _ (by omega) h2)) ?_
    rintro _ _ ⟨rfl, rfl⟩
    refine ⟨?_, ?_⟩
    · refine .cons rfl rfl rfl rfl rfl (q_addm (m := 4294967296) wr_u32 rfl rfl) ?_
      first | refine .cons rfl rfl rfl rfl rfl (q_ld Try.isAgg23 rfl rfl) ?_ | refine .cons rfl rfl rfl rfl rfl (q_ldw Try.isAgg23 rfl (by omega)) ?_
      refine .cons rfl rfl rfl rfl rfl (q_fieldAddr fa_37_3 rfl) ?_
      first | refine .cons rfl rfl rfl rfl rfl (q_add rfl rfl (w_i64 (by omega) (by omega))) ?_ | refine .cons rfl rfl rfl rfl rfl (q_addw rfl rfl) ?_
      first | refine .cons rfl rfl rfl rfl rfl (q_ld Try.isAgg3 rfl rfl) ?_ | refine .cons rfl rfl rfl rfl rfl (q_ldw Try.isAgg3 rfl (by omega)) ?_
      refine .cons rfl rfl rfl rfl rfl (q_fieldAddr fa_37_1 rfl) ?_
      refine .cons rfl rfl rfl rfl rfl (q_move rfl) ?_
      refine .cons rfl rfl rfl rfl rfl (q_addm (m := 4294967296) wr_u32 rfl rfl) ?_
      first | refine .cons rfl rfl rfl rfl rfl (q_ld Try.isAgg23 rfl rfl) ?_ | refine .cons rfl rfl rfl rfl rfl (q_ldw Try.isAgg23 rfl (by omega)) ?_
      refine .cons rfl rfl rfl rfl rfl (q_fieldAddr fa_37_3 rfl) ?_
      first | refine .cons rfl rfl rfl rfl rfl (q_add rfl rfl (w_i64 (by omega) (by omega))) ?_ | refine .cons rfl rfl rfl rfl rfl (q_addw rfl rfl) ?_
      first | refine .cons rfl rfl rfl rfl rfl (q_ld Try.isAgg3 rfl rfl) ?_ | refine .cons rfl rfl rfl rfl rfl (q_ldw Try.isAgg3 rfl (by omega)) ?_
      refine .cons rfl rfl rfl rfl rfl (q_fieldAddr fa_37_1 rfl) ?_
      refine .cons rfl rfl rfl rfl rfl (q_move rfl) ?_
      exact .nil
    refine gp_fronto g2 ?_
    refine gp_frontb b2 ?_
    refine gp_eff 15 rfl rfl rfl rfl rfl rfl (does_call Try.call24 rfl (rwrite_ok _ _ b2 g2 n c2 W hW hc2 hn _ _ (by omega) h2)) ?_
    rintro _ _ ⟨rfl, rfl⟩
    refine ⟨?_, ?_⟩
    · refine .cons rfl rfl rfl rfl rfl (q_addm (m := 4294967296) wr_u32 rfl rfl) ?_
      first | refine .cons rfl rfl rfl rfl rfl (q_ld Try.isAgg23 rfl rfl) ?_ | refine .cons rfl rfl rfl rfl rfl (q_ldw Try.isAgg23 rfl (by omega)) ?_
      refine .cons rfl rfl rfl rfl rfl (q_fieldAddr fa_37_3 rfl) ?_
      first | refine .cons rfl rfl rfl rfl rfl (q_add rfl rfl (w_i64 (by omega) (by omega))) ?_ | refine .cons rfl rfl rfl rfl rfl (q_addw rfl rfl) ?_
      first | refine .cons rfl rfl rfl rfl rfl (q_ld Try.isAgg3 rfl rfl) ?_ | refine .cons rfl rfl rfl rfl rfl (q_ldw Try.isAgg3 rfl (by omega)) ?_
      refine .cons rfl rfl rfl rfl rfl (q_fieldAddr fa_37_1 rfl) ?_
      refine .cons rfl rfl rfl rfl rfl (q_move rfl) ?_
      refine .cons rfl rfl rfl rfl rfl (q_addm (m := 4294967296) wr_u32 rfl rfl) ?_
      first | refine .cons rfl rfl rfl rfl rfl (q_ld Try.isAgg23 rfl rfl) ?_ | refine .cons rfl rfl rfl rfl rfl (q_ldw Try.isAgg23 rfl (by omega)) ?_
      refine .cons rfl rfl rfl rfl rfl (q_fieldAddr fa_37_3 rfl) ?_
      first | refine .cons rfl rfl rfl rfl rfl (q_add rfl rfl (w_i64 (by omega) (by omega))) ?_ | refine .cons rfl rfl rfl rfl rfl (q_addw rfl rfl) ?_
      first | refine .cons rfl rfl rfl rfl rfl (q_ld Try.isAgg3 rfl rfl) ?_ | refine .cons rfl rfl rfl rfl rfl (q_ldw Try.isAgg3 rfl (by omega)) ?_
      refine .cons rfl rfl rfl rfl rfl (q_fieldAddr fa_37_1 rfl) ?_
      refine .cons rfl rfl rfl rfl rfl (q_move rfl) ?_
      exact .nil
    refine gp_quiet 16 rfl rfl rfl rfl rfl rfl (q_eql rfl rfl) ?_
    refine gp_quiet 17 rfl rfl rfl rfl rfl rfl (q_assign rfl) ?_
    refine gp_end rfl rfl ?_
    refine g_ret Try.func10 rfl (.tmp rfl .nil) ?_
    refine Gives.mki ⟨?_, (W.set (at_ + 1).toNat ((x + 1) % 4294967296)), (by simpa using hW), (hU.set (by omega) _), rfl⟩
    (first | rfl | (simp only [resVal, decide_true, Bool.and_true, Bool.true_and, beq_self_eq_true]))
  · intro hbr
    have hbr := of_decide_eq_false hbr
    (exfalso; omega)
set_option maxHeartbeats 4000000 in
theorem one_both_00 (w0 : World) (F : List Atom) (b g n c b2 g2 c2 : Nat) (W : List Int) (hW : W.length = n) (hc : n ≤ c) (hc2 : n ≤ c2) (hn : n ≤ 1073741824) (hU : U32s W) (kd at_ kk x : Int) (a0 : -9223372036854775808 ≤ at_) (a1 : at_ ≤ 9223372036854775807) (k0 : -9223372036854775808 ≤ kk) (k1 : kk ≤ 9223372036854775807) (x0 : 0 ≤ x) (x1 : x ≤ 4294967295) (hk : kd = 3) (hm : at_ < 9223372036854775807) (h1 : ¬ inR n at_ 1) (h2 : ¬ inR n (at_ + 1) 1) :
    CallK Try.prog 10 [.pointer (some ⟨b, 0, none⟩), .pointer (some ⟨b2, 0, none⟩), .agg [Value.int .i64 kd, .int .i64 at_, .int .i64 kk, .int .u32 x].toArray] w0 (Blk b (.cells [.slice (some ⟨g, 0, none⟩) n c].toArray 56 (0, 0)) :: Own 23 1 (.slice (some ⟨g, 0, none⟩) n c) n (ints .u32 W) :: Blk b2 (.cells [.slice (some ⟨g2, 0, none⟩) n c2].toArray 58 (0, 0)) :: Own 23 1 (.slice (some ⟨g2, 0, none⟩) n c2) n (ints .u32 W) :: F) (Gives w0 fun v F2 => v = .bool true ∧ ∃ W2, W2.length = n ∧ U32s W2 ∧ F2 = Blk b (.cells [.slice (some ⟨g, 0, none⟩) n c].toArray 56 (0, 0)) :: Own 23 1 (.slice (some ⟨g, 0, none⟩) n c) n (ints .u32 W2) :: Blk b2 (.cells [.slice (some ⟨g2, 0, none⟩) n c2].toArray 58 (0, 0)) :: Own 23 1 (.slice (some ⟨g2, 0, none⟩) n c2) n (ints .u32 W2) :: F) := by
  refine c_enter Try.func10 rfl rfl rfl ?_
  refine g_seq ?_
  refine g_region ?_
  refine l_boxs rfl rfl ?_; intro b5
  refine l_assign rfl rfl ?_
  refine l_nil ?_
  refine g_seq ?_
  refine g_seq ?_
  refine g_region ?_
  refine l_fieldAddr rfl fa_37_0 rfl ?_
  first | refine l_ld rfl Try.isAgg3 rfl rfl ?_ | refine l_ldw rfl Try.isAgg3 rfl (by omega) ?_
  refine l_nil ?_
  refine g_block ?_
  refine g_seq ?_
  refine g_region ?_
  refine l_eql rfl rfl rfl ?_
  refine l_assign rfl rfl ?_
  refine l_nil ?_
  refine g_cond rfl ?_ ?_
  · intro hbr
    have hbr := of_decide_eq_true hbr
    (exfalso; omega)
  intro hbr
  have hbr := of_decide_eq_false hbr
  refine g_seq ?_
  refine g_region ?_
  refine l_eql rfl rfl rfl ?_
  refine l_assign rfl rfl ?_
  refine l_nil ?_
  refine g_cond rfl ?_ ?_
  · intro hbr
    have hbr := of_decide_eq_true hbr
    (exfalso; omega)
  intro hbr
  have hbr := of_decide_eq_false hbr
  refine g_seq ?_
  refine g_region ?_
  refine l_eql rfl rfl rfl ?_
  refine l_assign rfl rfl ?_
  refine l_nil ?_
  refine g_cond rfl ?_ ?_
  · intro hbr
    have hbr := of_decide_eq_true hbr
    (exfalso; omega)
  intro hbr
  have hbr := of_decide_eq_false hbr
  refine g_seq ?_
  refine g_region ?_
  refine l_eql rfl rfl rfl ?_
  refine l_assign rfl rfl ?_
  refine l_nil ?_
  refine g_cond rfl ?_ ?_
  · intro hbr
    have hbr := of_decide_eq_true hbr
    refine g_seq ?_
    refine g_region ?_
    refine l_move rfl rfl ?_
    refine l_fieldAddr rfl fa_37_1 rfl ?_
    first | refine l_ld rfl Try.isAgg3 rfl rfl ?_ | refine l_ldw rfl Try.isAgg3 rfl (by omega) ?_
    refine l_fieldAddr rfl fa_37_3 rfl ?_
    first | refine l_ld rfl Try.isAgg23 rfl rfl ?_ | refine l_ldw rfl Try.isAgg23 rfl (by omega) ?_
    refine l_fronto g ?_
    refine l_frontb b ?_
    refine l_call rfl Try.call18 rfl (write_bad _ _ b g n c W hW hc hn _ _ (by omega) (by omega) h1) ?_; rintro _ _ ⟨rfl, rfl⟩
    refine l_assign rfl rfl ?_
    refine l_nil ?_
    refine g_seq ?_
    refine g_region ?_
    refine l_move rfl rfl ?_
    refine l_fieldAddr rfl fa_37_1 rfl ?_
    first | refine l_ld rfl Try.isAgg3 rfl rfl ?_ | refine l_ldw rfl Try.isAgg3 rfl (by omega) ?_
    refine l_fieldAddr rfl fa_37_3 rfl ?_
    first | refine l_ld rfl Try.isAgg23 rfl rfl ?_ | refine l_ldw rfl Try.isAgg23 rfl (by omega) ?_
    refine l_fronto g2 ?_
    refine l_frontb b2 ?_
    refine l_call rfl Try.call24 rfl (rwrite_bad _ _ b2 g2 n c2 W hW hc2 hn _ _ (by omega) (by omega) h1) ?_; rintro _ _ ⟨rfl, rfl⟩
    refine l_assign rfl rfl ?_
    refine l_nil ?_
    refine g_seq ?_
    refine g_seq ?_
    refine g_region ?_
    refine l_move rfl rfl ?_
    refine l_move rfl rfl ?_
    refine l_neq rfl rfl rfl ?_
    refine l_nil ?_
    refine g_cond rfl ?_ ?_
    · intro hbr
      have hbr := of_decide_eq_true hbr
      (exfalso; omega)
    intro hbr
    have hbr := of_decide_eq_false hbr
    refine g_skip ?_
    refine g_seq ?_
    refine gp_start mo (by kernel_rfl) (by kernel_rfl) ?_
    refine gp_quiet 0 rfl rfl rfl rfl rfl rfl (q_move rfl) ?_
    refine gp_quiet 1 rfl rfl rfl rfl rfl rfl (q_fieldAddr fa_37_1 rfl) ?_
    first | refine gp_quiet 2 rfl rfl rfl rfl rfl rfl (q_ld Try.isAgg3 rfl rfl) ?_ | refine gp_quiet 2 rfl rfl rfl rfl rfl rfl (q_ldw Try.isAgg3 rfl (by omega)) ?_
    first | refine gp_quiet 3 rfl rfl rfl rfl rfl rfl (q_add rfl rfl (w_i64 (by omega) (by omega))) ?_ | refine gp_quiet 3 rfl rfl rfl rfl rfl rfl (q_addw rfl rfl) ?_
    refine gp_quiet 4 rfl rfl rfl rfl rfl rfl (q_fieldAddr fa_37_3 rfl) ?_
    first | refine gp_quiet 5 rfl rfl rfl rfl rfl rfl (q_ld Try.isAgg23 rfl rfl) ?_ | refine gp_quiet 5 rfl rfl rfl rfl rfl rfl (q_ldw Try.isAgg23 rfl (by omega)) ?_
    refine gp_quiet 6 rfl rfl rfl rfl rfl rfl (q_addm (m := 4294967296) wr_u32 rfl rfl) ?_
    refine gp_quiet 8 rfl rfl rfl rfl rfl rfl (q_move rfl) ?_
    refine gp_quiet 9 rfl rfl rfl rfl rfl rfl (q_fieldAddr fa_37_1 rfl) ?_
    first | refine gp_quiet 10 rfl rfl rfl rfl rfl rfl (q_ld Try.isAgg3 rfl rfl) ?_ | refine gp_quiet 10 rfl rfl rfl rfl rfl rfl (q_ldw Try.isAgg3 rfl (by omega)) ?_
    first | refine gp_quiet 11 rfl rfl rfl rfl rfl rfl (q_add rfl rfl (w_i64 (by omega) (by omega))) ?_ | refine gp_quiet 11 rfl rfl rfl rfl rfl rfl (q_addw rfl rfl) ?_
    refine gp_quiet 12 rfl rfl rfl rfl rfl rfl (q_fieldAddr fa_37_3 rfl) ?_
    first | refine gp_quiet 13 rfl rfl rfl rfl rfl rfl (q_ld Try.isAgg23 rfl rfl) ?_ | refine gp_quiet 13 rfl rfl rfl rfl rfl rfl (q_ldw Try.isAgg23 rfl (by omega)) ?_
    refine gp_quiet 14 rfl rfl rfl rfl rfl rfl (q_addm (m := 4294967296) wr_u32 rfl rfl) ?_
    refine gp_fronto g ?_
    refine gp_frontb b ?_
    refine gp_eff 7 rfl rfl rfl rfl rfl rfl (does_call Try.call18 rfl (write_bad _ _ b g n c W hW hc hn _ _ (by omega) (by omega) h2)) ?_
    rintro _ _ ⟨rfl, rfl⟩
    refine ⟨?_, ?_⟩
    · refine .cons rfl rfl rfl rfl rfl (q_addm (m := 4294967296) wr_u32 rfl rfl) ?_
      first | refine .cons rfl rfl rfl rfl rfl (q_ld Try.isAgg23 rfl rfl) ?_ | refine .cons rfl rfl rfl rfl rfl (q_ldw Try.isAgg23 rfl (by omega)) ?_
      refine .cons rfl rfl rfl rfl rfl (q_fieldAddr fa_37_3 rfl) ?_
      first | refine .cons rfl rfl rfl rfl rfl (q_add rfl rfl (w_i64 (by omega) (by omega))) ?_ | refine .cons rfl rfl rfl rfl rfl (q_addw rfl rfl) ?_
      first | refine .cons rfl rfl rfl rfl rfl (q_ld Try.isAgg3 rfl rfl) ?_ | refine .cons rfl rfl rfl rfl rfl (q_ldw Try.isAgg3 rfl (by omega)) ?_
      refine .cons rfl rfl rfl rfl rfl (q_fieldAddr fa_37_1 rfl) ?_
      refine .cons rfl rfl rfl rfl rfl (q_move rfl) ?_
      refine .cons rfl rfl rfl rfl rfl (q_addm (m := 4294967296) wr_u32 rfl rfl) ?_
      first | refine .cons rfl rfl rfl rfl rfl (q_ld Try.isAgg23 rfl rfl) ?_ | refine .cons rfl rfl rfl rfl rfl (q_ldw Try.isAgg23 rfl (by omega)) ?_
      refine .cons rfl rfl rfl rfl rfl (q_fieldAddr fa_37_3 rfl) ?_
      first | refine .cons rfl rfl rfl rfl rfl (q_add rfl rfl (w_i64 (by omega) (by omega))) ?_ | refine .cons rfl rfl rfl rfl rfl (q_addw rfl rfl) ?_
      first | refine .cons rfl rfl rfl rfl rfl (q_ld Try.isAgg3 rfl rfl) ?_ | refine .cons rfl rfl rfl rfl rfl (q_ldw Try.isAgg3 rfl (by omega)) ?_
      refine .cons rfl rfl rfl rfl rfl (q_fieldAddr fa_37_1 rfl) ?_
      refine .cons rfl rfl rfl rfl rfl (q_move rfl) ?_
      exact .nil
    refine gp_fronto g2 ?_
    refine gp_frontb b2 ?_
    refine gp_eff 15 rfl rfl rfl rfl rfl rfl (does_call Try.call24 rfl (rwrite_bad _ _ b2 g2 n c2 W hW hc2 hn _ _ (by omega) (by omega) h2)) ?_
    rintro _ _ ⟨rfl, rfl⟩
    refine ⟨?_, ?_⟩
    · refine .cons rfl rfl rfl rfl rfl (q_addm (m := 4294967296) wr_u32 rfl rfl) ?_
      first | refine .cons rfl rfl rfl rfl rfl (q_ld Try.isAgg23 rfl rfl) ?_ | refine .cons rfl rfl rfl rfl rfl (q_ldw Try.isAgg23 rfl (by omega)) ?_
      refine .cons rfl rfl rfl rfl rfl (q_fieldAddr fa_37_3 rfl) ?_
      first | refine .cons rfl rfl rfl rfl rfl (q_add rfl rfl (w_i64 (by omega) (by omega))) ?_ | refine .cons rfl rfl rfl rfl rfl (q_addw rfl rfl) ?_
      first | refine .cons rfl rfl rfl rfl rfl (q_ld Try.isAgg3 rfl rfl) ?_ | refine .cons rfl rfl rfl rfl rfl (q_ldw Try.isAgg3 rfl (by omega)) ?_
      refine .cons rfl rfl rfl rfl rfl (q_fieldAddr fa_37_1 rfl) ?_
      refine .cons rfl rfl rfl rfl rfl (q_move rfl) ?_
      refine .cons rfl rfl rfl rfl rfl (q_addm (m := 4294967296) wr_u32 rfl rfl) ?_
      first | refine .cons rfl rfl rfl rfl rfl (q_ld Try.isAgg23 rfl rfl) ?_ | refine .cons rfl rfl rfl rfl rfl (q_ldw Try.isAgg23 rfl (by omega)) ?_
      refine .cons rfl rfl rfl rfl rfl (q_fieldAddr fa_37_3 rfl) ?_
      first | refine .cons rfl rfl rfl rfl rfl (q_add rfl rfl (w_i64 (by omega) (by omega))) ?_ | refine .cons rfl rfl rfl rfl rfl (q_addw rfl rfl) ?_
      first | refine .cons rfl rfl rfl rfl rfl (q_ld Try.isAgg3 rfl rfl) ?_ | refine .cons rfl rfl rfl rfl rfl (q_ldw Try.isAgg3 rfl (by omega)) ?_
      refine .cons rfl rfl rfl rfl rfl (q_fieldAddr fa_37_1 rfl) ?_
      refine .cons rfl rfl rfl rfl rfl (q_move rfl) ?_
      exact .nil
    refine gp_quiet 16 rfl rfl rfl rfl rfl rfl (q_eql rfl rfl) ?_
    refine gp_quiet 17 rfl rfl rfl rfl rfl rfl (q_assign rfl) ?_
    refine gp_end rfl rfl ?_
    refine g_ret Try.func10 rfl (.tmp rfl .nil) ?_
    refine Gives.mki ⟨?_, W, (by simpa using hW), hU, rfl⟩
    (first | rfl | (simp only [resVal, decide_true, Bool.and_true, Bool.true_and, beq_self_eq_true]))
  · intro hbr
    have hbr := of_decide_eq_false hbr
    (exfalso; omega)
set_option maxHeartbeats 4000000 in
theorem one_both_over (w0 : World) (F : List Atom) (b g n c b2 g2 c2 : Nat) (W : List Int) (hW : W.length = n) (hc : n ≤ c) (hc2 : n ≤ c2) (hn : n ≤ 1073741824) (hU : U32s W) (kd at_ kk x : Int) (a0 : -9223372036854775808 ≤ at_) (a1 : at_ ≤ 9223372036854775807) (k0 : -9223372036854775808 ≤ kk) (k1 : kk ≤ 9223372036854775807) (x0 : 0 ≤ x) (x1 : x ≤ 4294967295) (hk : kd = 3) (hm : at_ = 9223372036854775807) (h1 : ¬ inR n at_ 1) :
    CallK Try.prog 10 [.pointer (some ⟨b, 0, none⟩), .pointer (some ⟨b2, 0, none⟩), .agg [Value.int .i64 kd, .int .i64 at_, .int .i64 kk, .int .u32 x].toArray] w0 (Blk b (.cells [.slice (some ⟨g, 0, none⟩) n c].toArray 56 (0, 0)) :: Own 23 1 (.slice (some ⟨g, 0, none⟩) n c) n (ints .u32 W) :: Blk b2 (.cells [.slice (some ⟨g2, 0, none⟩) n c2].toArray 58 (0, 0)) :: Own 23 1 (.slice (some ⟨g2, 0, none⟩) n c2) n (ints .u32 W) :: F) (Gives w0 fun v F2 => v = .bool true ∧ ∃ W2, W2.length = n ∧ U32s W2 ∧ F2 = Blk b (.cells [.slice (some ⟨g, 0, none⟩) n c].toArray 56 (0, 0)) :: Own 23 1 (.slice (some ⟨g, 0, none⟩) n c) n (ints .u32 W2) :: Blk b2 (.cells [.slice (some ⟨g2, 0, none⟩) n c2].toArray 58 (0, 0)) :: Own 23 1 (.slice (some ⟨g2, 0, none⟩) n c2) n (ints .u32 W2) :: F) := by
  subst hm
  have ov : IntKind.i64.wrap (9223372036854775807 + 1) = -9223372036854775808 := by decide
  have ov1 : -9223372036854775808 ≤ IntKind.i64.wrap (9223372036854775807 + 1) := by rw [ov]; decide
  have ov2 : IntKind.i64.wrap (9223372036854775807 + 1) ≤ 9223372036854775807 := by rw [ov]; decide
  have ov3 : ¬ inR n (IntKind.i64.wrap (9223372036854775807 + 1)) 1 := by rw [ov]; unfold inR; omega
  refine c_enter Try.func10 rfl rfl rfl ?_
  refine g_seq ?_
  refine g_region ?_
  refine l_boxs rfl rfl ?_; intro b5
  refine l_assign rfl rfl ?_
  refine l_nil ?_
  refine g_seq ?_
  refine g_seq ?_
  refine g_region ?_
  refine l_fieldAddr rfl fa_37_0 rfl ?_
  first | refine l_ld rfl Try.isAgg3 rfl rfl ?_ | refine l_ldw rfl Try.isAgg3 rfl (by omega) ?_
  refine l_nil ?_
  refine g_block ?_
  refine g_seq ?_
  refine g_region ?_
  refine l_eql rfl rfl rfl ?_
  refine l_assign rfl rfl ?_
  refine l_nil ?_
  refine g_cond rfl ?_ ?_
  · intro hbr
    have hbr := of_decide_eq_true hbr
    (exfalso; omega)
  intro hbr
  have hbr := of_decide_eq_false hbr
  refine g_seq ?_
  refine g_region ?_
  refine l_eql rfl rfl rfl ?_
  refine l_assign rfl rfl ?_
  refine l_nil ?_
  refine g_cond rfl ?_ ?_
  · intro hbr
    have hbr := of_decide_eq_true hbr
    (exfalso; omega)
  intro hbr
  have hbr := of_decide_eq_false hbr
  refine g_seq ?_
  refine g_region ?_
  refine l_eql rfl rfl rfl ?_
  refine l_assign rfl rfl ?_
  refine l_nil ?_
  refine g_cond rfl ?_ ?_
  · intro hbr
    have hbr := of_decide_eq_true hbr
    (exfalso; omega)
  intro hbr
  have hbr := of_decide_eq_false hbr
  refine g_seq ?_
  refine g_region ?_
  refine l_eql rfl rfl rfl ?_
  refine l_assign rfl rfl ?_
  refine l_nil ?_
  refine g_cond rfl ?_ ?_
  · intro hbr
    have hbr := of_decide_eq_true hbr
    refine g_seq ?_
    refine g_region ?_
    refine l_move rfl rfl ?_
    refine l_fieldAddr rfl fa_37_1 rfl ?_
    first | refine l_ld rfl Try.isAgg3 rfl rfl ?_ | refine l_ldw rfl Try.isAgg3 rfl (by omega) ?_
    refine l_fieldAddr rfl fa_37_3 rfl ?_
    first | refine l_ld rfl Try.isAgg23 rfl rfl ?_ | refine l_ldw rfl Try.isAgg23 rfl (by omega) ?_
    refine l_fronto g ?_
    refine l_frontb b ?_
    refine l_call rfl Try.call18 rfl (write_bad _ _ b g n c W hW hc hn _ _ (by first | omega | exact ov1) (by first | omega | exact ov2) (by first | exact h1 | exact ov3)) ?_; rintro _ _ ⟨rfl, rfl⟩
    refine l_assign rfl rfl ?_
    refine l_nil ?_
    refine g_seq ?_
    refine g_region ?_
    refine l_move rfl rfl ?_
    refine l_fieldAddr rfl fa_37_1 rfl ?_
    first | refine l_ld rfl Try.isAgg3 rfl rfl ?_ | refine l_ldw rfl Try.isAgg3 rfl (by omega) ?_
    refine l_fieldAddr rfl fa_37_3 rfl ?_
    first | refine l_ld rfl Try.isAgg23 rfl rfl ?_ | refine l_ldw rfl Try.isAgg23 rfl (by omega) ?_
    refine l_fronto g2 ?_
    refine l_frontb b2 ?_
    refine l_call rfl Try.call24 rfl (rwrite_bad _ _ b2 g2 n c2 W hW hc2 hn _ _ (by first | omega | exact ov1) (by first | omega | exact ov2) (by first | exact h1 | exact ov3)) ?_; rintro _ _ ⟨rfl, rfl⟩
    refine l_assign rfl rfl ?_
    refine l_nil ?_
    refine g_seq ?_
    refine g_seq ?_
    refine g_region ?_
    refine l_move rfl rfl ?_
    refine l_move rfl rfl ?_
    refine l_neq rfl rfl rfl ?_
    refine l_nil ?_
    refine g_cond rfl ?_ ?_
    · intro hbr
      have hbr := of_decide_eq_true hbr
      (exfalso; omega)
    intro hbr
    have hbr := of_decide_eq_false hbr
    refine g_skip ?_
    refine g_seq ?_
    refine gp_start mo (by kernel_rfl) (by kernel_rfl) ?_
    refine gp_quiet 0 rfl rfl rfl rfl rfl rfl (q_move rfl) ?_
    refine gp_quiet 1 rfl rfl rfl rfl rfl rfl (q_fieldAddr fa_37_1 rfl) ?_
    first | refine gp_quiet 2 rfl rfl rfl rfl rfl rfl (q_ld Try.isAgg3 rfl rfl) ?_ | refine gp_quiet 2 rfl rfl rfl rfl rfl rfl (q_ldw Try.isAgg3 rfl (by omega)) ?_
    first | refine gp_quiet 3 rfl rfl rfl rfl rfl rfl (q_add rfl rfl (w_i64 (by omega) (by omega))) ?_ | refine gp_quiet 3 rfl rfl rfl rfl rfl rfl (q_addw rfl rfl) ?_
    refine gp_quiet 4 rfl rfl rfl rfl rfl rfl (q_fieldAddr fa_37_3 rfl) ?_
    first | refine gp_quiet 5 rfl rfl rfl rfl rfl rfl (q_ld Try.isAgg23 rfl rfl) ?_ | refine gp_quiet 5 rfl rfl rfl rfl rfl rfl (q_ldw Try.isAgg23 rfl (by omega)) ?_
    first | refine gp_quiet 6 rfl rfl rfl rfl rfl rfl (q_add rfl rfl (w_u32 (by omega) (by omega))) ?_ | refine gp_quiet 6 rfl rfl rfl rfl rfl rfl (q_addm (m := 4294967296) wr_u32 rfl rfl) ?_
    refine gp_quiet 8 rfl rfl rfl rfl rfl rfl (q_move rfl) ?_
    refine gp_quiet 9 rfl rfl rfl rfl rfl rfl (q_fieldAddr fa_37_1 rfl) ?_
    first | refine gp_quiet 10 rfl rfl rfl rfl rfl rfl (q_ld Try.isAgg3 rfl rfl) ?_ | refine gp_quiet 10 rfl rfl rfl rfl rfl rfl (q_ldw Try.isAgg3 rfl (by omega)) ?_
    first | refine gp_quiet 11 rfl rfl rfl rfl rfl rfl (q_add rfl rfl (w_i64 (by omega) (by omega))) ?_ | refine gp_quiet 11 rfl rfl rfl rfl rfl rfl (q_addw rfl rfl) ?_
    refine gp_quiet 12 rfl rfl rfl rfl rfl rfl (q_fieldAddr fa_37_3 rfl) ?_
    first | refine gp_quiet 13 rfl rfl rfl rfl rfl rfl (q_ld Try.isAgg23 rfl rfl) ?_ | refine gp_quiet 13 rfl rfl rfl rfl rfl rfl (q_ldw Try.isAgg23 rfl (by omega)) ?_
    first | refine gp_quiet 14 rfl rfl rfl rfl rfl rfl (q_add rfl rfl (w_u32 (by omega) (by omega))) ?_ | refine gp_quiet 14 rfl rfl rfl rfl rfl rfl (q_addm (m := 4294967296) wr_u32 rfl rfl) ?_
    refine gp_fronto g ?_
    refine gp_frontb b ?_
    refine gp_eff 7 rfl rfl rfl rfl rfl rfl (does_call Try.call18 rfl (write_bad _ _ b g n c W hW hc hn _ _ (by first | omega | exact ov1) (by first | omega | exact ov2) (by first | exact h1 | exact ov3))) ?_
    rintro _ _ ⟨rfl, rfl⟩
    refine ⟨?_, ?_⟩
    · first | refine .cons rfl rfl rfl rfl rfl (q_add rfl rfl (w_u32 (by omega) (by omega))) ?_ | refine .cons rfl rfl rfl rfl rfl (q_addm (m := 4294967296) wr_u32 rfl rfl) ?_
      first | refine .cons rfl rfl rfl rfl rfl (q_ld Try.isAgg23 rfl rfl) ?_ | refine .cons rfl rfl rfl rfl rfl (q_ldw Try.isAgg23 rfl (by omega)) ?_
      refine .cons rfl rfl rfl rfl rfl (q_fieldAddr fa_37_3 rfl) ?_
      first | refine .cons rfl rfl rfl rfl rfl (q_add rfl rfl (w_i64 (by omega) (by omega))) ?_ | refine .cons rfl rfl rfl rfl rfl (q_addw rfl rfl) ?_
      first | refine .cons rfl rfl rfl rfl rfl (q_ld Try.isAgg3 rfl rfl) ?_ | refine .cons rfl rfl rfl rfl rfl (q_ldw Try.isAgg3 rfl (by omega)) ?_
      refine .cons rfl rfl rfl rfl rfl (q_fieldAddr fa_37_1 rfl) ?_
      refine .cons rfl rfl rfl rfl rfl (q_move rfl) ?_
      first | refine .cons rfl rfl rfl rfl rfl (q_add rfl rfl (w_u32 (by omega) (by omega))) ?_ | refine .cons rfl rfl rfl rfl rfl (q_addm (m := 4294967296) wr_u32 rfl rfl) ?_
      first | refine .cons rfl rfl rfl rfl rfl (q_ld Try.isAgg23 rfl rfl) ?_ | refine .cons rfl rfl rfl rfl rfl (q_ldw Try.isAgg23 rfl (by omega)) ?_
      refine .cons rfl rfl rfl rfl rfl (q_fieldAddr fa_37_3 rfl) ?_
      first | refine .cons rfl rfl rfl rfl rfl (q_add rfl rfl (w_i64 (by omega) (by omega))) ?_ | refine .cons rfl rfl rfl rfl rfl (q_addw rfl rfl) ?_
      first | refine .cons rfl rfl rfl rfl rfl (q_ld Try.isAgg3 rfl rfl) ?_ | refine .cons rfl rfl rfl rfl rfl (q_ldw Try.isAgg3 rfl (by omega)) ?_
      refine .cons rfl rfl rfl rfl rfl (q_fieldAddr fa_37_1 rfl) ?_
      refine .cons rfl rfl rfl rfl rfl (q_move rfl) ?_
      exact .nil
    refine gp_fronto g2 ?_
    refine gp_frontb b2 ?_
    refine gp_eff 15 rfl rfl rfl rfl rfl rfl (does_call Try.call24 rfl (rwrite_bad _ _ b2 g2 n c2 W hW hc2 hn _ _ (by first | omega | exact ov1) (by first | omega | exact ov2) (by first | exact h1 | exact ov3))) ?_
    rintro _ _ ⟨rfl, rfl⟩
    refine ⟨?_, ?_⟩
    · first | refine .cons rfl rfl rfl rfl rfl (q_add rfl rfl (w_u32 (by omega) (by omega))) ?_ | refine .cons rfl rfl rfl rfl rfl (q_addm (m := 4294967296) wr_u32 rfl rfl) ?_
      first | refine .cons rfl rfl rfl rfl rfl (q_ld Try.isAgg23 rfl rfl) ?_ | refine .cons rfl rfl rfl rfl rfl (q_ldw Try.isAgg23 rfl (by omega)) ?_
      refine .cons rfl rfl rfl rfl rfl (q_fieldAddr fa_37_3 rfl) ?_
      first | refine .cons rfl rfl rfl rfl rfl (q_add rfl rfl (w_i64 (by omega) (by omega))) ?_ | refine .cons rfl rfl rfl rfl rfl (q_addw rfl rfl) ?_
      first | refine .cons rfl rfl rfl rfl rfl (q_ld Try.isAgg3 rfl rfl) ?_ | refine .cons rfl rfl rfl rfl rfl (q_ldw Try.isAgg3 rfl (by omega)) ?_
      refine .cons rfl rfl rfl rfl rfl (q_fieldAddr fa_37_1 rfl) ?_
      refine .cons rfl rfl rfl rfl rfl (q_move rfl) ?_
      first | refine .cons rfl rfl rfl rfl rfl (q_add rfl rfl (w_u32 (by omega) (by omega))) ?_ | refine .cons rfl rfl rfl rfl rfl (q_addm (m := 4294967296) wr_u32 rfl rfl) ?_
      first | refine .cons rfl rfl rfl rfl rfl (q_ld Try.isAgg23 rfl rfl) ?_ | refine .cons rfl rfl rfl rfl rfl (q_ldw Try.isAgg23 rfl (by omega)) ?_
      refine .cons rfl rfl rfl rfl rfl (q_fieldAddr fa_37_3 rfl) ?_
      first | refine .cons rfl rfl rfl rfl rfl (q_add rfl rfl (w_i64 (by omega) (by omega))) ?_ | refine .cons rfl rfl rfl rfl rfl (q_addw rfl rfl) ?_
      first | refine .cons rfl rfl rfl rfl rfl (q_ld Try.isAgg3 rfl rfl) ?_ | refine .cons rfl rfl rfl rfl rfl (q_ldw Try.isAgg3 rfl (by omega)) ?_
      refine .cons rfl rfl rfl rfl rfl (q_fieldAddr fa_37_1 rfl) ?_
      refine .cons rfl rfl rfl rfl rfl (q_move rfl) ?_
      exact .nil
    refine gp_quiet 16 rfl rfl rfl rfl rfl rfl (q_eql rfl rfl) ?_
    refine gp_quiet 17 rfl rfl rfl rfl rfl rfl (q_assign rfl) ?_
    refine gp_end rfl rfl ?_
    refine g_ret Try.func10 rfl (.tmp rfl .nil) ?_
    refine Gives.mki ⟨?_, W, hW, hU, rfl⟩
    (first | rfl | (simp only [resVal, decide_true, Bool.and_true, Bool.true_and, beq_self_eq_true]))
  · intro hbr
    have hbr := of_decide_eq_false hbr
    (exfalso; omega)
set_option maxHeartbeats 4000000 in
theorem one_nil (w0 : World) (F : List Atom) (b g n c b2 g2 c2 : Nat) (W : List Int) (hW : W.length = n) (hc : n ≤ c) (hc2 : n ≤ c2) (hn : n ≤ 1073741824) (hU : U32s W) (kd at_ kk x : Int) (a0 : -9223372036854775808 ≤ at_) (a1 : at_ ≤ 9223372036854775807) (k0 : -9223372036854775808 ≤ kk) (k1 : kk ≤ 9223372036854775807) (x0 : 0 ≤ x) (x1 : x ≤ 4294967295) (hk : kd ≠ 0 ∧ kd ≠ 1 ∧ kd ≠ 2 ∧ kd ≠ 3) :
    CallK Try.prog 10 [.pointer (some ⟨b, 0, none⟩), .pointer (some ⟨b2, 0, none⟩), .agg [Value.int .i64 kd, .int .i64 at_, .int .i64 kk, .int .u32 x].toArray] w0 (Blk b (.cells [.slice (some ⟨g, 0, none⟩) n c].toArray 56 (0, 0)) :: Own 23 1 (.slice (some ⟨g, 0, none⟩) n c) n (ints .u32 W) :: Blk b2 (.cells [.slice (some ⟨g2, 0, none⟩) n c2].toArray 58 (0, 0)) :: Own 23 1 (.slice (some ⟨g2, 0, none⟩) n c2) n (ints .u32 W) :: F) (Gives w0 fun v F2 => v = .bool true ∧ ∃ W2, W2.length = n ∧ U32s W2 ∧ F2 = Blk b (.cells [.slice (some ⟨g, 0, none⟩) n c].toArray 56 (0, 0)) :: Own 23 1 (.slice (some ⟨g, 0, none⟩) n c) n (ints .u32 W2) :: Blk b2 (.cells [.slice (some ⟨g2, 0, none⟩) n c2].toArray 58 (0, 0)) :: Own 23 1 (.slice (some ⟨g2, 0, none⟩) n c2) n (ints .u32 W2) :: F) := by
  refine c_enter Try.func10 rfl rfl rfl ?_
  refine g_seq ?_
  refine g_region ?_
  refine l_boxs rfl rfl ?_; intro b5
  refine l_assign rfl rfl ?_
  refine l_nil ?_
  refine g_seq ?_
  refine g_seq ?_
  refine g_region ?_
  refine l_fieldAddr rfl fa_37_0 rfl ?_
  first | refine l_ld rfl Try.isAgg3 rfl rfl ?_ | refine l_ldw rfl Try.isAgg3 rfl (by omega) ?_
  refine l_nil ?_
  refine g_block ?_
  refine g_seq ?_
  refine g_region ?_
  refine l_eql rfl rfl rfl ?_
  refine l_assign rfl rfl ?_
  refine l_nil ?_
  refine g_cond rfl ?_ ?_
  · intro hbr
    have hbr := of_decide_eq_true hbr
    (exfalso; omega)
  intro hbr
  have hbr := of_decide_eq_false hbr
  refine g_seq ?_
  refine g_region ?_
  refine l_eql rfl rfl rfl ?_
  refine l_assign rfl rfl ?_
  refine l_nil ?_
  refine g_cond rfl ?_ ?_
  · intro hbr
    have hbr := of_decide_eq_true hbr
    (exfalso; omega)
  intro hbr
  have hbr := of_decide_eq_false hbr
  refine g_seq ?_
  refine g_region ?_
  refine l_eql rfl rfl rfl ?_
  refine l_assign rfl rfl ?_
  refine l_nil ?_
  refine g_cond rfl ?_ ?_
  · intro hbr
    have hbr := of_decide_eq_true hbr
    (exfalso; omega)
  intro hbr
  have hbr := of_decide_eq_false hbr
  refine g_seq ?_
  refine g_region ?_
  refine l_eql rfl rfl rfl ?_
  refine l_assign rfl rfl ?_
  refine l_nil ?_
  refine g_cond rfl ?_ ?_
  · intro hbr
    have hbr := of_decide_eq_true hbr
    (exfalso; omega)
  intro hbr
  have hbr := of_decide_eq_false hbr
  refine g_skip ?_
  refine g_inBlock ?_
  refine g_seq ?_
  refine g_region ?_
  refine l_fieldAddr rfl fa_37_1 rfl ?_
  first | refine l_ld rfl Try.isAgg3 rfl rfl ?_ | refine l_ldw rfl Try.isAgg3 rfl (by omega) ?_
  refine l_call rfl Try.call13 rfl (look_nil _ _ _) ?_; rintro _ _ ⟨rfl, rfl⟩
  refine l_move rfl rfl ?_
  refine l_extract rfl rfl rfl ?_
  refine l_extract rfl rfl rfl ?_
  refine l_allocs rfl Try.zeroValue42 ?_; intro b18
  refine l_sts Try.sizeOf42 rfl rfl rfl rfl rfl ?_
  refine l_assign rfl rfl ?_
  refine l_nil ?_
  refine g_seq ?_
  refine g_region ?_
  refine l_fieldAddr rfl fa_37_1 rfl ?_
  first | refine l_ld rfl Try.isAgg3 rfl rfl ?_ | refine l_ldw rfl Try.isAgg3 rfl (by omega) ?_
  refine l_fieldAddr rfl fa_37_2 rfl ?_
  first | refine l_ld rfl Try.isAgg3 rfl rfl ?_ | refine l_ldw rfl Try.isAgg3 rfl (by omega) ?_
  refine l_call rfl Try.call14 rfl (come_nil _ _ _ _) ?_; rintro _ _ ⟨rfl, rfl⟩
  refine l_move rfl rfl ?_
  refine l_extract rfl rfl rfl ?_
  refine l_extract rfl rfl rfl ?_
  refine l_assign rfl rfl ?_
  refine l_assign rfl rfl ?_
  refine l_nil ?_
  refine g_seq ?_
  refine g_region ?_
  refine l_lds rfl Try.isAgg42 Try.sizeOf42 rfl rfl ?_
  refine l_build rfl rfl (fun w => bd_42_z w) ?_
  refine l_bin rfl rfl rfl (fun w => run_eqGuard_agg w _ _ _ _ _ _ Try.eqGuardType42) (fun w => sqe_42 _ _ _ _ w) ?_
  refine l_move rfl rfl ?_
  refine l_split 145 rfl ?_ ?_
  · intro hbr
    refine l_guard_yes rfl rfl ?_
    refine l_move rfl rfl ?_
    refine l_guard_yes rfl rfl ?_
    refine l_eql rfl rfl rfl ?_
    refine l_pick_t rfl rfl rfl ?_
    refine l_move rfl rfl ?_
    refine l_split 149 rfl ?_ ?_
    · intro hbr
      have hbr := of_decide_eq_true hbr
      refine l_guard_yes rfl rfl ?_
      refine l_move rfl rfl ?_
      refine l_guard_yes rfl rfl ?_
      refine l_not rfl rfl ?_
      refine l_pick_t rfl rfl rfl ?_
      refine l_move rfl rfl ?_
      refine l_split 153 rfl ?_ ?_
      · intro hbr
        refine l_guard_yes rfl rfl ?_
        refine l_move rfl rfl ?_
        refine l_guard_yes rfl rfl ?_
        refine l_eql rfl rfl rfl ?_
        refine l_pick_t rfl rfl rfl ?_
        refine l_move rfl rfl ?_
        refine l_split 157 rfl ?_ ?_
        · intro hbr
          have hbr := of_decide_eq_true hbr
          refine l_guard_yes rfl rfl ?_
          refine l_fieldAddr rfl fa_37_1 rfl ?_
          refine l_guard_yes rfl rfl ?_
          first | refine l_ld rfl Try.isAgg3 rfl rfl ?_ | refine l_ldw rfl Try.isAgg3 rfl (by omega) ?_
          refine l_guard_yes rfl rfl ?_
          refine l_fieldAddr rfl fa_37_2 rfl ?_
          refine l_guard_yes rfl rfl ?_
          first | refine l_ld rfl Try.isAgg3 rfl rfl ?_ | refine l_ldw rfl Try.isAgg3 rfl (by omega) ?_
          refine l_guard_yes rfl rfl ?_
          refine l_call rfl Try.call15 rfl (open_nil _ _ _ _) ?_; rintro _ _ ⟨rfl, rfl⟩
          refine l_guard_yes rfl rfl ?_
          refine l_eql rfl rfl rfl ?_
          refine l_pick_t rfl rfl rfl ?_
          refine l_assign rfl rfl ?_
          refine l_nil ?_
          refine g_ret Try.func10 rfl (.tmp rfl .nil) ?_
          refine Gives.mki ⟨?_, W, hW, hU, rfl⟩
          (first | rfl | (simp only [resVal, decide_true, Bool.and_true, Bool.true_and, beq_self_eq_true]))
        · intro hbr
          have hbr := of_decide_eq_false hbr
          (exfalso; omega)
      · intro hbr
        first | (exfalso; simp at hbr; done) | (exfalso; simp at hbr; omega)
    · intro hbr
      have hbr := of_decide_eq_false hbr
      (exfalso; omega)
  · intro hbr
    first | (exfalso; simp at hbr; done) | (exfalso; simp at hbr; omega)
end Go.Proofs.Ytoflbmjdpngdiaa.Fw
