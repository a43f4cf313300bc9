import Derived.Test.YtlgcghhjgcdigaaMore
namespace Go.Proofs.Ytlgcghhjgcdigaa.Fw
open Go Go.Proofs
set_option linter.unusedVariables false
set_option linter.unusedSimpArgs false
set_option maxRecDepth 10000
theorem fa_58_0 (a : Addr) (w : World) : (Instr.fieldAt 58 (.pointer (some a)) 0).run Try.prog w = .ok (.pointer (some (a.add 0))) w := by
  simp [Instr.fieldAt, Try.runUnderlying58, Instr.sureAddr, fieldPlace, Try.sizeOf3, Sem.run_bind, Sem.run_pure]
theorem fa_58_1 (a : Addr) (w : World) : (Instr.fieldAt 58 (.pointer (some a)) 1).run Try.prog w = .ok (.pointer (some (a.add 1))) w := by
  simp [Instr.fieldAt, Try.runUnderlying58, Instr.sureAddr, fieldPlace, Try.sizeOf3, Sem.run_bind, Sem.run_pure]
theorem fa_58_4 (a : Addr) (w : World) : (Instr.fieldAt 58 (.pointer (some a)) 4).run Try.prog w = .ok (.pointer (some (a.add 4))) w := by
  simp [Instr.fieldAt, Try.runUnderlying58, Instr.sureAddr, fieldPlace, Try.sizeOf30, Sem.run_bind, Sem.run_pure]
theorem fa_58_5 (a : Addr) (w : World) : (Instr.fieldAt 58 (.pointer (some a)) 5).run Try.prog w = .ok (.pointer (some (a.add 5))) w := by
  simp [Instr.fieldAt, Try.runUnderlying58, Instr.sureAddr, fieldPlace, Try.sizeOf23, Sem.run_bind, Sem.run_pure]
theorem fa_58_2 (a : Addr) (w : World) : (Instr.fieldAt 58 (.pointer (some a)) 2).run Try.prog w = .ok (.pointer (some (a.add 2))) w := by
  simp [Instr.fieldAt, Try.runUnderlying58, Instr.sureAddr, fieldPlace, Try.sizeOf3, Sem.run_bind, Sem.run_pure]
theorem fa_58_3 (a : Addr) (w : World) : (Instr.fieldAt 58 (.pointer (some a)) 3).run Try.prog w = .ok (.pointer (some (a.add 3))) w := by
  simp [Instr.fieldAt, Try.runUnderlying58, Instr.sureAddr, fieldPlace, Try.sizeOf3, Sem.run_bind, Sem.run_pure]
theorem does_write_ok (w0 : World) (F : List Atom) (b g n c : Nat) (W : List Int) (hW : W.length = n) (hc : n ≤ c) (hn : n ≤ 1073741824) (kd a bb cc w : Int) (d0 : -9223372036854775808 ≤ kd) (d1 : kd ≤ 9223372036854775807) (a0 : -9223372036854775808 ≤ a) (a1 : a ≤ 9223372036854775807) (b0 : -9223372036854775808 ≤ bb) (b1 : bb ≤ 9223372036854775807) (c0 : -9223372036854775808 ≤ cc) (c1 : cc ≤ 9223372036854775807) (sa : Option Addr) (sn sc : Nat) (hs : sn ≤ 9223372036854775807) (hk : pk kd 4 = 0) (h : inR n a 1) :
    CallK Try.prog 20 [.pointer (some ⟨b, 0, none⟩), .agg [Value.int .i64 kd, .int .i64 a, .int .i64 bb, .int .i64 cc, .int .u32 w, .slice sa sn sc].toArray] w0 (Blk b (.cells [.slice (some ⟨g, 0, none⟩) n c].toArray 77 (0, 0)) :: Own 30 1 (.slice (some ⟨g, 0, none⟩) n c) n (ints .u32 W) :: F) (Gives w0 fun v F2 => v = .tuple #[.int .i64 a, .int .i64 1, .int .i64 0] ∧ F2 = Blk b (.cells [.slice (some ⟨g, 0, none⟩) n c].toArray 77 (0, 0)) :: Own 30 1 (.slice (some ⟨g, 0, none⟩) n c) n (ints .u32 (W.set a.toNat w)) :: F) := by
  have hI := h
  unfold inR at hI
  refine c_enter Try.func20 rfl rfl rfl ?_
  refine g_seq ?_
  refine g_region ?_
  refine l_boxs rfl rfl ?_; intro b3
  refine l_assign rfl rfl ?_
  refine l_assign rfl rfl ?_
  refine l_assign rfl rfl ?_
  refine l_nil ?_
  refine g_seq ?_
  refine g_seq ?_
  refine g_region ?_
  refine l_fieldAddr rfl fa_58_0 rfl ?_
  first | refine l_ld rfl Try.isAgg3 rfl rfl ?_ | refine l_ldw rfl Try.isAgg3 rfl (by omega) ?_
  refine l_call rfl Try.call8 rfl (pick_ok _ _ _ _ (by omega) (by omega) (by omega) (by omega)) ?_; rintro _ _ ⟨rfl, rfl⟩
  refine l_nil ?_
  refine g_block ?_
  refine g_seq ?_
  refine g_region ?_
  refine l_eql rfl rfl rfl ?_
  refine l_assign rfl rfl ?_
  refine l_nil ?_
  refine g_cond rfl ?_ ?_
  · intro hbr
    have hbr := of_decide_eq_true hbr
    refine g_seq ?_
    refine gp_start mo (by kernel_rfl) (by kernel_rfl) ?_
    refine gp_quiet 0 rfl rfl rfl rfl rfl rfl (q_fieldAddr fa_58_1 rfl) ?_
    first | refine gp_quiet 1 rfl rfl rfl rfl rfl rfl (q_ld Try.isAgg3 rfl rfl) ?_ | refine gp_quiet 1 rfl rfl rfl rfl rfl rfl (q_ldw Try.isAgg3 rfl (by omega)) ?_
    refine gp_quiet 2 rfl rfl rfl rfl rfl rfl (q_move rfl) ?_
    refine gp_quiet 3 rfl rfl rfl rfl rfl rfl (q_fieldAddr fa_58_1 rfl) ?_
    first | refine gp_quiet 4 rfl rfl rfl rfl rfl rfl (q_ld Try.isAgg3 rfl rfl) ?_ | refine gp_quiet 4 rfl rfl rfl rfl rfl rfl (q_ldw Try.isAgg3 rfl (by omega)) ?_
    refine gp_quiet 5 rfl rfl rfl rfl rfl rfl (q_fieldAddr fa_58_4 rfl) ?_
    first | refine gp_quiet 6 rfl rfl rfl rfl rfl rfl (q_ld Try.isAgg30 rfl rfl) ?_ | refine gp_quiet 6 rfl rfl rfl rfl rfl rfl (q_ldw Try.isAgg30 rfl (by omega)) ?_
    refine gp_fronto g ?_
    refine gp_frontb b ?_
    refine gp_eff 7 rfl rfl rfl rfl rfl rfl (does_call Try.call10 rfl (write_ok _ _ b g n c W hW hc hn _ _ (by omega) h)) ?_
    rintro _ _ ⟨rfl, rfl⟩
    refine ⟨?_, ?_⟩
    · first | refine .cons rfl rfl rfl rfl rfl (q_ld Try.isAgg30 rfl rfl) ?_ | refine .cons rfl rfl rfl rfl rfl (q_ldw Try.isAgg30 rfl (by omega)) ?_
      refine .cons rfl rfl rfl rfl rfl (q_fieldAddr fa_58_4 rfl) ?_
      first | refine .cons rfl rfl rfl rfl rfl (q_ld Try.isAgg3 rfl rfl) ?_ | refine .cons rfl rfl rfl rfl rfl (q_ldw Try.isAgg3 rfl (by omega)) ?_
      refine .cons rfl rfl rfl rfl rfl (q_fieldAddr fa_58_1 rfl) ?_
      refine .cons rfl rfl rfl rfl rfl (q_move rfl) ?_
      first | refine .cons rfl rfl rfl rfl rfl (q_ld Try.isAgg3 rfl rfl) ?_ | refine .cons rfl rfl rfl rfl rfl (q_ldw Try.isAgg3 rfl (by omega)) ?_
      refine .cons rfl rfl rfl rfl rfl (q_fieldAddr fa_58_1 rfl) ?_
      exact .nil
    refine gp_quiet 8 rfl rfl rfl rfl rfl rfl (q_assign rfl) ?_
    refine gp_quiet 9 rfl rfl rfl rfl rfl rfl (q_assign rfl) ?_
    refine gp_quiet 10 rfl rfl rfl rfl rfl rfl (q_assign rfl) ?_
    refine gp_end rfl rfl ?_
    refine g_ret Try.func20 rfl (.tmp rfl (.tmp rfl (.tmp rfl .nil))) ?_
    exact Gives.mki ⟨rfl, rfl⟩
  · intro hbr
    have hbr := of_decide_eq_false hbr
    (exfalso; omega)
theorem does_write_bad (w0 : World) (F : List Atom) (b g n c : Nat) (W : List Int) (hW : W.length = n) (hc : n ≤ c) (hn : n ≤ 1073741824) (kd a bb cc w : Int) (d0 : -9223372036854775808 ≤ kd) (d1 : kd ≤ 9223372036854775807) (a0 : -9223372036854775808 ≤ a) (a1 : a ≤ 9223372036854775807) (b0 : -9223372036854775808 ≤ bb) (b1 : bb ≤ 9223372036854775807) (c0 : -9223372036854775808 ≤ cc) (c1 : cc ≤ 9223372036854775807) (sa : Option Addr) (sn sc : Nat) (hs : sn ≤ 9223372036854775807) (hk : pk kd 4 = 0) (h : ¬ inR n a 1) :
    CallK Try.prog 20 [.pointer (some ⟨b, 0, none⟩), .agg [Value.int .i64 kd, .int .i64 a, .int .i64 bb, .int .i64 cc, .int .u32 w, .slice sa sn sc].toArray] w0 (Blk b (.cells [.slice (some ⟨g, 0, none⟩) n c].toArray 77 (0, 0)) :: Own 30 1 (.slice (some ⟨g, 0, none⟩) n c) n (ints .u32 W) :: F) (Gives w0 fun v F2 => v = .tuple #[.int .i64 a, .int .i64 1, .int .i64 51] ∧ F2 = Blk b (.cells [.slice (some ⟨g, 0, none⟩) n c].toArray 77 (0, 0)) :: Own 30 1 (.slice (some ⟨g, 0, none⟩) n c) n (ints .u32 W) :: F) := by
  have hI := h
  unfold inR at hI
  refine c_enter Try.func20 rfl rfl rfl ?_
  refine g_seq ?_
  refine g_region ?_
  refine l_boxs rfl rfl ?_; intro b3
  refine l_assign rfl rfl ?_
  refine l_assign rfl rfl ?_
  refine l_assign rfl rfl ?_
  refine l_nil ?_
  refine g_seq ?_
  refine g_seq ?_
  refine g_region ?_
  refine l_fieldAddr rfl fa_58_0 rfl ?_
  first | refine l_ld rfl Try.isAgg3 rfl rfl ?_ | refine l_ldw rfl Try.isAgg3 rfl (by omega) ?_
  refine l_call rfl Try.call8 rfl (pick_ok _ _ _ _ (by omega) (by omega) (by omega) (by omega)) ?_; rintro _ _ ⟨rfl, rfl⟩
  refine l_nil ?_
  refine g_block ?_
  refine g_seq ?_
  refine g_region ?_
  refine l_eql rfl rfl rfl ?_
  refine l_assign rfl rfl ?_
  refine l_nil ?_
  refine g_cond rfl ?_ ?_
  · intro hbr
    have hbr := of_decide_eq_true hbr
    refine g_seq ?_
    refine gp_start mo (by kernel_rfl) (by kernel_rfl) ?_
    refine gp_quiet 0 rfl rfl rfl rfl rfl rfl (q_fieldAddr fa_58_1 rfl) ?_
    first | refine gp_quiet 1 rfl rfl rfl rfl rfl rfl (q_ld Try.isAgg3 rfl rfl) ?_ | refine gp_quiet 1 rfl rfl rfl rfl rfl rfl (q_ldw Try.isAgg3 rfl (by omega)) ?_
    refine gp_quiet 2 rfl rfl rfl rfl rfl rfl (q_move rfl) ?_
    refine gp_quiet 3 rfl rfl rfl rfl rfl rfl (q_fieldAddr fa_58_1 rfl) ?_
    first | refine gp_quiet 4 rfl rfl rfl rfl rfl rfl (q_ld Try.isAgg3 rfl rfl) ?_ | refine gp_quiet 4 rfl rfl rfl rfl rfl rfl (q_ldw Try.isAgg3 rfl (by omega)) ?_
    refine gp_quiet 5 rfl rfl rfl rfl rfl rfl (q_fieldAddr fa_58_4 rfl) ?_
    first | refine gp_quiet 6 rfl rfl rfl rfl rfl rfl (q_ld Try.isAgg30 rfl rfl) ?_ | refine gp_quiet 6 rfl rfl rfl rfl rfl rfl (q_ldw Try.isAgg30 rfl (by omega)) ?_
    refine gp_fronto g ?_
    refine gp_frontb b ?_
    refine gp_eff 7 rfl rfl rfl rfl rfl rfl (does_call Try.call10 rfl (write_bad _ _ b g n c W hW hc hn _ _ (by omega) (by omega) h)) ?_
    rintro _ _ ⟨rfl, rfl⟩
    refine ⟨?_, ?_⟩
    · first | refine .cons rfl rfl rfl rfl rfl (q_ld Try.isAgg30 rfl rfl) ?_ | refine .cons rfl rfl rfl rfl rfl (q_ldw Try.isAgg30 rfl (by omega)) ?_
      refine .cons rfl rfl rfl rfl rfl (q_fieldAddr fa_58_4 rfl) ?_
      first | refine .cons rfl rfl rfl rfl rfl (q_ld Try.isAgg3 rfl rfl) ?_ | refine .cons rfl rfl rfl rfl rfl (q_ldw Try.isAgg3 rfl (by omega)) ?_
      refine .cons rfl rfl rfl rfl rfl (q_fieldAddr fa_58_1 rfl) ?_
      refine .cons rfl rfl rfl rfl rfl (q_move rfl) ?_
      first | refine .cons rfl rfl rfl rfl rfl (q_ld Try.isAgg3 rfl rfl) ?_ | refine .cons rfl rfl rfl rfl rfl (q_ldw Try.isAgg3 rfl (by omega)) ?_
      refine .cons rfl rfl rfl rfl rfl (q_fieldAddr fa_58_1 rfl) ?_
      exact .nil
    refine gp_quiet 8 rfl rfl rfl rfl rfl rfl (q_assign rfl) ?_
    refine gp_quiet 9 rfl rfl rfl rfl rfl rfl (q_assign rfl) ?_
    refine gp_quiet 10 rfl rfl rfl rfl rfl rfl (q_assign rfl) ?_
    refine gp_end rfl rfl ?_
    refine g_ret Try.func20 rfl (.tmp rfl (.tmp rfl (.tmp rfl .nil))) ?_
    exact Gives.mki ⟨rfl, rfl⟩
  · intro hbr
    have hbr := of_decide_eq_false hbr
    (exfalso; omega)
theorem does_lay_ok (w0 : World) (F : List Atom) (b g n c : Nat) (W : List Int) (hW : W.length = n) (hc : n ≤ c) (hn : n ≤ 1073741824) (kd a bb cc w : Int) (d0 : -9223372036854775808 ≤ kd) (d1 : kd ≤ 9223372036854775807) (a0 : -9223372036854775808 ≤ a) (a1 : a ≤ 9223372036854775807) (b0 : -9223372036854775808 ≤ bb) (b1 : bb ≤ 9223372036854775807) (c0 : -9223372036854775808 ≤ cc) (c1 : cc ≤ 9223372036854775807) (b2 o2 : Nat) (sn sc : Nat) (Y : List Int) (hY : Y.length = sn) (hr : RowAt w0 F b2 o2 (ints .u32 Y)) (hs : sn ≤ 9223372036854775807) (hk : pk kd 4 = 1) (h : inR n a sn) :
    CallK Try.prog 20 [.pointer (some ⟨b, 0, none⟩), .agg [Value.int .i64 kd, .int .i64 a, .int .i64 bb, .int .i64 cc, .int .u32 w, .slice (some ⟨b2, o2, none⟩) sn sc].toArray] w0 (Blk b (.cells [.slice (some ⟨g, 0, none⟩) n c].toArray 77 (0, 0)) :: Own 30 1 (.slice (some ⟨g, 0, none⟩) n c) n (ints .u32 W) :: F) (Gives w0 fun v F2 => v = .tuple #[.int .i64 a, .int .i64 (sn : Int), .int .i64 0] ∧ F2 = Blk b (.cells [.slice (some ⟨g, 0, none⟩) n c].toArray 77 (0, 0)) :: Own 30 1 (.slice (some ⟨g, 0, none⟩) n c) n (ints .u32 (spl a.toNat Y W)) :: F) := by
  have hI := h
  unfold inR at hI
  refine c_enter Try.func20 rfl rfl rfl ?_
  refine g_seq ?_
  refine g_region ?_
  refine l_boxs rfl rfl ?_; intro b3
  refine l_assign rfl rfl ?_
  refine l_assign rfl rfl ?_
  refine l_assign rfl rfl ?_
  refine l_nil ?_
  refine g_seq ?_
  refine g_seq ?_
  refine g_region ?_
  refine l_fieldAddr rfl fa_58_0 rfl ?_
  first | refine l_ld rfl Try.isAgg3 rfl rfl ?_ | refine l_ldw rfl Try.isAgg3 rfl (by omega) ?_
  refine l_call rfl Try.call8 rfl (pick_ok _ _ _ _ (by omega) (by omega) (by omega) (by omega)) ?_; rintro _ _ ⟨rfl, rfl⟩
  refine l_nil ?_
  refine g_block ?_
  refine g_seq ?_
  refine g_region ?_
  refine l_eql rfl rfl rfl ?_
  refine l_assign rfl rfl ?_
  refine l_nil ?_
  refine g_cond rfl ?_ ?_
  · intro hbr
    have hbr := of_decide_eq_true hbr
    (exfalso; omega)
  intro hbr
  have hbr := of_decide_eq_false hbr
  refine g_seq ?_
  refine g_region ?_
  refine l_eql rfl rfl rfl ?_
  refine l_assign rfl rfl ?_
  refine l_nil ?_
  refine g_cond rfl ?_ ?_
  · intro hbr
    have hbr := of_decide_eq_true hbr
    refine g_seq ?_
    refine gp_start mo (by kernel_rfl) (by kernel_rfl) ?_
    refine gp_quiet 0 rfl rfl rfl rfl rfl rfl (q_fieldAddr fa_58_1 rfl) ?_
    first | refine gp_quiet 1 rfl rfl rfl rfl rfl rfl (q_ld Try.isAgg3 rfl rfl) ?_ | refine gp_quiet 1 rfl rfl rfl rfl rfl rfl (q_ldw Try.isAgg3 rfl (by omega)) ?_
    refine gp_quiet 2 rfl rfl rfl rfl rfl rfl (q_fieldAddr fa_58_5 rfl) ?_
    refine gp_quiet 3 rfl rfl rfl rfl rfl rfl (q_ld Try.isAgg23 rfl rfl) ?_
    refine gp_quiet 4 rfl rfl rfl rfl rfl rfl (q_len Try.underlying23 rfl) ?_
    refine gp_quiet 5 rfl rfl rfl rfl rfl rfl (q_move rfl) ?_
    refine gp_quiet 6 rfl rfl rfl rfl rfl rfl (q_fieldAddr fa_58_1 rfl) ?_
    first | refine gp_quiet 7 rfl rfl rfl rfl rfl rfl (q_ld Try.isAgg3 rfl rfl) ?_ | refine gp_quiet 7 rfl rfl rfl rfl rfl rfl (q_ldw Try.isAgg3 rfl (by omega)) ?_
    refine gp_quiet 8 rfl rfl rfl rfl rfl rfl (q_fieldAddr fa_58_5 rfl) ?_
    refine gp_quiet 9 rfl rfl rfl rfl rfl rfl (q_ld Try.isAgg23 rfl rfl) ?_
    refine gp_fronto g ?_
    refine gp_frontb b ?_
    refine gp_eff 10 rfl rfl rfl rfl rfl rfl (does_call Try.call36 rfl (lay_ok _ _ b g n c W hW hc hn _ (by omega) b2 o2 _ _ Y hY (by omega) hr.ex h)) ?_
    rintro _ _ ⟨rfl, rfl⟩
    refine ⟨?_, ?_⟩
    · refine .cons rfl rfl rfl rfl rfl (q_ld Try.isAgg23 rfl rfl) ?_
      refine .cons rfl rfl rfl rfl rfl (q_fieldAddr fa_58_5 rfl) ?_
      first | refine .cons rfl rfl rfl rfl rfl (q_ld Try.isAgg3 rfl rfl) ?_ | refine .cons rfl rfl rfl rfl rfl (q_ldw Try.isAgg3 rfl (by omega)) ?_
      refine .cons rfl rfl rfl rfl rfl (q_fieldAddr fa_58_1 rfl) ?_
      refine .cons rfl rfl rfl rfl rfl (q_move rfl) ?_
      refine .cons rfl rfl rfl rfl rfl (q_len Try.underlying23 rfl) ?_
      refine .cons rfl rfl rfl rfl rfl (q_ld Try.isAgg23 rfl rfl) ?_
      refine .cons rfl rfl rfl rfl rfl (q_fieldAddr fa_58_5 rfl) ?_
      first | refine .cons rfl rfl rfl rfl rfl (q_ld Try.isAgg3 rfl rfl) ?_ | refine .cons rfl rfl rfl rfl rfl (q_ldw Try.isAgg3 rfl (by omega)) ?_
      refine .cons rfl rfl rfl rfl rfl (q_fieldAddr fa_58_1 rfl) ?_
      exact .nil
    refine gp_quiet 11 rfl rfl rfl rfl rfl rfl (q_assign rfl) ?_
    refine gp_quiet 12 rfl rfl rfl rfl rfl rfl (q_assign rfl) ?_
    refine gp_quiet 13 rfl rfl rfl rfl rfl rfl (q_assign rfl) ?_
    refine gp_end rfl rfl ?_
    refine g_ret Try.func20 rfl (.tmp rfl (.tmp rfl (.tmp rfl .nil))) ?_
    exact Gives.mki ⟨rfl, rfl⟩
  · intro hbr
    have hbr := of_decide_eq_false hbr
    (exfalso; omega)
theorem does_lay_zero (w0 : World) (F : List Atom) (b g n c : Nat) (W : List Int) (hW : W.length = n) (hc : n ≤ c) (hn : n ≤ 1073741824) (kd a bb cc w : Int) (d0 : -9223372036854775808 ≤ kd) (d1 : kd ≤ 9223372036854775807) (a0 : -9223372036854775808 ≤ a) (a1 : a ≤ 9223372036854775807) (b0 : -9223372036854775808 ≤ bb) (b1 : bb ≤ 9223372036854775807) (c0 : -9223372036854775808 ≤ cc) (c1 : cc ≤ 9223372036854775807) (sa : Option Addr) (sc : Nat) (hk : pk kd 4 = 1) (h : inR n a 0) :
    CallK Try.prog 20 [.pointer (some ⟨b, 0, none⟩), .agg [Value.int .i64 kd, .int .i64 a, .int .i64 bb, .int .i64 cc, .int .u32 w, .slice sa 0 sc].toArray] w0 (Blk b (.cells [.slice (some ⟨g, 0, none⟩) n c].toArray 77 (0, 0)) :: Own 30 1 (.slice (some ⟨g, 0, none⟩) n c) n (ints .u32 W) :: F) (Gives w0 fun v F2 => v = .tuple #[.int .i64 a, .int .i64 0, .int .i64 0] ∧ F2 = Blk b (.cells [.slice (some ⟨g, 0, none⟩) n c].toArray 77 (0, 0)) :: Own 30 1 (.slice (some ⟨g, 0, none⟩) n c) n (ints .u32 W) :: F) := by
  have hI := h
  unfold inR at hI
  refine c_enter Try.func20 rfl rfl rfl ?_
  refine g_seq ?_
  refine g_region ?_
  refine l_boxs rfl rfl ?_; intro b3
  refine l_assign rfl rfl ?_
  refine l_assign rfl rfl ?_
  refine l_assign rfl rfl ?_
  refine l_nil ?_
  refine g_seq ?_
  refine g_seq ?_
  refine g_region ?_
  refine l_fieldAddr rfl fa_58_0 rfl ?_
  first | refine l_ld rfl Try.isAgg3 rfl rfl ?_ | refine l_ldw rfl Try.isAgg3 rfl (by omega) ?_
  refine l_call rfl Try.call8 rfl (pick_ok _ _ _ _ (by omega) (by omega) (by omega) (by omega)) ?_; rintro _ _ ⟨rfl, rfl⟩
  refine l_nil ?_
  refine g_block ?_
  refine g_seq ?_
  refine g_region ?_
  refine l_eql rfl rfl rfl ?_
  refine l_assign rfl rfl ?_
  refine l_nil ?_
  refine g_cond rfl ?_ ?_
  · intro hbr
    have hbr := of_decide_eq_true hbr
    (exfalso; omega)
  intro hbr
  have hbr := of_decide_eq_false hbr
  refine g_seq ?_
  refine g_region ?_
  refine l_eql rfl rfl rfl ?_
  refine l_assign rfl rfl ?_
  refine l_nil ?_
  refine g_cond rfl ?_ ?_
  · intro hbr
    have hbr := of_decide_eq_true hbr
    refine g_seq ?_
    refine gp_start mo (by kernel_rfl) (by kernel_rfl) ?_
    refine gp_quiet 0 rfl rfl rfl rfl rfl rfl (q_fieldAddr fa_58_1 rfl) ?_
    first | refine gp_quiet 1 rfl rfl rfl rfl rfl rfl (q_ld Try.isAgg3 rfl rfl) ?_ | refine gp_quiet 1 rfl rfl rfl rfl rfl rfl (q_ldw Try.isAgg3 rfl (by omega)) ?_
    refine gp_quiet 2 rfl rfl rfl rfl rfl rfl (q_fieldAddr fa_58_5 rfl) ?_
    refine gp_quiet 3 rfl rfl rfl rfl rfl rfl (q_ld Try.isAgg23 rfl rfl) ?_
    refine gp_quiet 4 rfl rfl rfl rfl rfl rfl (q_len Try.underlying23 rfl) ?_
    refine gp_quiet 5 rfl rfl rfl rfl rfl rfl (q_move rfl) ?_
    refine gp_quiet 6 rfl rfl rfl rfl rfl rfl (q_fieldAddr fa_58_1 rfl) ?_
    first | refine gp_quiet 7 rfl rfl rfl rfl rfl rfl (q_ld Try.isAgg3 rfl rfl) ?_ | refine gp_quiet 7 rfl rfl rfl rfl rfl rfl (q_ldw Try.isAgg3 rfl (by omega)) ?_
    refine gp_quiet 8 rfl rfl rfl rfl rfl rfl (q_fieldAddr fa_58_5 rfl) ?_
    refine gp_quiet 9 rfl rfl rfl rfl rfl rfl (q_ld Try.isAgg23 rfl rfl) ?_
    refine gp_fronto g ?_
    refine gp_frontb b ?_
    refine gp_eff 10 rfl rfl rfl rfl rfl rfl (does_call Try.call36 rfl (lay_zero _ _ b g n c W hW hc hn _ (by omega) _ _ h)) ?_
    rintro _ _ ⟨rfl, rfl⟩
    refine ⟨?_, ?_⟩
    · refine .cons rfl rfl rfl rfl rfl (q_ld Try.isAgg23 rfl rfl) ?_
      refine .cons rfl rfl rfl rfl rfl (q_fieldAddr fa_58_5 rfl) ?_
      first | refine .cons rfl rfl rfl rfl rfl (q_ld Try.isAgg3 rfl rfl) ?_ | refine .cons rfl rfl rfl rfl rfl (q_ldw Try.isAgg3 rfl (by omega)) ?_
      refine .cons rfl rfl rfl rfl rfl (q_fieldAddr fa_58_1 rfl) ?_
      refine .cons rfl rfl rfl rfl rfl (q_move rfl) ?_
      refine .cons rfl rfl rfl rfl rfl (q_len Try.underlying23 rfl) ?_
      refine .cons rfl rfl rfl rfl rfl (q_ld Try.isAgg23 rfl rfl) ?_
      refine .cons rfl rfl rfl rfl rfl (q_fieldAddr fa_58_5 rfl) ?_
      first | refine .cons rfl rfl rfl rfl rfl (q_ld Try.isAgg3 rfl rfl) ?_ | refine .cons rfl rfl rfl rfl rfl (q_ldw Try.isAgg3 rfl (by omega)) ?_
      refine .cons rfl rfl rfl rfl rfl (q_fieldAddr fa_58_1 rfl) ?_
      exact .nil
    refine gp_quiet 11 rfl rfl rfl rfl rfl rfl (q_assign rfl) ?_
    refine gp_quiet 12 rfl rfl rfl rfl rfl rfl (q_assign rfl) ?_
    refine gp_quiet 13 rfl rfl rfl rfl rfl rfl (q_assign rfl) ?_
    refine gp_end rfl rfl ?_
    refine g_ret Try.func20 rfl (.tmp rfl (.tmp rfl (.tmp rfl .nil))) ?_
    exact Gives.mki ⟨rfl, rfl⟩
  · intro hbr
    have hbr := of_decide_eq_false hbr
    (exfalso; omega)
theorem does_lay_bad (w0 : World) (F : List Atom) (b g n c : Nat) (W : List Int) (hW : W.length = n) (hc : n ≤ c) (hn : n ≤ 1073741824) (kd a bb cc w : Int) (d0 : -9223372036854775808 ≤ kd) (d1 : kd ≤ 9223372036854775807) (a0 : -9223372036854775808 ≤ a) (a1 : a ≤ 9223372036854775807) (b0 : -9223372036854775808 ≤ bb) (b1 : bb ≤ 9223372036854775807) (c0 : -9223372036854775808 ≤ cc) (c1 : cc ≤ 9223372036854775807) (sa : Option Addr) (sn sc : Nat) (hs : sn ≤ 9223372036854775807) (hk : pk kd 4 = 1) (h : ¬ inR n a sn) :
    CallK Try.prog 20 [.pointer (some ⟨b, 0, none⟩), .agg [Value.int .i64 kd, .int .i64 a, .int .i64 bb, .int .i64 cc, .int .u32 w, .slice sa sn sc].toArray] w0 (Blk b (.cells [.slice (some ⟨g, 0, none⟩) n c].toArray 77 (0, 0)) :: Own 30 1 (.slice (some ⟨g, 0, none⟩) n c) n (ints .u32 W) :: F) (Gives w0 fun v F2 => v = .tuple #[.int .i64 a, .int .i64 (sn : Int), .int .i64 51] ∧ F2 = Blk b (.cells [.slice (some ⟨g, 0, none⟩) n c].toArray 77 (0, 0)) :: Own 30 1 (.slice (some ⟨g, 0, none⟩) n c) n (ints .u32 W) :: F) := by
  have hI := h
  unfold inR at hI
  refine c_enter Try.func20 rfl rfl rfl ?_
  refine g_seq ?_
  refine g_region ?_
  refine l_boxs rfl rfl ?_; intro b3
  refine l_assign rfl rfl ?_
  refine l_assign rfl rfl ?_
  refine l_assign rfl rfl ?_
  refine l_nil ?_
  refine g_seq ?_
  refine g_seq ?_
  refine g_region ?_
  refine l_fieldAddr rfl fa_58_0 rfl ?_
  first | refine l_ld rfl Try.isAgg3 rfl rfl ?_ | refine l_ldw rfl Try.isAgg3 rfl (by omega) ?_
  refine l_call rfl Try.call8 rfl (pick_ok _ _ _ _ (by omega) (by omega) (by omega) (by omega)) ?_; rintro _ _ ⟨rfl, rfl⟩
  refine l_nil ?_
  refine g_block ?_
  refine g_seq ?_
  refine g_region ?_
  refine l_eql rfl rfl rfl ?_
  refine l_assign rfl rfl ?_
  refine l_nil ?_
  refine g_cond rfl ?_ ?_
  · intro hbr
    have hbr := of_decide_eq_true hbr
    (exfalso; omega)
  intro hbr
  have hbr := of_decide_eq_false hbr
  refine g_seq ?_
  refine g_region ?_
  refine l_eql rfl rfl rfl ?_
  refine l_assign rfl rfl ?_
  refine l_nil ?_
  refine g_cond rfl ?_ ?_
  · intro hbr
    have hbr := of_decide_eq_true hbr
    refine g_seq ?_
    refine gp_start mo (by kernel_rfl) (by kernel_rfl) ?_
    refine gp_quiet 0 rfl rfl rfl rfl rfl rfl (q_fieldAddr fa_58_1 rfl) ?_
    first | refine gp_quiet 1 rfl rfl rfl rfl rfl rfl (q_ld Try.isAgg3 rfl rfl) ?_ | refine gp_quiet 1 rfl rfl rfl rfl rfl rfl (q_ldw Try.isAgg3 rfl (by omega)) ?_
    refine gp_quiet 2 rfl rfl rfl rfl rfl rfl (q_fieldAddr fa_58_5 rfl) ?_
    refine gp_quiet 3 rfl rfl rfl rfl rfl rfl (q_ld Try.isAgg23 rfl rfl) ?_
    refine gp_quiet 4 rfl rfl rfl rfl rfl rfl (q_len Try.underlying23 rfl) ?_
    refine gp_quiet 5 rfl rfl rfl rfl rfl rfl (q_move rfl) ?_
    refine gp_quiet 6 rfl rfl rfl rfl rfl rfl (q_fieldAddr fa_58_1 rfl) ?_
    first | refine gp_quiet 7 rfl rfl rfl rfl rfl rfl (q_ld Try.isAgg3 rfl rfl) ?_ | refine gp_quiet 7 rfl rfl rfl rfl rfl rfl (q_ldw Try.isAgg3 rfl (by omega)) ?_
    refine gp_quiet 8 rfl rfl rfl rfl rfl rfl (q_fieldAddr fa_58_5 rfl) ?_
    refine gp_quiet 9 rfl rfl rfl rfl rfl rfl (q_ld Try.isAgg23 rfl rfl) ?_
    refine gp_fronto g ?_
    refine gp_frontb b ?_
    refine gp_eff 10 rfl rfl rfl rfl rfl rfl (does_call Try.call36 rfl (lay_bad _ _ b g n c W hW hc hn _ (by omega) (by omega) _ _ _ (by omega) h)) ?_
    rintro _ _ ⟨rfl, rfl⟩
    refine ⟨?_, ?_⟩
    · refine .cons rfl rfl rfl rfl rfl (q_ld Try.isAgg23 rfl rfl) ?_
      refine .cons rfl rfl rfl rfl rfl (q_fieldAddr fa_58_5 rfl) ?_
      first | refine .cons rfl rfl rfl rfl rfl (q_ld Try.isAgg3 rfl rfl) ?_ | refine .cons rfl rfl rfl rfl rfl (q_ldw Try.isAgg3 rfl (by omega)) ?_
      refine .cons rfl rfl rfl rfl rfl (q_fieldAddr fa_58_1 rfl) ?_
      refine .cons rfl rfl rfl rfl rfl (q_move rfl) ?_
      refine .cons rfl rfl rfl rfl rfl (q_len Try.underlying23 rfl) ?_
      refine .cons rfl rfl rfl rfl rfl (q_ld Try.isAgg23 rfl rfl) ?_
      refine .cons rfl rfl rfl rfl rfl (q_fieldAddr fa_58_5 rfl) ?_
      first | refine .cons rfl rfl rfl rfl rfl (q_ld Try.isAgg3 rfl rfl) ?_ | refine .cons rfl rfl rfl rfl rfl (q_ldw Try.isAgg3 rfl (by omega)) ?_
      refine .cons rfl rfl rfl rfl rfl (q_fieldAddr fa_58_1 rfl) ?_
      exact .nil
    refine gp_quiet 11 rfl rfl rfl rfl rfl rfl (q_assign rfl) ?_
    refine gp_quiet 12 rfl rfl rfl rfl rfl rfl (q_assign rfl) ?_
    refine gp_quiet 13 rfl rfl rfl rfl rfl rfl (q_assign rfl) ?_
    refine gp_end rfl rfl ?_
    refine g_ret Try.func20 rfl (.tmp rfl (.tmp rfl (.tmp rfl .nil))) ?_
    exact Gives.mki ⟨rfl, rfl⟩
  · intro hbr
    have hbr := of_decide_eq_false hbr
    (exfalso; omega)
theorem does_fill_ok (w0 : World) (F : List Atom) (b g n c : Nat) (W : List Int) (hW : W.length = n) (hc : n ≤ c) (hn : n ≤ 1073741824) (kd a bb cc w : Int) (d0 : -9223372036854775808 ≤ kd) (d1 : kd ≤ 9223372036854775807) (a0 : -9223372036854775808 ≤ a) (a1 : a ≤ 9223372036854775807) (b0 : -9223372036854775808 ≤ bb) (b1 : bb ≤ 9223372036854775807) (c0 : -9223372036854775808 ≤ cc) (c1 : cc ≤ 9223372036854775807) (sa : Option Addr) (sn sc : Nat) (hs : sn ≤ 9223372036854775807) (hk : pk kd 4 = 2) (h : inR n a bb) :
    CallK Try.prog 20 [.pointer (some ⟨b, 0, none⟩), .agg [Value.int .i64 kd, .int .i64 a, .int .i64 bb, .int .i64 cc, .int .u32 w, .slice sa sn sc].toArray] w0 (Blk b (.cells [.slice (some ⟨g, 0, none⟩) n c].toArray 77 (0, 0)) :: Own 30 1 (.slice (some ⟨g, 0, none⟩) n c) n (ints .u32 W) :: F) (Gives w0 fun v F2 => v = .tuple #[.int .i64 a, .int .i64 bb, .int .i64 0] ∧ F2 = Blk b (.cells [.slice (some ⟨g, 0, none⟩) n c].toArray 77 (0, 0)) :: Own 30 1 (.slice (some ⟨g, 0, none⟩) n c) n (ints .u32 (spl a.toNat (List.replicate bb.toNat w) W)) :: F) := by
  have hI := h
  unfold inR at hI
  refine c_enter Try.func20 rfl rfl rfl ?_
  refine g_seq ?_
  refine g_region ?_
  refine l_boxs rfl rfl ?_; intro b3
  refine l_assign rfl rfl ?_
  refine l_assign rfl rfl ?_
  refine l_assign rfl rfl ?_
  refine l_nil ?_
  refine g_seq ?_
  refine g_seq ?_
  refine g_region ?_
  refine l_fieldAddr rfl fa_58_0 rfl ?_
  first | refine l_ld rfl Try.isAgg3 rfl rfl ?_ | refine l_ldw rfl Try.isAgg3 rfl (by omega) ?_
  refine l_call rfl Try.call8 rfl (pick_ok _ _ _ _ (by omega) (by omega) (by omega) (by omega)) ?_; rintro _ _ ⟨rfl, rfl⟩
  refine l_nil ?_
  refine g_block ?_
  refine g_seq ?_
  refine g_region ?_
  refine l_eql rfl rfl rfl ?_
  refine l_assign rfl rfl ?_
  refine l_nil ?_
  refine g_cond rfl ?_ ?_
  · intro hbr
    have hbr := of_decide_eq_true hbr
    (exfalso; omega)
  intro hbr
  have hbr := of_decide_eq_false hbr
  refine g_seq ?_
  refine g_region ?_
  refine l_eql rfl rfl rfl ?_
  refine l_assign rfl rfl ?_
  refine l_nil ?_
  refine g_cond rfl ?_ ?_
  · intro hbr
    have hbr := of_decide_eq_true hbr
    (exfalso; omega)
  intro hbr
  have hbr := of_decide_eq_false hbr
  refine g_seq ?_
  refine g_region ?_
  refine l_eql rfl rfl rfl ?_
  refine l_assign rfl rfl ?_
  refine l_nil ?_
  refine g_cond rfl ?_ ?_
  · intro hbr
    have hbr := of_decide_eq_true hbr
    refine g_seq ?_
    refine gp_start mo (by kernel_rfl) (by kernel_rfl) ?_
    refine gp_quiet 0 rfl rfl rfl rfl rfl rfl (q_fieldAddr fa_58_1 rfl) ?_
    first | refine gp_quiet 1 rfl rfl rfl rfl rfl rfl (q_ld Try.isAgg3 rfl rfl) ?_ | refine gp_quiet 1 rfl rfl rfl rfl rfl rfl (q_ldw Try.isAgg3 rfl (by omega)) ?_
    refine gp_quiet 2 rfl rfl rfl rfl rfl rfl (q_fieldAddr fa_58_2 rfl) ?_
    first | refine gp_quiet 3 rfl rfl rfl rfl rfl rfl (q_ld Try.isAgg3 rfl rfl) ?_ | refine gp_quiet 3 rfl rfl rfl rfl rfl rfl (q_ldw Try.isAgg3 rfl (by omega)) ?_
    refine gp_quiet 4 rfl rfl rfl rfl rfl rfl (q_move rfl) ?_
    refine gp_quiet 5 rfl rfl rfl rfl rfl rfl (q_fieldAddr fa_58_1 rfl) ?_
    first | refine gp_quiet 6 rfl rfl rfl rfl rfl rfl (q_ld Try.isAgg3 rfl rfl) ?_ | refine gp_quiet 6 rfl rfl rfl rfl rfl rfl (q_ldw Try.isAgg3 rfl (by omega)) ?_
    refine gp_quiet 7 rfl rfl rfl rfl rfl rfl (q_fieldAddr fa_58_2 rfl) ?_
    first | refine gp_quiet 8 rfl rfl rfl rfl rfl rfl (q_ld Try.isAgg3 rfl rfl) ?_ | refine gp_quiet 8 rfl rfl rfl rfl rfl rfl (q_ldw Try.isAgg3 rfl (by omega)) ?_
    refine gp_quiet 9 rfl rfl rfl rfl rfl rfl (q_fieldAddr fa_58_4 rfl) ?_
    first | refine gp_quiet 10 rfl rfl rfl rfl rfl rfl (q_ld Try.isAgg30 rfl rfl) ?_ | refine gp_quiet 10 rfl rfl rfl rfl rfl rfl (q_ldw Try.isAgg30 rfl (by omega)) ?_
    refine gp_fronto g ?_
    refine gp_frontb b ?_
    refine gp_eff 11 rfl rfl rfl rfl rfl rfl (does_call Try.call37 rfl (fill_ok _ _ b g n c W hW hc hn _ _ _ (by omega) (by omega) h)) ?_
    rintro _ _ ⟨rfl, rfl⟩
    refine ⟨?_, ?_⟩
    · first | refine .cons rfl rfl rfl rfl rfl (q_ld Try.isAgg30 rfl rfl) ?_ | refine .cons rfl rfl rfl rfl rfl (q_ldw Try.isAgg30 rfl (by omega)) ?_
      refine .cons rfl rfl rfl rfl rfl (q_fieldAddr fa_58_4 rfl) ?_
      first | refine .cons rfl rfl rfl rfl rfl (q_ld Try.isAgg3 rfl rfl) ?_ | refine .cons rfl rfl rfl rfl rfl (q_ldw Try.isAgg3 rfl (by omega)) ?_
      refine .cons rfl rfl rfl rfl rfl (q_fieldAddr fa_58_2 rfl) ?_
      first | refine .cons rfl rfl rfl rfl rfl (q_ld Try.isAgg3 rfl rfl) ?_ | refine .cons rfl rfl rfl rfl rfl (q_ldw Try.isAgg3 rfl (by omega)) ?_
      refine .cons rfl rfl rfl rfl rfl (q_fieldAddr fa_58_1 rfl) ?_
      refine .cons rfl rfl rfl rfl rfl (q_move rfl) ?_
      first | refine .cons rfl rfl rfl rfl rfl (q_ld Try.isAgg3 rfl rfl) ?_ | refine .cons rfl rfl rfl rfl rfl (q_ldw Try.isAgg3 rfl (by omega)) ?_
      refine .cons rfl rfl rfl rfl rfl (q_fieldAddr fa_58_2 rfl) ?_
      first | refine .cons rfl rfl rfl rfl rfl (q_ld Try.isAgg3 rfl rfl) ?_ | refine .cons rfl rfl rfl rfl rfl (q_ldw Try.isAgg3 rfl (by omega)) ?_
      refine .cons rfl rfl rfl rfl rfl (q_fieldAddr fa_58_1 rfl) ?_
      exact .nil
    refine gp_quiet 12 rfl rfl rfl rfl rfl rfl (q_assign rfl) ?_
    refine gp_quiet 13 rfl rfl rfl rfl rfl rfl (q_assign rfl) ?_
    refine gp_quiet 14 rfl rfl rfl rfl rfl rfl (q_assign rfl) ?_
    refine gp_end rfl rfl ?_
    refine g_ret Try.func20 rfl (.tmp rfl (.tmp rfl (.tmp rfl .nil))) ?_
    exact Gives.mki ⟨rfl, rfl⟩
  · intro hbr
    have hbr := of_decide_eq_false hbr
    (exfalso; omega)
theorem does_fill_bad (w0 : World) (F : List Atom) (b g n c : Nat) (W : List Int) (hW : W.length = n) (hc : n ≤ c) (hn : n ≤ 1073741824) (kd a bb cc w : Int) (d0 : -9223372036854775808 ≤ kd) (d1 : kd ≤ 9223372036854775807) (a0 : -9223372036854775808 ≤ a) (a1 : a ≤ 9223372036854775807) (b0 : -9223372036854775808 ≤ bb) (b1 : bb ≤ 9223372036854775807) (c0 : -9223372036854775808 ≤ cc) (c1 : cc ≤ 9223372036854775807) (sa : Option Addr) (sn sc : Nat) (hs : sn ≤ 9223372036854775807) (hk : pk kd 4 = 2) (h : ¬ inR n a bb) :
    CallK Try.prog 20 [.pointer (some ⟨b, 0, none⟩), .agg [Value.int .i64 kd, .int .i64 a, .int .i64 bb, .int .i64 cc, .int .u32 w, .slice sa sn sc].toArray] w0 (Blk b (.cells [.slice (some ⟨g, 0, none⟩) n c].toArray 77 (0, 0)) :: Own 30 1 (.slice (some ⟨g, 0, none⟩) n c) n (ints .u32 W) :: F) (Gives w0 fun v F2 => v = .tuple #[.int .i64 a, .int .i64 bb, .int .i64 51] ∧ F2 = Blk b (.cells [.slice (some ⟨g, 0, none⟩) n c].toArray 77 (0, 0)) :: Own 30 1 (.slice (some ⟨g, 0, none⟩) n c) n (ints .u32 W) :: F) := by
  have hI := h
  unfold inR at hI
  refine c_enter Try.func20 rfl rfl rfl ?_
  refine g_seq ?_
  refine g_region ?_
  refine l_boxs rfl rfl ?_; intro b3
  refine l_assign rfl rfl ?_
  refine l_assign rfl rfl ?_
  refine l_assign rfl rfl ?_
  refine l_nil ?_
  refine g_seq ?_
  refine g_seq ?_
  refine g_region ?_
  refine l_fieldAddr rfl fa_58_0 rfl ?_
  first | refine l_ld rfl Try.isAgg3 rfl rfl ?_ | refine l_ldw rfl Try.isAgg3 rfl (by omega) ?_
  refine l_call rfl Try.call8 rfl (pick_ok _ _ _ _ (by omega) (by omega) (by omega) (by omega)) ?_; rintro _ _ ⟨rfl, rfl⟩
  refine l_nil ?_
  refine g_block ?_
  refine g_seq ?_
  refine g_region ?_
  refine l_eql rfl rfl rfl ?_
  refine l_assign rfl rfl ?_
  refine l_nil ?_
  refine g_cond rfl ?_ ?_
  · intro hbr
    have hbr := of_decide_eq_true hbr
    (exfalso; omega)
  intro hbr
  have hbr := of_decide_eq_false hbr
  refine g_seq ?_
  refine g_region ?_
  refine l_eql rfl rfl rfl ?_
  refine l_assign rfl rfl ?_
  refine l_nil ?_
  refine g_cond rfl ?_ ?_
  · intro hbr
    have hbr := of_decide_eq_true hbr
    (exfalso; omega)
  intro hbr
  have hbr := of_decide_eq_false hbr
  refine g_seq ?_
  refine g_region ?_
  refine l_eql rfl rfl rfl ?_
  refine l_assign rfl rfl ?_
  refine l_nil ?_
  refine g_cond rfl ?_ ?_
  · intro hbr
    have hbr := of_decide_eq_true hbr
    refine g_seq ?_
    refine gp_start mo (by kernel_rfl) (by kernel_rfl) ?_
    refine gp_quiet 0 rfl rfl rfl rfl rfl rfl (q_fieldAddr fa_58_1 rfl) ?_
    first | refine gp_quiet 1 rfl rfl rfl rfl rfl rfl (q_ld Try.isAgg3 rfl rfl) ?_ | refine gp_quiet 1 rfl rfl rfl rfl rfl rfl (q_ldw Try.isAgg3 rfl (by omega)) ?_
    refine gp_quiet 2 rfl rfl rfl rfl rfl rfl (q_fieldAddr fa_58_2 rfl) ?_
    first | refine gp_quiet 3 rfl rfl rfl rfl rfl rfl (q_ld Try.isAgg3 rfl rfl) ?_ | refine gp_quiet 3 rfl rfl rfl rfl rfl rfl (q_ldw Try.isAgg3 rfl (by omega)) ?_
    refine gp_quiet 4 rfl rfl rfl rfl rfl rfl (q_move rfl) ?_
    refine gp_quiet 5 rfl rfl rfl rfl rfl rfl (q_fieldAddr fa_58_1 rfl) ?_
    first | refine gp_quiet 6 rfl rfl rfl rfl rfl rfl (q_ld Try.isAgg3 rfl rfl) ?_ | refine gp_quiet 6 rfl rfl rfl rfl rfl rfl (q_ldw Try.isAgg3 rfl (by omega)) ?_
    refine gp_quiet 7 rfl rfl rfl rfl rfl rfl (q_fieldAddr fa_58_2 rfl) ?_
    first | refine gp_quiet 8 rfl rfl rfl rfl rfl rfl (q_ld Try.isAgg3 rfl rfl) ?_ | refine gp_quiet 8 rfl rfl rfl rfl rfl rfl (q_ldw Try.isAgg3 rfl (by omega)) ?_
    refine gp_quiet 9 rfl rfl rfl rfl rfl rfl (q_fieldAddr fa_58_4 rfl) ?_
    first | refine gp_quiet 10 rfl rfl rfl rfl rfl rfl (q_ld Try.isAgg30 rfl rfl) ?_ | refine gp_quiet 10 rfl rfl rfl rfl rfl rfl (q_ldw Try.isAgg30 rfl (by omega)) ?_
    refine gp_fronto g ?_
    refine gp_frontb b ?_
    refine gp_eff 11 rfl rfl rfl rfl rfl rfl (does_call Try.call37 rfl (fill_bad _ _ b g n c W hW hc hn _ _ _ (by omega) (by omega) (by omega) (by omega) h)) ?_
    rintro _ _ ⟨rfl, rfl⟩
    refine ⟨?_, ?_⟩
    · first | refine .cons rfl rfl rfl rfl rfl (q_ld Try.isAgg30 rfl rfl) ?_ | refine .cons rfl rfl rfl rfl rfl (q_ldw Try.isAgg30 rfl (by omega)) ?_
      refine .cons rfl rfl rfl rfl rfl (q_fieldAddr fa_58_4 rfl) ?_
      first | refine .cons rfl rfl rfl rfl rfl (q_ld Try.isAgg3 rfl rfl) ?_ | refine .cons rfl rfl rfl rfl rfl (q_ldw Try.isAgg3 rfl (by omega)) ?_
      refine .cons rfl rfl rfl rfl rfl (q_fieldAddr fa_58_2 rfl) ?_
      first | refine .cons rfl rfl rfl rfl rfl (q_ld Try.isAgg3 rfl rfl) ?_ | refine .cons rfl rfl rfl rfl rfl (q_ldw Try.isAgg3 rfl (by omega)) ?_
      refine .cons rfl rfl rfl rfl rfl (q_fieldAddr fa_58_1 rfl) ?_
      refine .cons rfl rfl rfl rfl rfl (q_move rfl) ?_
      first | refine .cons rfl rfl rfl rfl rfl (q_ld Try.isAgg3 rfl rfl) ?_ | refine .cons rfl rfl rfl rfl rfl (q_ldw Try.isAgg3 rfl (by omega)) ?_
      refine .cons rfl rfl rfl rfl rfl (q_fieldAddr fa_58_2 rfl) ?_
      first | refine .cons rfl rfl rfl rfl rfl (q_ld Try.isAgg3 rfl rfl) ?_ | refine .cons rfl rfl rfl rfl rfl (q_ldw Try.isAgg3 rfl (by omega)) ?_
      refine .cons rfl rfl rfl rfl rfl (q_fieldAddr fa_58_1 rfl) ?_
      exact .nil
    refine gp_quiet 12 rfl rfl rfl rfl rfl rfl (q_assign rfl) ?_
    refine gp_quiet 13 rfl rfl rfl rfl rfl rfl (q_assign rfl) ?_
    refine gp_quiet 14 rfl rfl rfl rfl rfl rfl (q_assign rfl) ?_
    refine gp_end rfl rfl ?_
    refine g_ret Try.func20 rfl (.tmp rfl (.tmp rfl (.tmp rfl .nil))) ?_
    exact Gives.mki ⟨rfl, rfl⟩
  · intro hbr
    have hbr := of_decide_eq_false hbr
    (exfalso; omega)
theorem does_move_ok (w0 : World) (F : List Atom) (b g n c : Nat) (W : List Int) (hW : W.length = n) (hc : n ≤ c) (hn : n ≤ 1073741824) (kd a bb cc w : Int) (d0 : -9223372036854775808 ≤ kd) (d1 : kd ≤ 9223372036854775807) (a0 : -9223372036854775808 ≤ a) (a1 : a ≤ 9223372036854775807) (b0 : -9223372036854775808 ≤ bb) (b1 : bb ≤ 9223372036854775807) (c0 : -9223372036854775808 ≤ cc) (c1 : cc ≤ 9223372036854775807) (sa : Option Addr) (sn sc : Nat) (hs : sn ≤ 9223372036854775807) (hk : pk kd 4 ≠ 0 ∧ pk kd 4 ≠ 1 ∧ pk kd 4 ≠ 2) (h : inR n a cc) (q : inR n bb cc) :
    CallK Try.prog 20 [.pointer (some ⟨b, 0, none⟩), .agg [Value.int .i64 kd, .int .i64 a, .int .i64 bb, .int .i64 cc, .int .u32 w, .slice sa sn sc].toArray] w0 (Blk b (.cells [.slice (some ⟨g, 0, none⟩) n c].toArray 77 (0, 0)) :: Own 30 1 (.slice (some ⟨g, 0, none⟩) n c) n (ints .u32 W) :: F) (Gives w0 fun v F2 => v = .tuple #[.int .i64 a, .int .i64 cc, .int .i64 0] ∧ F2 = Blk b (.cells [.slice (some ⟨g, 0, none⟩) n c].toArray 77 (0, 0)) :: Own 30 1 (.slice (some ⟨g, 0, none⟩) n c) n (ints .u32 (spl a.toNat ((W.drop bb.toNat).take cc.toNat) W)) :: F) := by
  have hI := h
  unfold inR at hI
  refine c_enter Try.func20 rfl rfl rfl ?_
  refine g_seq ?_
  refine g_region ?_
  refine l_boxs rfl rfl ?_; intro b3
  refine l_assign rfl rfl ?_
  refine l_assign rfl rfl ?_
  refine l_assign rfl rfl ?_
  refine l_nil ?_
  refine g_seq ?_
  refine g_seq ?_
  refine g_region ?_
  refine l_fieldAddr rfl fa_58_0 rfl ?_
  first | refine l_ld rfl Try.isAgg3 rfl rfl ?_ | refine l_ldw rfl Try.isAgg3 rfl (by omega) ?_
  refine l_call rfl Try.call8 rfl (pick_ok _ _ _ _ (by omega) (by omega) (by omega) (by omega)) ?_; rintro _ _ ⟨rfl, rfl⟩
  refine l_nil ?_
  refine g_block ?_
  refine g_seq ?_
  refine g_region ?_
  refine l_eql rfl rfl rfl ?_
  refine l_assign rfl rfl ?_
  refine l_nil ?_
  refine g_cond rfl ?_ ?_
  · intro hbr
    have hbr := of_decide_eq_true hbr
    (exfalso; omega)
  intro hbr
  have hbr := of_decide_eq_false hbr
  refine g_seq ?_
  refine g_region ?_
  refine l_eql rfl rfl rfl ?_
  refine l_assign rfl rfl ?_
  refine l_nil ?_
  refine g_cond rfl ?_ ?_
  · intro hbr
    have hbr := of_decide_eq_true hbr
    (exfalso; omega)
  intro hbr
  have hbr := of_decide_eq_false hbr
  refine g_seq ?_
  refine g_region ?_
  refine l_eql rfl rfl rfl ?_
  refine l_assign rfl rfl ?_
  refine l_nil ?_
  refine g_cond rfl ?_ ?_
  · intro hbr
    have hbr := of_decide_eq_true hbr
    (exfalso; omega)
  intro hbr
  have hbr := of_decide_eq_false hbr
  refine g_skip ?_
  refine g_inBlock ?_
  refine g_seq ?_
  refine gp_start mo (by kernel_rfl) (by kernel_rfl) ?_
  refine gp_quiet 0 rfl rfl rfl rfl rfl rfl (q_fieldAddr fa_58_1 rfl) ?_
  first | refine gp_quiet 1 rfl rfl rfl rfl rfl rfl (q_ld Try.isAgg3 rfl rfl) ?_ | refine gp_quiet 1 rfl rfl rfl rfl rfl rfl (q_ldw Try.isAgg3 rfl (by omega)) ?_
  refine gp_quiet 2 rfl rfl rfl rfl rfl rfl (q_fieldAddr fa_58_3 rfl) ?_
  first | refine gp_quiet 3 rfl rfl rfl rfl rfl rfl (q_ld Try.isAgg3 rfl rfl) ?_ | refine gp_quiet 3 rfl rfl rfl rfl rfl rfl (q_ldw Try.isAgg3 rfl (by omega)) ?_
  refine gp_quiet 4 rfl rfl rfl rfl rfl rfl (q_move rfl) ?_
  refine gp_quiet 5 rfl rfl rfl rfl rfl rfl (q_fieldAddr fa_58_1 rfl) ?_
  first | refine gp_quiet 6 rfl rfl rfl rfl rfl rfl (q_ld Try.isAgg3 rfl rfl) ?_ | refine gp_quiet 6 rfl rfl rfl rfl rfl rfl (q_ldw Try.isAgg3 rfl (by omega)) ?_
  refine gp_quiet 7 rfl rfl rfl rfl rfl rfl (q_fieldAddr fa_58_2 rfl) ?_
  first | refine gp_quiet 8 rfl rfl rfl rfl rfl rfl (q_ld Try.isAgg3 rfl rfl) ?_ | refine gp_quiet 8 rfl rfl rfl rfl rfl rfl (q_ldw Try.isAgg3 rfl (by omega)) ?_
  refine gp_quiet 9 rfl rfl rfl rfl rfl rfl (q_fieldAddr fa_58_3 rfl) ?_
  first | refine gp_quiet 10 rfl rfl rfl rfl rfl rfl (q_ld Try.isAgg3 rfl rfl) ?_ | refine gp_quiet 10 rfl rfl rfl rfl rfl rfl (q_ldw Try.isAgg3 rfl (by omega)) ?_
  refine gp_fronto g ?_
  refine gp_frontb b ?_
  refine gp_eff 11 rfl rfl rfl rfl rfl rfl (does_call Try.call38 rfl (move_ok _ _ b g n c W hW hc hn _ _ _ (by omega) (by omega) (by omega) (by omega) (by omega) (by omega) h q)) ?_
  rintro _ _ ⟨rfl, rfl⟩
  refine ⟨?_, ?_⟩
  · first | refine .cons rfl rfl rfl rfl rfl (q_ld Try.isAgg3 rfl rfl) ?_ | refine .cons rfl rfl rfl rfl rfl (q_ldw Try.isAgg3 rfl (by omega)) ?_
    refine .cons rfl rfl rfl rfl rfl (q_fieldAddr fa_58_3 rfl) ?_
    first | refine .cons rfl rfl rfl rfl rfl (q_ld Try.isAgg3 rfl rfl) ?_ | refine .cons rfl rfl rfl rfl rfl (q_ldw Try.isAgg3 rfl (by omega)) ?_
    refine .cons rfl rfl rfl rfl rfl (q_fieldAddr fa_58_2 rfl) ?_
    first | refine .cons rfl rfl rfl rfl rfl (q_ld Try.isAgg3 rfl rfl) ?_ | refine .cons rfl rfl rfl rfl rfl (q_ldw Try.isAgg3 rfl (by omega)) ?_
    refine .cons rfl rfl rfl rfl rfl (q_fieldAddr fa_58_1 rfl) ?_
    refine .cons rfl rfl rfl rfl rfl (q_move rfl) ?_
    first | refine .cons rfl rfl rfl rfl rfl (q_ld Try.isAgg3 rfl rfl) ?_ | refine .cons rfl rfl rfl rfl rfl (q_ldw Try.isAgg3 rfl (by omega)) ?_
    refine .cons rfl rfl rfl rfl rfl (q_fieldAddr fa_58_3 rfl) ?_
    first | refine .cons rfl rfl rfl rfl rfl (q_ld Try.isAgg3 rfl rfl) ?_ | refine .cons rfl rfl rfl rfl rfl (q_ldw Try.isAgg3 rfl (by omega)) ?_
    refine .cons rfl rfl rfl rfl rfl (q_fieldAddr fa_58_1 rfl) ?_
    exact .nil
  refine gp_quiet 12 rfl rfl rfl rfl rfl rfl (q_assign rfl) ?_
  refine gp_quiet 13 rfl rfl rfl rfl rfl rfl (q_assign rfl) ?_
  refine gp_quiet 14 rfl rfl rfl rfl rfl rfl (q_assign rfl) ?_
  refine gp_end rfl rfl ?_
  refine g_ret Try.func20 rfl (.tmp rfl (.tmp rfl (.tmp rfl .nil))) ?_
  exact Gives.mki ⟨rfl, rfl⟩
theorem does_move_bad (w0 : World) (F : List Atom) (b g n c : Nat) (W : List Int) (hW : W.length = n) (hc : n ≤ c) (hn : n ≤ 1073741824) (kd a bb cc w : Int) (d0 : -9223372036854775808 ≤ kd) (d1 : kd ≤ 9223372036854775807) (a0 : -9223372036854775808 ≤ a) (a1 : a ≤ 9223372036854775807) (b0 : -9223372036854775808 ≤ bb) (b1 : bb ≤ 9223372036854775807) (c0 : -9223372036854775808 ≤ cc) (c1 : cc ≤ 9223372036854775807) (sa : Option Addr) (sn sc : Nat) (hs : sn ≤ 9223372036854775807) (hk : pk kd 4 ≠ 0 ∧ pk kd 4 ≠ 1 ∧ pk kd 4 ≠ 2) (h : ¬ inR n a cc) :
    CallK Try.prog 20 [.pointer (some ⟨b, 0, none⟩), .agg [Value.int .i64 kd, .int .i64 a, .int .i64 bb, .int .i64 cc, .int .u32 w, .slice sa sn sc].toArray] w0 (Blk b (.cells [.slice (some ⟨g, 0, none⟩) n c].toArray 77 (0, 0)) :: Own 30 1 (.slice (some ⟨g, 0, none⟩) n c) n (ints .u32 W) :: F) (Gives w0 fun v F2 => v = .tuple #[.int .i64 a, .int .i64 cc, .int .i64 51] ∧ F2 = Blk b (.cells [.slice (some ⟨g, 0, none⟩) n c].toArray 77 (0, 0)) :: Own 30 1 (.slice (some ⟨g, 0, none⟩) n c) n (ints .u32 W) :: F) := by
  have hI := h
  unfold inR at hI
  refine c_enter Try.func20 rfl rfl rfl ?_
  refine g_seq ?_
  refine g_region ?_
  refine l_boxs rfl rfl ?_; intro b3
  refine l_assign rfl rfl ?_
  refine l_assign rfl rfl ?_
  refine l_assign rfl rfl ?_
  refine l_nil ?_
  refine g_seq ?_
  refine g_seq ?_
  refine g_region ?_
  refine l_fieldAddr rfl fa_58_0 rfl ?_
  first | refine l_ld rfl Try.isAgg3 rfl rfl ?_ | refine l_ldw rfl Try.isAgg3 rfl (by omega) ?_
  refine l_call rfl Try.call8 rfl (pick_ok _ _ _ _ (by omega) (by omega) (by omega) (by omega)) ?_; rintro _ _ ⟨rfl, rfl⟩
  refine l_nil ?_
  refine g_block ?_
  refine g_seq ?_
  refine g_region ?_
  refine l_eql rfl rfl rfl ?_
  refine l_assign rfl rfl ?_
  refine l_nil ?_
  refine g_cond rfl ?_ ?_
  · intro hbr
    have hbr := of_decide_eq_true hbr
    (exfalso; omega)
  intro hbr
  have hbr := of_decide_eq_false hbr
  refine g_seq ?_
  refine g_region ?_
  refine l_eql rfl rfl rfl ?_
  refine l_assign rfl rfl ?_
  refine l_nil ?_
  refine g_cond rfl ?_ ?_
  · intro hbr
    have hbr := of_decide_eq_true hbr
    (exfalso; omega)
  intro hbr
  have hbr := of_decide_eq_false hbr
  refine g_seq ?_
  refine g_region ?_
  refine l_eql rfl rfl rfl ?_
  refine l_assign rfl rfl ?_
  refine l_nil ?_
  refine g_cond rfl ?_ ?_
  · intro hbr
    have hbr := of_decide_eq_true hbr
    (exfalso; omega)
  intro hbr
  have hbr := of_decide_eq_false hbr
  refine g_skip ?_
  refine g_inBlock ?_
  refine g_seq ?_
  refine gp_start mo (by kernel_rfl) (by kernel_rfl) ?_
  refine gp_quiet 0 rfl rfl rfl rfl rfl rfl (q_fieldAddr fa_58_1 rfl) ?_
  first | refine gp_quiet 1 rfl rfl rfl rfl rfl rfl (q_ld Try.isAgg3 rfl rfl) ?_ | refine gp_quiet 1 rfl rfl rfl rfl rfl rfl (q_ldw Try.isAgg3 rfl (by omega)) ?_
  refine gp_quiet 2 rfl rfl rfl rfl rfl rfl (q_fieldAddr fa_58_3 rfl) ?_
  first | refine gp_quiet 3 rfl rfl rfl rfl rfl rfl (q_ld Try.isAgg3 rfl rfl) ?_ | refine gp_quiet 3 rfl rfl rfl rfl rfl rfl (q_ldw Try.isAgg3 rfl (by omega)) ?_
  refine gp_quiet 4 rfl rfl rfl rfl rfl rfl (q_move rfl) ?_
  refine gp_quiet 5 rfl rfl rfl rfl rfl rfl (q_fieldAddr fa_58_1 rfl) ?_
  first | refine gp_quiet 6 rfl rfl rfl rfl rfl rfl (q_ld Try.isAgg3 rfl rfl) ?_ | refine gp_quiet 6 rfl rfl rfl rfl rfl rfl (q_ldw Try.isAgg3 rfl (by omega)) ?_
  refine gp_quiet 7 rfl rfl rfl rfl rfl rfl (q_fieldAddr fa_58_2 rfl) ?_
  first | refine gp_quiet 8 rfl rfl rfl rfl rfl rfl (q_ld Try.isAgg3 rfl rfl) ?_ | refine gp_quiet 8 rfl rfl rfl rfl rfl rfl (q_ldw Try.isAgg3 rfl (by omega)) ?_
  refine gp_quiet 9 rfl rfl rfl rfl rfl rfl (q_fieldAddr fa_58_3 rfl) ?_
  first | refine gp_quiet 10 rfl rfl rfl rfl rfl rfl (q_ld Try.isAgg3 rfl rfl) ?_ | refine gp_quiet 10 rfl rfl rfl rfl rfl rfl (q_ldw Try.isAgg3 rfl (by omega)) ?_
  refine gp_fronto g ?_
  refine gp_frontb b ?_
  refine gp_eff 11 rfl rfl rfl rfl rfl rfl (does_call Try.call38 rfl (move_bad _ _ b g n c W hW hc hn _ _ _ (by omega) (by omega) (by omega) (by omega) (by omega) (by omega) h)) ?_
  rintro _ _ ⟨rfl, rfl⟩
  refine ⟨?_, ?_⟩
  · first | refine .cons rfl rfl rfl rfl rfl (q_ld Try.isAgg3 rfl rfl) ?_ | refine .cons rfl rfl rfl rfl rfl (q_ldw Try.isAgg3 rfl (by omega)) ?_
    refine .cons rfl rfl rfl rfl rfl (q_fieldAddr fa_58_3 rfl) ?_
    first | refine .cons rfl rfl rfl rfl rfl (q_ld Try.isAgg3 rfl rfl) ?_ | refine .cons rfl rfl rfl rfl rfl (q_ldw Try.isAgg3 rfl (by omega)) ?_
    refine .cons rfl rfl rfl rfl rfl (q_fieldAddr fa_58_2 rfl) ?_
    first | refine .cons rfl rfl rfl rfl rfl (q_ld Try.isAgg3 rfl rfl) ?_ | refine .cons rfl rfl rfl rfl rfl (q_ldw Try.isAgg3 rfl (by omega)) ?_
    refine .cons rfl rfl rfl rfl rfl (q_fieldAddr fa_58_1 rfl) ?_
    refine .cons rfl rfl rfl rfl rfl (q_move rfl) ?_
    first | refine .cons rfl rfl rfl rfl rfl (q_ld Try.isAgg3 rfl rfl) ?_ | refine .cons rfl rfl rfl rfl rfl (q_ldw Try.isAgg3 rfl (by omega)) ?_
    refine .cons rfl rfl rfl rfl rfl (q_fieldAddr fa_58_3 rfl) ?_
    first | refine .cons rfl rfl rfl rfl rfl (q_ld Try.isAgg3 rfl rfl) ?_ | refine .cons rfl rfl rfl rfl rfl (q_ldw Try.isAgg3 rfl (by omega)) ?_
    refine .cons rfl rfl rfl rfl rfl (q_fieldAddr fa_58_1 rfl) ?_
    exact .nil
  refine gp_quiet 12 rfl rfl rfl rfl rfl rfl (q_assign rfl) ?_
  refine gp_quiet 13 rfl rfl rfl rfl rfl rfl (q_assign rfl) ?_
  refine gp_quiet 14 rfl rfl rfl rfl rfl rfl (q_assign rfl) ?_
  refine gp_end rfl rfl ?_
  refine g_ret Try.func20 rfl (.tmp rfl (.tmp rfl (.tmp rfl .nil))) ?_
  exact Gives.mki ⟨rfl, rfl⟩
theorem does_move_from (w0 : World) (F : List Atom) (b g n c : Nat) (W : List Int) (hW : W.length = n) (hc : n ≤ c) (hn : n ≤ 1073741824) (kd a bb cc w : Int) (d0 : -9223372036854775808 ≤ kd) (d1 : kd ≤ 9223372036854775807) (a0 : -9223372036854775808 ≤ a) (a1 : a ≤ 9223372036854775807) (b0 : -9223372036854775808 ≤ bb) (b1 : bb ≤ 9223372036854775807) (c0 : -9223372036854775808 ≤ cc) (c1 : cc ≤ 9223372036854775807) (sa : Option Addr) (sn sc : Nat) (hs : sn ≤ 9223372036854775807) (hk : pk kd 4 ≠ 0 ∧ pk kd 4 ≠ 1 ∧ pk kd 4 ≠ 2) (h : inR n a cc) (q : ¬ inR n bb cc) :
    CallK Try.prog 20 [.pointer (some ⟨b, 0, none⟩), .agg [Value.int .i64 kd, .int .i64 a, .int .i64 bb, .int .i64 cc, .int .u32 w, .slice sa sn sc].toArray] w0 (Blk b (.cells [.slice (some ⟨g, 0, none⟩) n c].toArray 77 (0, 0)) :: Own 30 1 (.slice (some ⟨g, 0, none⟩) n c) n (ints .u32 W) :: F) (Gives w0 fun v F2 => v = .tuple #[.int .i64 a, .int .i64 cc, .int .i64 51] ∧ F2 = Blk b (.cells [.slice (some ⟨g, 0, none⟩) n c].toArray 77 (0, 0)) :: Own 30 1 (.slice (some ⟨g, 0, none⟩) n c) n (ints .u32 W) :: F) := by
  have hI := h
  unfold inR at hI
  refine c_enter Try.func20 rfl rfl rfl ?_
  refine g_seq ?_
  refine g_region ?_
  refine l_boxs rfl rfl ?_; intro b3
  refine l_assign rfl rfl ?_
  refine l_assign rfl rfl ?_
  refine l_assign rfl rfl ?_
  refine l_nil ?_
  refine g_seq ?_
  refine g_seq ?_
  refine g_region ?_
  refine l_fieldAddr rfl fa_58_0 rfl ?_
  first | refine l_ld rfl Try.isAgg3 rfl rfl ?_ | refine l_ldw rfl Try.isAgg3 rfl (by omega) ?_
  refine l_call rfl Try.call8 rfl (pick_ok _ _ _ _ (by omega) (by omega) (by omega) (by omega)) ?_; rintro _ _ ⟨rfl, rfl⟩
  refine l_nil ?_
  refine g_block ?_
  refine g_seq ?_
  refine g_region ?_
  refine l_eql rfl rfl rfl ?_
  refine l_assign rfl rfl ?_
  refine l_nil ?_
  refine g_cond rfl ?_ ?_
  · intro hbr
    have hbr := of_decide_eq_true hbr
    (exfalso; omega)
  intro hbr
  have hbr := of_decide_eq_false hbr
  refine g_seq ?_
  refine g_region ?_
  refine l_eql rfl rfl rfl ?_
  refine l_assign rfl rfl ?_
  refine l_nil ?_
  refine g_cond rfl ?_ ?_
  · intro hbr
    have hbr := of_decide_eq_true hbr
    (exfalso; omega)
  intro hbr
  have hbr := of_decide_eq_false hbr
  refine g_seq ?_
  refine g_region ?_
  refine l_eql rfl rfl rfl ?_
  refine l_assign rfl rfl ?_
  refine l_nil ?_
  refine g_cond rfl ?_ ?_
  · intro hbr
    have hbr := of_decide_eq_true hbr
    (exfalso; omega)
  intro hbr
  have hbr := of_decide_eq_false hbr
  refine g_skip ?_
  refine g_inBlock ?_
  refine g_seq ?_
  refine gp_start mo (by kernel_rfl) (by kernel_rfl) ?_
  refine gp_quiet 0 rfl rfl rfl rfl rfl rfl (q_fieldAddr fa_58_1 rfl) ?_
  first | refine gp_quiet 1 rfl rfl rfl rfl rfl rfl (q_ld Try.isAgg3 rfl rfl) ?_ | refine gp_quiet 1 rfl rfl rfl rfl rfl rfl (q_ldw Try.isAgg3 rfl (by omega)) ?_
  refine gp_quiet 2 rfl rfl rfl rfl rfl rfl (q_fieldAddr fa_58_3 rfl) ?_
  first | refine gp_quiet 3 rfl rfl rfl rfl rfl rfl (q_ld Try.isAgg3 rfl rfl) ?_ | refine gp_quiet 3 rfl rfl rfl rfl rfl rfl (q_ldw Try.isAgg3 rfl (by omega)) ?_
  refine gp_quiet 4 rfl rfl rfl rfl rfl rfl (q_move rfl) ?_
  refine gp_quiet 5 rfl rfl rfl rfl rfl rfl (q_fieldAddr fa_58_1 rfl) ?_
  first | refine gp_quiet 6 rfl rfl rfl rfl rfl rfl (q_ld Try.isAgg3 rfl rfl) ?_ | refine gp_quiet 6 rfl rfl rfl rfl rfl rfl (q_ldw Try.isAgg3 rfl (by omega)) ?_
  refine gp_quiet 7 rfl rfl rfl rfl rfl rfl (q_fieldAddr fa_58_2 rfl) ?_
  first | refine gp_quiet 8 rfl rfl rfl rfl rfl rfl (q_ld Try.isAgg3 rfl rfl) ?_ | refine gp_quiet 8 rfl rfl rfl rfl rfl rfl (q_ldw Try.isAgg3 rfl (by omega)) ?_
  refine gp_quiet 9 rfl rfl rfl rfl rfl rfl (q_fieldAddr fa_58_3 rfl) ?_
  first | refine gp_quiet 10 rfl rfl rfl rfl rfl rfl (q_ld Try.isAgg3 rfl rfl) ?_ | refine gp_quiet 10 rfl rfl rfl rfl rfl rfl (q_ldw Try.isAgg3 rfl (by omega)) ?_
  refine gp_fronto g ?_
  refine gp_frontb b ?_
  refine gp_eff 11 rfl rfl rfl rfl rfl rfl (does_call Try.call38 rfl (move_from _ _ b g n c W hW hc hn _ _ _ (by omega) (by omega) (by omega) (by omega) (by omega) (by omega) h q)) ?_
  rintro _ _ ⟨rfl, rfl⟩
  refine ⟨?_, ?_⟩
  · first | refine .cons rfl rfl rfl rfl rfl (q_ld Try.isAgg3 rfl rfl) ?_ | refine .cons rfl rfl rfl rfl rfl (q_ldw Try.isAgg3 rfl (by omega)) ?_
    refine .cons rfl rfl rfl rfl rfl (q_fieldAddr fa_58_3 rfl) ?_
    first | refine .cons rfl rfl rfl rfl rfl (q_ld Try.isAgg3 rfl rfl) ?_ | refine .cons rfl rfl rfl rfl rfl (q_ldw Try.isAgg3 rfl (by omega)) ?_
    refine .cons rfl rfl rfl rfl rfl (q_fieldAddr fa_58_2 rfl) ?_
    first | refine .cons rfl rfl rfl rfl rfl (q_ld Try.isAgg3 rfl rfl) ?_ | refine .cons rfl rfl rfl rfl rfl (q_ldw Try.isAgg3 rfl (by omega)) ?_
    refine .cons rfl rfl rfl rfl rfl (q_fieldAddr fa_58_1 rfl) ?_
    refine .cons rfl rfl rfl rfl rfl (q_move rfl) ?_
    first | refine .cons rfl rfl rfl rfl rfl (q_ld Try.isAgg3 rfl rfl) ?_ | refine .cons rfl rfl rfl rfl rfl (q_ldw Try.isAgg3 rfl (by omega)) ?_
    refine .cons rfl rfl rfl rfl rfl (q_fieldAddr fa_58_3 rfl) ?_
    first | refine .cons rfl rfl rfl rfl rfl (q_ld Try.isAgg3 rfl rfl) ?_ | refine .cons rfl rfl rfl rfl rfl (q_ldw Try.isAgg3 rfl (by omega)) ?_
    refine .cons rfl rfl rfl rfl rfl (q_fieldAddr fa_58_1 rfl) ?_
    exact .nil
  refine gp_quiet 12 rfl rfl rfl rfl rfl rfl (q_assign rfl) ?_
  refine gp_quiet 13 rfl rfl rfl rfl rfl rfl (q_assign rfl) ?_
  refine gp_quiet 14 rfl rfl rfl rfl rfl rfl (q_assign rfl) ?_
  refine gp_end rfl rfl ?_
  refine g_ret Try.func20 rfl (.tmp rfl (.tmp rfl (.tmp rfl .nil))) ?_
  exact Gives.mki ⟨rfl, rfl⟩
/-- What an act does. -/
structure Did (n : Nat) (kd a bb : Int) (w : Int) (Y W W2 : List Int) (cnt e : Int) (want : Int → Int) : Prop where
  len : W2.length = n
  lo : -9223372036854775808 ≤ cnt
  hi : cnt ≤ 9223372036854775807
  er : e = 0 ∨ e = 51
  bad : e ≠ 0 → W2 = W
  good : e = 0 → inR n a cnt
  out : ¬ inR n a cnt → e = 51
  most : pk kd 4 < 3 → inR n a cnt → e = 0
  at_ : e = 0 → ∀ k : Nat, W2.getD k 0 = if a ≤ k ∧ k < a + cnt then want k else W.getD k 0
  plain : pk kd 4 ≠ 1 → pk kd 4 ≠ 3 → ∀ k, want k = w
  lay : pk kd 4 = 1 → cnt = Y.length ∧ ∀ k : Int, want k = Y.getD (k - a).toNat 0
  move : pk kd 4 = 3 → e = 0 → inR n bb cnt ∧ ∀ k : Int, want k = W.getD (bb + k - a).toNat 0
theorem spl_at {n : Nat} {a cnt : Int} {X W : List Int} {want : Int → Int} (hW : W.length = n) (h : inR n a cnt) (hX : X.length = cnt.toNat) (hw : ∀ k : Nat, a ≤ k → k < a + cnt → X.getD (k - a).toNat 0 = want k) (k : Nat) :
    (spl a.toNat X W).getD k 0 = if a ≤ k ∧ k < a + cnt then want k else W.getD k 0 := by
  obtain ⟨h0, h1, h2, h3⟩ := h
  rw [spl_getD (by omega)]
  by_cases hk : a ≤ k ∧ k < a + cnt
  · rw [if_pos (by omega), if_pos hk, ← hw k hk.1 hk.2]
    congr 1; omega
  · rw [if_neg (by omega), if_neg hk]
theorem getD_rep {m j : Nat} {x : Int} (h : j < m) : (List.replicate m x).getD j 0 = x := by simp [List.getD_eq_getElem?_getD, h]
theorem getD_part {W : List Int} {i m j : Nat} (h : j < m) : ((W.drop i).take m).getD j 0 = W.getD (i + j) 0 := by simp [List.getD_eq_getElem?_getD, List.getElem?_take, h]
theorem does_any (w0 : World) (F : List Atom) (b g n c : Nat) (W : List Int) (hW : W.length = n) (hc : n ≤ c) (hn : n ≤ 1073741824) (kd a bb cc w : Int) (d0 : -9223372036854775808 ≤ kd) (d1 : kd ≤ 9223372036854775807) (a0 : -9223372036854775808 ≤ a) (a1 : a ≤ 9223372036854775807) (b0 : -9223372036854775808 ≤ bb) (b1 : bb ≤ 9223372036854775807) (c0 : -9223372036854775808 ≤ cc) (c1 : cc ≤ 9223372036854775807) (sa : Option Addr) (sn sc : Nat) (hs : sn ≤ 9223372036854775807) (Y : List Int) (hY : Y.length = sn) (hr : sn = 0 ∨ ∃ b2 o2, sa = some ⟨b2, o2, none⟩ ∧ RowAt w0 F b2 o2 (ints .u32 Y)) :
    CallK Try.prog 20 [.pointer (some ⟨b, 0, none⟩), .agg [Value.int .i64 kd, .int .i64 a, .int .i64 bb, .int .i64 cc, .int .u32 w, .slice sa sn sc].toArray] w0 (Blk b (.cells [.slice (some ⟨g, 0, none⟩) n c].toArray 77 (0, 0)) :: Own 30 1 (.slice (some ⟨g, 0, none⟩) n c) n (ints .u32 W) :: F) (Gives w0 fun v F2 => ∃ cnt e W2 want, v = .tuple #[.int .i64 a, .int .i64 cnt, .int .i64 e] ∧ F2 = Blk b (.cells [.slice (some ⟨g, 0, none⟩) n c].toArray 77 (0, 0)) :: Own 30 1 (.slice (some ⟨g, 0, none⟩) n c) n (ints .u32 W2) :: F ∧ Did n kd a bb w Y W W2 cnt e want) := by
  have hp := pk_lt kd (show (0:Int) < 4 by omega)
  have fail : ∀ {cnt : Int}, -9223372036854775808 ≤ cnt → cnt ≤ 9223372036854775807 → (pk kd 4 = 1 → cnt = sn) → (pk kd 4 < 3 → ¬ inR n a cnt) → (∀ k : Int, pk kd 4 ≠ 1 → True) → Did n kd a bb w Y W W cnt 51 (fun k => if pk kd 4 = 1 then Y.getD (k - a).toNat 0 else w) := by
    intro cnt l1 l2 l3 l4 _
    refine ⟨hW, l1, l2, .inr rfl, fun _ => rfl, fun h => absurd h (by omega), fun _ => rfl, fun h1 h2 => absurd h2 (l4 h1), fun h => absurd h (by omega), fun h1 _ k => by simp [h1], fun h1 => ⟨by rw [l3 h1, hY], fun k => by simp [h1]⟩, fun _ h => absurd h (by omega)⟩
  by_cases k0 : pk kd 4 = 0
  · by_cases h : inR n a 1
    · refine (does_write_ok w0 F b g n c W hW hc hn kd a bb cc w d0 d1 a0 a1 b0 b1 c0 c1 sa sn sc hs k0 h).gmono fun v F2 hv => ⟨1, 0, _, fun _ => w, hv.1, hv.2, ?_⟩
      refine ⟨by simpa using hW, by omega, by omega, .inl rfl, fun h => absurd rfl h, fun _ => h, fun h2 => absurd h h2, fun _ _ => rfl, fun _ k => ?_, fun _ _ _ => rfl, fun h => absurd h (by omega), fun h => absurd h (by omega)⟩
      have := inR1 h
      have hh := spl_at (X := [w]) (want := fun _ => w) hW h rfl (fun k h1 h2 => by rw [show (k - a).toNat = 0 by omega]; rfl) k
      rw [spl_one (by omega)] at hh
      exact hh
    · exact (does_write_bad w0 F b g n c W hW hc hn kd a bb cc w d0 d1 a0 a1 b0 b1 c0 c1 sa sn sc hs k0 h).gmono fun v F2 hv => ⟨1, 51, _, _, hv.1, hv.2, fail (by omega) (by omega) (by omega) (fun _ => h) (fun _ _ => trivial)⟩
  by_cases k1 : pk kd 4 = 1
  · by_cases h : inR n a sn
    · have fin : ∀ {X : List Int}, X = Y → Did n kd a bb w Y W (spl a.toNat X W) sn 0 (fun k => Y.getD (k - a).toNat 0) := by
        rintro X rfl
        have hl := h
        obtain ⟨h0, h1, h2, h3⟩ := hl
        exact ⟨by rw [spl_length (by omega)]; exact hW, by omega, by omega, .inl rfl, fun h => absurd rfl h, fun _ => h, fun h2 => absurd h h2, fun _ _ => rfl, fun _ k => spl_at (X := X) (want := fun k => X.getD (k - a).toNat 0) hW h (by omega) (fun _ _ _ => rfl) k, fun h => absurd k1 h, fun _ => ⟨by rw [hY], fun _ => rfl⟩, fun h => absurd h (by omega)⟩
      rcases hr with rfl | ⟨b2, o2, rfl, hr⟩
      · have : Y = [] := List.eq_nil_of_length_eq_zero hY
        subst this
        refine (does_lay_zero w0 F b g n c W hW hc hn kd a bb cc w d0 d1 a0 a1 b0 b1 c0 c1 sa sc k1 h).gmono fun v F2 hv => ⟨0, 0, W, fun k => ([] : List Int).getD (k - a).toNat 0, hv.1, hv.2, ?_⟩
        have := fin rfl
        rwa [spl_nil] at this
      · exact (does_lay_ok w0 F b g n c W hW hc hn kd a bb cc w d0 d1 a0 a1 b0 b1 c0 c1 b2 o2 sn sc Y hY hr hs k1 h).gmono fun v F2 hv => ⟨_, _, _, _, hv.1, hv.2, fin rfl⟩
    · exact (does_lay_bad w0 F b g n c W hW hc hn kd a bb cc w d0 d1 a0 a1 b0 b1 c0 c1 sa sn sc hs k1 h).gmono fun v F2 hv => ⟨_, _, _, _, hv.1, hv.2, fail (by omega) (by omega) (fun _ => rfl) (fun _ => h) (fun _ _ => trivial)⟩
  by_cases k2 : pk kd 4 = 2
  · by_cases h : inR n a bb
    · refine (does_fill_ok w0 F b g n c W hW hc hn kd a bb cc w d0 d1 a0 a1 b0 b1 c0 c1 sa sn sc hs k2 h).gmono fun v F2 hv => ⟨_, _, _, fun _ => w, hv.1, hv.2, ?_⟩
      have hl := h
      obtain ⟨h0, h1, h2, h3⟩ := hl
      exact ⟨by rw [spl_length (by simp; omega)]; exact hW, by omega, by omega, .inl rfl, fun h => absurd rfl h, fun _ => h, fun h2 => absurd h h2, fun _ _ => rfl, fun _ k => spl_at (X := List.replicate bb.toNat w) (want := fun _ => w) hW h (by simp) (fun k _ _ => getD_rep (by omega)) k, fun _ _ _ => rfl, fun h => absurd h (by omega), fun h => absurd h (by omega)⟩
    · exact (does_fill_bad w0 F b g n c W hW hc hn kd a bb cc w d0 d1 a0 a1 b0 b1 c0 c1 sa sn sc hs k2 h).gmono fun v F2 hv => ⟨_, _, _, _, hv.1, hv.2, fail (by omega) (by omega) (by omega) (fun _ => h) (fun _ _ => trivial)⟩
  have k3 : pk kd 4 = 3 := by omega
  by_cases h : inR n a cc
  · by_cases q : inR n bb cc
    · refine (does_move_ok w0 F b g n c W hW hc hn kd a bb cc w d0 d1 a0 a1 b0 b1 c0 c1 sa sn sc hs ⟨k0, k1, k2⟩ h q).gmono fun v F2 hv => ⟨_, _, _, fun k => W.getD (bb + k - a).toNat 0, hv.1, hv.2, ?_⟩
      have hl := h
      obtain ⟨h0, h1, h2, h3⟩ := hl
      have ql := q
      obtain ⟨q0, q1, q2, q3⟩ := ql
      exact ⟨by rw [spl_length (by simp; omega)]; exact hW, by omega, by omega, .inl rfl, fun h => absurd rfl h, fun _ => h, fun h2 => absurd h h2, fun _ _ => rfl, fun _ k => spl_at (X := (W.drop bb.toNat).take cc.toNat) (want := fun k => W.getD (bb + k - a).toNat 0) hW h (by simp; omega) (fun k k0 k1 => by rw [getD_part (by omega)]; congr 1; omega) k, fun _ h => absurd k3 h, fun h => absurd h (by omega), fun _ _ => ⟨q, fun _ => rfl⟩⟩
    · exact (does_move_from w0 F b g n c W hW hc hn kd a bb cc w d0 d1 a0 a1 b0 b1 c0 c1 sa sn sc hs ⟨k0, k1, k2⟩ h q).gmono fun v F2 hv => ⟨_, _, _, _, hv.1, hv.2, fail (by omega) (by omega) (by omega) (by omega) (fun _ _ => trivial)⟩
  · exact (does_move_bad w0 F b g n c W hW hc hn kd a bb cc w d0 d1 a0 a1 b0 b1 c0 c1 sa sn sc hs ⟨k0, k1, k2⟩ h).gmono fun v F2 hv => ⟨_, _, _, _, hv.1, hv.2, fail (by omega) (by omega) (by omega) (by omega) (fun _ _ => trivial)⟩
theorem same_words (w0 : World) (F : List Atom) (b o n c b2 o2 c2 : Nat) (W : List Int) (hW : W.length = n) (hn : n ≤ 1073741824) (h1 : RowAt w0 F b o (ints .u32 W)) (h2 : RowAt w0 F b2 o2 (ints .u32 W)) :
    CallK Try.prog 21 [.slice (some ⟨b, o, none⟩) n c, .slice (some ⟨b2, o2, none⟩) n c2] w0 (F) (Gives w0 fun v F2 => v = .bool true ∧ F2 = F) := by
  refine c_enter Try.func21 rfl rfl rfl ?_
  refine g_seq ?_
  refine g_region ?_
  refine l_assign rfl rfl ?_
  refine l_nil ?_
  refine g_seq ?_
  refine g_seq ?_
  refine g_region ?_
  refine l_move rfl rfl ?_
  refine l_len rfl Try.underlying23 rfl ?_
  refine l_move rfl rfl ?_
  refine l_len rfl Try.underlying23 rfl ?_
  refine l_neq rfl rfl rfl ?_
  refine l_nil ?_
  refine g_cond rfl ?_ ?_
  · intro hbr
    have hbr := of_decide_eq_true hbr
    (exfalso; omega)
  intro hbr
  have hbr := of_decide_eq_false hbr
  refine g_skip ?_
  refine g_seq ?_
  refine g_seq ?_
  refine g_region ?_
  refine l_assign rfl rfl ?_
  refine l_nil ?_
  refine g_block ?_
  refine g_loop (X := Int) (fun i => 0 ≤ i ∧ i ≤ n) (fun i => (n - i).toNat) (fun i => [(0, .slice (some ⟨b, o, none⟩) n c), (1, .slice (some ⟨b2, o2, none⟩) n c2), (5, .int .i64 i)]) (fun i => F) 0 (by omega) (.cons rfl (.cons rfl (.cons rfl .nil))) (fun w hw => SPI.holds hw) ?_
  rintro i ⟨i0, i1⟩ ih
  refine g_seq ?_
  refine g_seq ?_
  refine g_region ?_
  refine l_move rfl rfl ?_
  refine l_move rfl rfl ?_
  refine l_len rfl Try.underlying23 rfl ?_
  refine l_lss rfl rfl rfl ?_
  refine l_nil ?_
  refine g_cond rfl ?_ ?_
  · intro hbr
    have hbr := of_decide_eq_true hbr
    refine g_skip ?_
    refine g_seq ?_
    refine g_block ?_
    refine g_seq ?_
    refine gp_start mo (by kernel_rfl) (by kernel_rfl) ?_
    refine gp_quiet 0 rfl rfl rfl rfl rfl rfl (q_move rfl) ?_
    refine gp_quiet 1 rfl rfl rfl rfl rfl rfl (q_move rfl) ?_
    refine gp_quiet 2 rfl rfl rfl rfl rfl rfl (q_ixs Try.underlying23 Try.sizeOf30 rfl rfl (by omega) (by omega)) ?_
    refine gp_quiet 3 rfl rfl rfl rfl rfl rfl (q_loadc Try.isAgg30 rfl (word_row h1.ex (by omega))) ?_
    refine gp_quiet 4 rfl rfl rfl rfl rfl rfl (q_move rfl) ?_
    refine gp_quiet 5 rfl rfl rfl rfl rfl rfl (q_move rfl) ?_
    refine gp_quiet 6 rfl rfl rfl rfl rfl rfl (q_ixs Try.underlying23 Try.sizeOf30 rfl rfl (by omega) (by omega)) ?_
    refine gp_quiet 7 rfl rfl rfl rfl rfl rfl (q_loadc Try.isAgg30 rfl (word_row h2.ex (by omega))) ?_
    refine gp_quiet 8 rfl rfl rfl rfl rfl rfl (q_neq rfl rfl) ?_
    refine gp_end rfl rfl ?_
    refine g_cond rfl ?_ ?_
    · intro hbr
      have hbr := of_decide_eq_true hbr
      (exfalso; omega)
    intro hbr
    have hbr := of_decide_eq_false hbr
    refine g_skip ?_
    refine g_inBlock ?_
    refine g_region ?_
    refine l_move rfl rfl ?_
    first | refine l_add rfl rfl rfl (w_i64 (by omega) (by omega)) ?_ | refine l_addw rfl rfl rfl ?_
    refine l_assign rfl rfl ?_
    refine l_nil ?_
    exact g_againi (ih (i + 1) (by omega) (by omega)) (.cons rfl (.cons rfl (.cons rfl .nil)))
  intro hbr
  have hbr := of_decide_eq_false hbr
  refine g_exit rfl ?_
  refine g_seq ?_
  refine g_region ?_
  refine l_assign rfl rfl ?_
  refine l_nil ?_
  refine g_ret Try.func21 rfl (.tmp rfl .nil) ?_
  exact Gives.mki ⟨rfl, rfl⟩
end Go.Proofs.Ytlgcghhjgcdigaa.Fw
