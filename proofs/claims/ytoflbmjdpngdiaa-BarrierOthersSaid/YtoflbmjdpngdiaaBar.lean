import Derived.Test.YtoflbmjdpngdiaaMem
namespace Go.Proofs.Ytoflbmjdpngdiaa.Fw
open Go Go.Proofs
set_option linter.unusedVariables false
set_option linter.unusedSimpArgs false
set_option maxRecDepth 10000
theorem mo : Try.prog.follows .mixedOrders = true := by kernel_rfl
theorem bd_42_0_1 (a0_0 : Int) (a1_0 : Int) (w : World) : (Instr.build 42 #[(0, .int .i64 a0_0), (1, .int .i64 a1_0)]).run Try.prog w = .ok (.agg #[.int .i64 a0_0, .int .i64 a1_0]) w := by kernel_rfl
theorem bd_42_z  (w : World) : (Instr.build 42 #[]).run Try.prog w = .ok (.agg #[.int .i64 0, .int .i64 0]) w := by kernel_rfl
theorem fa_42_0 (a : Addr) (w : World) : (Instr.fieldAt 42 (.pointer (some a)) 0).run Try.prog w = .ok (.pointer (some (a.add 0))) w := by
  simp [Instr.fieldAt, Try.runUnderlying42, Instr.sureAddr, fieldPlace, Try.sizeOf3, Sem.run_bind, Sem.run_pure]
theorem fa_42_1 (a : Addr) (w : World) : (Instr.fieldAt 42 (.pointer (some a)) 1).run Try.prog w = .ok (.pointer (some (a.add 1))) w := by
  simp [Instr.fieldAt, Try.runUnderlying42, Instr.sureAddr, fieldPlace, Try.sizeOf3, Sem.run_bind, Sem.run_pure]
theorem take2 {W : List Int} {a : Nat} (h : a + 2 ≤ W.length) : ((W.drop a).take (2 : Int).toNat).length = 2 ∧ ((W.drop a).take (2 : Int).toNat).getD (0 : Int).toNat 0 = W.getD a 0 ∧ ((W.drop a).take (2 : Int).toNat).getD (1 : Int).toNat 0 = W.getD (a + 1) 0 := by
  refine ⟨by simp; omega, ?_, ?_⟩ <;> simp [List.getD_eq_getElem?_getD, List.getElem?_take, List.getElem?_drop]
theorem look_ok (w0 : World) (F : List Atom) (b g n c : Nat) (W : List Int) (hW : W.length = n) (hc : n ≤ c) (hn : n ≤ 1073741824) (hU : ∀ i, 0 ≤ W.getD i 0 ∧ W.getD i 0 ≤ 4294967295) (at_ : Int) (a1 : at_ ≤ 9223372036854775807) (h : inR n at_ 2) :
    CallK Try.prog 13 [.pointer (some ⟨b, 0, none⟩), .int .i64 at_] w0 (Blk b (.cells [.slice (some ⟨g, 0, none⟩) n c].toArray 56 (0, 0)) :: Own 23 1 (.slice (some ⟨g, 0, none⟩) n c) n (ints .u32 W) :: F) (Gives w0 fun v F2 => v = .tuple #[.agg #[.int .i64 (W.getD at_.toNat 0), .int .i64 (W.getD (at_.toNat + 1) 0)], .int .i64 0] ∧ F2 = Blk b (.cells [.slice (some ⟨g, 0, none⟩) n c].toArray 56 (0, 0)) :: Own 23 1 (.slice (some ⟨g, 0, none⟩) n c) n (ints .u32 W) :: F) := by
  obtain ⟨h0, _, h2, h3⟩ := (show 0 ≤ at_ ∧ (0:Int) ≤ 2 ∧ at_ ≤ n ∧ (2:Int) ≤ n - at_ from h)
  obtain ⟨hl, e0, e1⟩ := take2 (W := W) (a := at_.toNat) (by omega)
  obtain ⟨u0, u1⟩ := hU at_.toNat
  obtain ⟨u2, u3⟩ := hU (at_.toNat + 1)
  refine c_enter Try.func13 rfl rfl rfl ?_
  refine g_seq ?_
  refine g_region ?_
  refine l_allocs rfl Try.zeroValue42 ?_; intro b4
  refine l_assign rfl rfl ?_
  refine l_nil ?_
  refine g_seq ?_
  refine g_seq ?_
  refine g_region ?_
  refine l_move rfl rfl ?_
  refine l_eqpn rfl Try.underlying28 rfl rfl ?_
  refine l_nil ?_
  refine g_cond_f rfl ?_
  refine g_skip ?_
  refine g_seq ?_
  refine g_region ?_
  refine l_move rfl rfl ?_
  refine l_move rfl rfl ?_
  refine l_call rfl Try.call25 rfl ((take_ok _ _ b g n c W hW hc hn _ _ (by omega) (by omega) h).sp (.cons 1 rfl (.cons 1 rfl .refl))) ?_; rintro _ _ ⟨q, rfl, rfl⟩
  refine l_move rfl rfl ?_
  refine l_extract rfl rfl rfl ?_
  refine l_extract rfl rfl rfl ?_
  refine l_assign rfl rfl ?_
  refine l_assign rfl rfl ?_
  refine l_nil ?_
  refine g_seq ?_
  refine g_seq ?_
  refine g_region ?_
  refine l_move rfl rfl ?_
  refine l_neq rfl rfl rfl ?_
  refine l_nil ?_
  refine g_cond rfl ?_ ?_
  · intro hbr
    have hbr := of_decide_eq_true hbr
    (exfalso; omega)
  intro hbr
  have hbr := of_decide_eq_false hbr
  refine g_skip ?_
  refine g_seq ?_
  refine gp_start mo (by kernel_rfl) (by kernel_rfl) ?_
  refine gp_quiet 0 rfl rfl rfl rfl rfl rfl (q_move rfl) ?_
  refine gp_quiet 1 rfl rfl rfl rfl rfl rfl (q_ixs Try.underlying26 Try.sizeOf23 rfl rfl (by omega) (by omega)) ?_
  refine gp_quiet 2 rfl rfl rfl rfl rfl rfl (q_loadc Try.isAgg23 rfl (word_at (mem_getO 0 rfl) (by omega))) ?_
  first | refine gp_quiet 3 rfl rfl rfl rfl rfl rfl (q_conv Try.underlying23 Try.underlying3 rfl (w_i64 (by omega) (by omega))) ?_ | refine gp_quiet 3 rfl rfl rfl rfl rfl rfl (q_convw Try.underlying23 Try.underlying3 rfl) ?_
  refine gp_quiet 4 rfl rfl rfl rfl rfl rfl (q_move rfl) ?_
  refine gp_quiet 5 rfl rfl rfl rfl rfl rfl (q_ixs Try.underlying26 Try.sizeOf23 rfl rfl (by omega) (by omega)) ?_
  refine gp_quiet 6 rfl rfl rfl rfl rfl rfl (q_loadc Try.isAgg23 rfl (word_at (mem_getO 0 rfl) (by omega))) ?_
  first | refine gp_quiet 7 rfl rfl rfl rfl rfl rfl (q_conv Try.underlying23 Try.underlying3 rfl (w_i64 (by omega) (by omega))) ?_ | refine gp_quiet 7 rfl rfl rfl rfl rfl rfl (q_convw Try.underlying23 Try.underlying3 rfl) ?_
  refine gp_quiet 8 rfl rfl rfl rfl rfl rfl (q_build rfl (fun w => bd_42_0_1 _ _ w)) ?_
  refine gp_eff 9 rfl rfl rfl rfl rfl rfl (does_sts Try.sizeOf42 rfl rfl rfl rfl rfl) ?_
  rintro _ _ ⟨rfl, rfl⟩
  refine ⟨?_, ?_⟩
  · refine .cons rfl rfl rfl rfl rfl (q_build rfl (fun w => bd_42_0_1 _ _ w)) ?_
    first | refine .cons rfl rfl rfl rfl rfl (q_conv Try.underlying23 Try.underlying3 rfl (w_i64 (by omega) (by omega))) ?_ | refine .cons rfl rfl rfl rfl rfl (q_convw Try.underlying23 Try.underlying3 rfl) ?_
    refine .cons rfl rfl rfl rfl rfl (q_loadc Try.isAgg23 rfl (word_at (mem_getO 0 rfl) (by omega))) ?_
    refine .cons rfl rfl rfl rfl rfl (q_ixs Try.underlying26 Try.sizeOf23 rfl rfl (by omega) (by omega)) ?_
    refine .cons rfl rfl rfl rfl rfl (q_move rfl) ?_
    first | refine .cons rfl rfl rfl rfl rfl (q_conv Try.underlying23 Try.underlying3 rfl (w_i64 (by omega) (by omega))) ?_ | refine .cons rfl rfl rfl rfl rfl (q_convw Try.underlying23 Try.underlying3 rfl) ?_
    refine .cons rfl rfl rfl rfl rfl (q_loadc Try.isAgg23 rfl (word_at (mem_getO 0 rfl) (by omega))) ?_
    refine .cons rfl rfl rfl rfl rfl (q_ixs Try.underlying26 Try.sizeOf23 rfl rfl (by omega) (by omega)) ?_
    refine .cons rfl rfl rfl rfl rfl (q_move rfl) ?_
    exact .nil
  refine gp_quiet 10 rfl rfl rfl rfl rfl rfl (q_assign rfl) ?_
  refine gp_end rfl rfl ?_
  refine g_ret Try.func13 rfl (.cis rfl Try.isAgg42 Try.sizeOf42 rfl (.tmp rfl .nil)) ?_
  exact Gives.mk ⟨by simp only [resVal, e0, e1], rfl⟩ (.cons 1 rfl (.cons 1 rfl (.drop 0 rfl (.drop 0 rfl .refl))))
theorem look_bad (w0 : World) (F : List Atom) (b g n c : Nat) (W : List Int) (hW : W.length = n) (hc : n ≤ c) (hn : n ≤ 1073741824) (at_ : Int) (a0 : -9223372036854775808 ≤ at_) (a1 : at_ ≤ 9223372036854775807) (h : ¬ inR n at_ 2) :
    CallK Try.prog 13 [.pointer (some ⟨b, 0, none⟩), .int .i64 at_] w0 (Blk b (.cells [.slice (some ⟨g, 0, none⟩) n c].toArray 56 (0, 0)) :: Own 23 1 (.slice (some ⟨g, 0, none⟩) n c) n (ints .u32 W) :: F) (Gives w0 fun v F2 => v = .tuple #[.agg #[.int .i64 0, .int .i64 0], .int .i64 51] ∧ F2 = Blk b (.cells [.slice (some ⟨g, 0, none⟩) n c].toArray 56 (0, 0)) :: Own 23 1 (.slice (some ⟨g, 0, none⟩) n c) n (ints .u32 W) :: F) := by
  refine c_enter Try.func13 rfl rfl rfl ?_
  refine g_seq ?_
  refine g_region ?_
  refine l_allocs rfl Try.zeroValue42 ?_; intro b4
  refine l_assign rfl rfl ?_
  refine l_nil ?_
  refine g_seq ?_
  refine g_seq ?_
  refine g_region ?_
  refine l_move rfl rfl ?_
  refine l_eqpn rfl Try.underlying28 rfl rfl ?_
  refine l_nil ?_
  refine g_cond_f rfl ?_
  refine g_skip ?_
  refine g_seq ?_
  refine g_region ?_
  refine l_move rfl rfl ?_
  refine l_move rfl rfl ?_
  refine l_call rfl Try.call25 rfl ((take_bad _ _ b g n c W hW hc hn _ _ (by omega) (by omega) (by omega) (by omega) h).sp (.cons 1 rfl (.cons 1 rfl .refl))) ?_; rintro _ _ ⟨rfl, rfl⟩
  refine l_move rfl rfl ?_
  refine l_extract rfl rfl rfl ?_
  refine l_extract rfl rfl rfl ?_
  refine l_assign rfl rfl ?_
  refine l_assign rfl rfl ?_
  refine l_nil ?_
  refine g_seq ?_
  refine g_seq ?_
  refine g_region ?_
  refine l_move rfl rfl ?_
  refine l_neq rfl rfl rfl ?_
  refine l_nil ?_
  refine g_cond rfl ?_ ?_
  · intro hbr
    have hbr := of_decide_eq_true hbr
    refine g_seq ?_
    refine g_region ?_
    refine l_build rfl rfl (fun w => bd_42_z w) ?_
    refine l_move rfl rfl ?_
    refine l_sts Try.sizeOf42 rfl rfl rfl rfl rfl ?_
    refine l_assign rfl rfl ?_
    refine l_nil ?_
    refine g_ret Try.func13 rfl (.cis rfl Try.isAgg42 Try.sizeOf42 rfl (.tmp rfl .nil)) ?_
    exact Gives.mk ⟨rfl, rfl⟩ (.cons 0 rfl (.cons 0 rfl (.drop 0 rfl .refl)))
  · intro hbr
    have hbr := of_decide_eq_false hbr
    (exfalso; omega)
theorem look_nil (w0 : World) (F : List Atom) (at_ : Int) :
    CallK Try.prog 13 [.pointer none, .int .i64 at_] w0 (F) (Gives w0 fun v F2 => v = .tuple #[.agg #[.int .i64 0, .int .i64 0], .int .i64 3] ∧ F2 = F) := by
  refine c_enter Try.func13 rfl rfl rfl ?_
  refine g_seq ?_
  refine g_region ?_
  refine l_allocs rfl Try.zeroValue42 ?_; intro b4
  refine l_assign rfl rfl ?_
  refine l_nil ?_
  refine g_seq ?_
  refine g_seq ?_
  refine g_region ?_
  refine l_move rfl rfl ?_
  refine l_eqpn rfl Try.underlying28 rfl rfl ?_
  refine l_nil ?_
  refine g_cond_t rfl ?_
  refine g_seq ?_
  refine g_region ?_
  refine l_build rfl rfl (fun w => bd_42_z w) ?_
  refine l_sts Try.sizeOf42 rfl rfl rfl rfl rfl ?_
  refine l_assign rfl rfl ?_
  refine l_nil ?_
  refine g_ret Try.func13 rfl (.cis rfl Try.isAgg42 Try.sizeOf42 rfl (.tmp rfl .nil)) ?_
  exact Gives.mk ⟨rfl, rfl⟩ (.drop 0 rfl .refl)
theorem lookc_ok (w0 : World) (F : List Atom) (b g n c : Nat) (W : List Int) (hW : W.length = n) (hc : n ≤ c) (hn : n ≤ 1073741824) (hU : ∀ i, 0 ≤ W.getD i 0 ∧ W.getD i 0 ≤ 4294967295) (at_ : Int) (a1 : at_ ≤ 9223372036854775807) (h : inR n at_ 2) (kk : Int) (k0 : -9223372036854775808 ≤ kk) (k1 : kk ≤ 9223372036854775807) (hk : 1 ≤ kk ∧ kk ≤ 4) :
    CallK Try.prog 26 [.pointer (some ⟨b, 0, none⟩), .int .i64 at_, .int .i64 kk] w0 (Blk b (.cells [.slice (some ⟨g, 0, none⟩) n c].toArray 56 (0, 0)) :: Own 23 1 (.slice (some ⟨g, 0, none⟩) n c) n (ints .u32 W) :: F) (Gives w0 fun v F2 => v = .tuple #[.agg #[.int .i64 (W.getD at_.toNat 0), .int .i64 (W.getD (at_.toNat + 1) 0)], .int .i64 0] ∧ F2 = Blk b (.cells [.slice (some ⟨g, 0, none⟩) n c].toArray 56 (0, 0)) :: Own 23 1 (.slice (some ⟨g, 0, none⟩) n c) n (ints .u32 W) :: F) := by
  obtain ⟨h0, _, h2, h3⟩ := (show 0 ≤ at_ ∧ (0:Int) ≤ 2 ∧ at_ ≤ n ∧ (2:Int) ≤ n - at_ from h)
  refine c_enter Try.func26 rfl rfl rfl ?_
  refine g_seq ?_
  refine g_region ?_
  refine l_allocs rfl Try.zeroValue42 ?_; intro b6
  refine l_assign rfl rfl ?_
  refine l_nil ?_
  refine g_seq ?_
  refine g_region ?_
  refine l_move rfl rfl ?_
  refine l_move rfl rfl ?_
  refine l_call rfl Try.call13 rfl ((look_ok _ _ b g n c W hW hc hn hU _ (by omega) h).sp (.cons 1 rfl (.cons 1 rfl .refl))) ?_; rintro _ _ ⟨rfl, rfl⟩
  refine l_move rfl rfl ?_
  refine l_extract rfl rfl rfl ?_
  refine l_extract rfl rfl rfl ?_
  refine l_allocs rfl Try.zeroValue42 ?_; intro b8
  refine l_sts Try.sizeOf42 rfl rfl rfl rfl rfl ?_
  refine l_assign rfl rfl ?_
  refine l_nil ?_
  refine g_seq ?_
  refine g_seq ?_
  refine g_region ?_
  refine l_move rfl rfl ?_
  refine l_eql rfl rfl rfl ?_
  refine l_move rfl rfl ?_
  refine l_split 18 rfl ?_ ?_
  · intro hbr
    have hbr := of_decide_eq_true hbr
    refine l_guard_yes rfl rfl ?_
    refine l_move rfl rfl ?_
    refine l_guard_yes rfl rfl ?_
    refine l_lss rfl rfl rfl ?_
    refine l_guard_yes rfl rfl ?_
    refine l_move rfl rfl ?_
    refine l_split 21 rfl ?_ ?_
    · intro hbr
      have hbr := of_decide_eq_true hbr
      (exfalso; omega)
    intro hbr
    have hbr := of_decide_eq_false hbr
    refine l_guard_yes rfl rfl ?_
    refine l_move rfl rfl ?_
    refine l_guard_yes rfl rfl ?_
    refine l_gtr rfl rfl rfl ?_
    refine l_guard_yes rfl rfl ?_
    refine l_pick_f rfl rfl rfl ?_
    refine l_pick_t rfl rfl rfl ?_
    refine l_nil ?_
    refine g_cond rfl ?_ ?_
    · intro hbr
      have hbr := of_decide_eq_true hbr
      (exfalso; omega)
    intro hbr
    have hbr := of_decide_eq_false hbr
    refine g_skip ?_
    refine g_seq ?_
    refine g_region ?_
    refine l_lds rfl Try.isAgg42 Try.sizeOf42 rfl rfl ?_
    refine l_move rfl rfl ?_
    refine l_sts Try.sizeOf42 rfl rfl rfl rfl rfl ?_
    refine l_assign rfl rfl ?_
    refine l_nil ?_
    refine g_ret Try.func26 rfl (.cis rfl Try.isAgg42 Try.sizeOf42 rfl (.tmp rfl .nil)) ?_
    exact Gives.mk ⟨rfl, rfl⟩ (.cons 1 rfl (.cons 1 rfl (.drop 0 rfl (.drop 0 rfl .refl))))
  · intro hbr
    have hbr := of_decide_eq_false hbr
    (exfalso; omega)
theorem lookc_bad (w0 : World) (F : List Atom) (b g n c : Nat) (W : List Int) (hW : W.length = n) (hc : n ≤ c) (hn : n ≤ 1073741824) (hU : ∀ i, 0 ≤ W.getD i 0 ∧ W.getD i 0 ≤ 4294967295) (at_ : Int) (a1 : at_ ≤ 9223372036854775807) (h : inR n at_ 2) (kk : Int) (k0 : -9223372036854775808 ≤ kk) (k1 : kk ≤ 9223372036854775807) (hk : ¬ (1 ≤ kk ∧ kk ≤ 4)) :
    CallK Try.prog 26 [.pointer (some ⟨b, 0, none⟩), .int .i64 at_, .int .i64 kk] w0 (Blk b (.cells [.slice (some ⟨g, 0, none⟩) n c].toArray 56 (0, 0)) :: Own 23 1 (.slice (some ⟨g, 0, none⟩) n c) n (ints .u32 W) :: F) (Gives w0 fun v F2 => v = .tuple #[.agg #[.int .i64 (W.getD at_.toNat 0), .int .i64 (W.getD (at_.toNat + 1) 0)], .int .i64 180] ∧ F2 = Blk b (.cells [.slice (some ⟨g, 0, none⟩) n c].toArray 56 (0, 0)) :: Own 23 1 (.slice (some ⟨g, 0, none⟩) n c) n (ints .u32 W) :: F) := by
  obtain ⟨h0, _, h2, h3⟩ := (show 0 ≤ at_ ∧ (0:Int) ≤ 2 ∧ at_ ≤ n ∧ (2:Int) ≤ n - at_ from h)
  refine c_enter Try.func26 rfl rfl rfl ?_
  refine g_seq ?_
  refine g_region ?_
  refine l_allocs rfl Try.zeroValue42 ?_; intro b6
  refine l_assign rfl rfl ?_
  refine l_nil ?_
  refine g_seq ?_
  refine g_region ?_
  refine l_move rfl rfl ?_
  refine l_move rfl rfl ?_
  refine l_call rfl Try.call13 rfl ((look_ok _ _ b g n c W hW hc hn hU _ (by omega) h).sp (.cons 1 rfl (.cons 1 rfl .refl))) ?_; rintro _ _ ⟨rfl, rfl⟩
  refine l_move rfl rfl ?_
  refine l_extract rfl rfl rfl ?_
  refine l_extract rfl rfl rfl ?_
  refine l_allocs rfl Try.zeroValue42 ?_; intro b8
  refine l_sts Try.sizeOf42 rfl rfl rfl rfl rfl ?_
  refine l_assign rfl rfl ?_
  refine l_nil ?_
  refine g_seq ?_
  refine g_seq ?_
  refine g_region ?_
  refine l_move rfl rfl ?_
  refine l_eql rfl rfl rfl ?_
  refine l_move rfl rfl ?_
  refine l_split 18 rfl ?_ ?_
  · intro hbr
    have hbr := of_decide_eq_true hbr
    refine l_guard_yes rfl rfl ?_
    refine l_move rfl rfl ?_
    refine l_guard_yes rfl rfl ?_
    refine l_lss rfl rfl rfl ?_
    refine l_guard_yes rfl rfl ?_
    refine l_move rfl rfl ?_
    refine l_split 21 rfl ?_ ?_
    · intro hbr
      have hbr := of_decide_eq_true hbr
      refine l_guard_no rfl rfl rfl ?_
      refine l_guard_no rfl rfl rfl ?_
      refine l_guard_yes rfl rfl ?_
      refine l_pick_t rfl rfl rfl ?_
      refine l_pick_t rfl rfl rfl ?_
      refine l_nil ?_
      refine g_cond_t rfl ?_
      refine g_region ?_
      refine l_assign rfl rfl ?_
      refine l_nil ?_
      refine g_seq ?_
      refine g_region ?_
      refine l_lds rfl Try.isAgg42 Try.sizeOf42 rfl rfl ?_
      refine l_move rfl rfl ?_
      refine l_sts Try.sizeOf42 rfl rfl rfl rfl rfl ?_
      refine l_assign rfl rfl ?_
      refine l_nil ?_
      refine g_ret Try.func26 rfl (.cis rfl Try.isAgg42 Try.sizeOf42 rfl (.tmp rfl .nil)) ?_
      exact Gives.mk ⟨rfl, rfl⟩ (.cons 1 rfl (.cons 1 rfl (.drop 0 rfl (.drop 0 rfl .refl))))
    intro hbr
    have hbr := of_decide_eq_false hbr
    refine l_guard_yes rfl rfl ?_
    refine l_move rfl rfl ?_
    refine l_guard_yes rfl rfl ?_
    refine l_gtr rfl rfl rfl ?_
    refine l_guard_yes rfl rfl ?_
    refine l_pick_f rfl rfl rfl ?_
    refine l_pick_t rfl rfl rfl ?_
    refine l_nil ?_
    refine g_cond rfl ?_ ?_
    · intro hbr
      have hbr := of_decide_eq_true hbr
      refine g_region ?_
      refine l_assign rfl rfl ?_
      refine l_nil ?_
      refine g_seq ?_
      refine g_region ?_
      refine l_lds rfl Try.isAgg42 Try.sizeOf42 rfl rfl ?_
      refine l_move rfl rfl ?_
      refine l_sts Try.sizeOf42 rfl rfl rfl rfl rfl ?_
      refine l_assign rfl rfl ?_
      refine l_nil ?_
      refine g_ret Try.func26 rfl (.cis rfl Try.isAgg42 Try.sizeOf42 rfl (.tmp rfl .nil)) ?_
      exact Gives.mk ⟨rfl, rfl⟩ (.cons 1 rfl (.cons 1 rfl (.drop 0 rfl (.drop 0 rfl .refl))))
    · intro hbr
      have hbr := of_decide_eq_false hbr
      (exfalso; omega)
  · intro hbr
    have hbr := of_decide_eq_false hbr
    (exfalso; omega)
theorem lookc_out (w0 : World) (F : List Atom) (b g n c : Nat) (W : List Int) (hW : W.length = n) (hc : n ≤ c) (hn : n ≤ 1073741824) (at_ : Int) (a0 : -9223372036854775808 ≤ at_) (a1 : at_ ≤ 9223372036854775807) (h : ¬ inR n at_ 2) (kk : Int) (k0 : -9223372036854775808 ≤ kk) (k1 : kk ≤ 9223372036854775807) :
    CallK Try.prog 26 [.pointer (some ⟨b, 0, none⟩), .int .i64 at_, .int .i64 kk] w0 (Blk b (.cells [.slice (some ⟨g, 0, none⟩) n c].toArray 56 (0, 0)) :: Own 23 1 (.slice (some ⟨g, 0, none⟩) n c) n (ints .u32 W) :: F) (Gives w0 fun v F2 => v = .tuple #[.agg #[.int .i64 0, .int .i64 0], .int .i64 51] ∧ F2 = Blk b (.cells [.slice (some ⟨g, 0, none⟩) n c].toArray 56 (0, 0)) :: Own 23 1 (.slice (some ⟨g, 0, none⟩) n c) n (ints .u32 W) :: F) := by
  refine c_enter Try.func26 rfl rfl rfl ?_
  refine g_seq ?_
  refine g_region ?_
  refine l_allocs rfl Try.zeroValue42 ?_; intro b6
  refine l_assign rfl rfl ?_
  refine l_nil ?_
  refine g_seq ?_
  refine g_region ?_
  refine l_move rfl rfl ?_
  refine l_move rfl rfl ?_
  refine l_call rfl Try.call13 rfl ((look_bad _ _ b g n c W hW hc hn _ (by omega) (by omega) h).sp (.cons 1 rfl (.cons 1 rfl .refl))) ?_; rintro _ _ ⟨rfl, rfl⟩
  refine l_move rfl rfl ?_
  refine l_extract rfl rfl rfl ?_
  refine l_extract rfl rfl rfl ?_
  refine l_allocs rfl Try.zeroValue42 ?_; intro b8
  refine l_sts Try.sizeOf42 rfl rfl rfl rfl rfl ?_
  refine l_assign rfl rfl ?_
  refine l_nil ?_
  refine g_seq ?_
  refine g_seq ?_
  refine g_region ?_
  refine l_move rfl rfl ?_
  refine l_eql rfl rfl rfl ?_
  refine l_move rfl rfl ?_
  refine l_split 18 rfl ?_ ?_
  · intro hbr
    have hbr := of_decide_eq_true hbr
    (exfalso; omega)
  intro hbr
  have hbr := of_decide_eq_false hbr
  refine l_guard_no rfl rfl rfl ?_
  refine l_guard_no rfl rfl rfl ?_
  refine l_guard_no rfl rfl rfl ?_
  refine l_guard_nou rfl rfl rfl ?_
  refine l_guard_nou rfl rfl rfl ?_
  refine l_guard_no rfl rfl rfl ?_
  refine l_pick_f rfl rfl rfl ?_
  refine l_nil ?_
  refine g_cond_f rfl ?_
  refine g_skip ?_
  refine g_seq ?_
  refine g_region ?_
  refine l_lds rfl Try.isAgg42 Try.sizeOf42 rfl rfl ?_
  refine l_move rfl rfl ?_
  refine l_sts Try.sizeOf42 rfl rfl rfl rfl rfl ?_
  refine l_assign rfl rfl ?_
  refine l_nil ?_
  refine g_ret Try.func26 rfl (.cis rfl Try.isAgg42 Try.sizeOf42 rfl (.tmp rfl .nil)) ?_
  exact Gives.mk ⟨rfl, rfl⟩ (.cons 1 rfl (.cons 1 rfl (.drop 0 rfl (.drop 0 rfl .refl))))
theorem lookc_nil (w0 : World) (F : List Atom) (at_ kk : Int) :
    CallK Try.prog 26 [.pointer none, .int .i64 at_, .int .i64 kk] w0 (F) (Gives w0 fun v F2 => v = .tuple #[.agg #[.int .i64 0, .int .i64 0], .int .i64 3] ∧ F2 = F) := by
  refine c_enter Try.func26 rfl rfl rfl ?_
  refine g_seq ?_
  refine g_region ?_
  refine l_allocs rfl Try.zeroValue42 ?_; intro b6
  refine l_assign rfl rfl ?_
  refine l_nil ?_
  refine g_seq ?_
  refine g_region ?_
  refine l_move rfl rfl ?_
  refine l_move rfl rfl ?_
  refine l_call rfl Try.call13 rfl ((look_nil _ _ _).sp .refl) ?_; rintro _ _ ⟨rfl, rfl⟩
  refine l_move rfl rfl ?_
  refine l_extract rfl rfl rfl ?_
  refine l_extract rfl rfl rfl ?_
  refine l_allocs rfl Try.zeroValue42 ?_; intro b8
  refine l_sts Try.sizeOf42 rfl rfl rfl rfl rfl ?_
  refine l_assign rfl rfl ?_
  refine l_nil ?_
  refine g_seq ?_
  refine g_seq ?_
  refine g_region ?_
  refine l_move rfl rfl ?_
  refine l_eql rfl rfl rfl ?_
  refine l_move rfl rfl ?_
  refine l_split 18 rfl ?_ ?_
  · intro hbr
    have hbr := of_decide_eq_true hbr
    (exfalso; omega)
  intro hbr
  have hbr := of_decide_eq_false hbr
  refine l_guard_no rfl rfl rfl ?_
  refine l_guard_no rfl rfl rfl ?_
  refine l_guard_no rfl rfl rfl ?_
  refine l_guard_nou rfl rfl rfl ?_
  refine l_guard_nou rfl rfl rfl ?_
  refine l_guard_no rfl rfl rfl ?_
  refine l_pick_f rfl rfl rfl ?_
  refine l_nil ?_
  refine g_cond_f rfl ?_
  refine g_skip ?_
  refine g_seq ?_
  refine g_region ?_
  refine l_lds rfl Try.isAgg42 Try.sizeOf42 rfl rfl ?_
  refine l_move rfl rfl ?_
  refine l_sts Try.sizeOf42 rfl rfl rfl rfl rfl ?_
  refine l_assign rfl rfl ?_
  refine l_nil ?_
  refine g_ret Try.func26 rfl (.cis rfl Try.isAgg42 Try.sizeOf42 rfl (.tmp rfl .nil)) ?_
  exact Gives.mk ⟨rfl, rfl⟩ (.drop 0 rfl (.drop 0 rfl .refl))
theorem come_full (w0 : World) (F : List Atom) (b g n c : Nat) (W : List Int) (hW : W.length = n) (hc : n ≤ c) (hn : n ≤ 1073741824) (hU : ∀ i, 0 ≤ W.getD i 0 ∧ W.getD i 0 ≤ 4294967295) (at_ : Int) (a1 : at_ ≤ 9223372036854775807) (h : inR n at_ 2) (kk : Int) (k0 : -9223372036854775808 ≤ kk) (k1 : kk ≤ 9223372036854775807) (hk : 1 ≤ kk ∧ kk ≤ 4) (hf : kk ≤ W.getD at_.toNat 0) :
    CallK Try.prog 14 [.pointer (some ⟨b, 0, none⟩), .int .i64 at_, .int .i64 kk] w0 (Blk b (.cells [.slice (some ⟨g, 0, none⟩) n c].toArray 56 (0, 0)) :: Own 23 1 (.slice (some ⟨g, 0, none⟩) n c) n (ints .u32 W) :: F) (Gives w0 fun v F2 => v = .tuple #[.bool false, .int .i64 181] ∧ F2 = Blk b (.cells [.slice (some ⟨g, 0, none⟩) n c].toArray 56 (0, 0)) :: Own 23 1 (.slice (some ⟨g, 0, none⟩) n c) n (ints .u32 W) :: F) := by
  obtain ⟨h0, _, h2, h3⟩ := (show 0 ≤ at_ ∧ (0:Int) ≤ 2 ∧ at_ ≤ n ∧ (2:Int) ≤ n - at_ from h)
  obtain ⟨u0, u1⟩ := hU at_.toNat
  obtain ⟨u2, u3⟩ := hU (at_.toNat + 1)
  refine c_enter Try.func14 rfl rfl rfl ?_
  refine g_seq ?_
  refine g_region ?_
  refine l_assign rfl rfl ?_
  refine l_assign rfl rfl ?_
  refine l_nil ?_
  refine g_seq ?_
  refine g_region ?_
  refine l_move rfl rfl ?_
  refine l_move rfl rfl ?_
  refine l_move rfl rfl ?_
  refine l_call rfl Try.call26 rfl (lookc_ok _ _ b g n c W hW hc hn hU _ (by omega) h _ (by omega) (by omega) hk) ?_; rintro _ _ ⟨rfl, rfl⟩
  refine l_move rfl rfl ?_
  refine l_extract rfl rfl rfl ?_
  refine l_extract rfl rfl rfl ?_
  refine l_allocs rfl Try.zeroValue42 ?_; intro b8
  refine l_sts Try.sizeOf42 rfl rfl rfl rfl rfl ?_
  refine l_assign rfl rfl ?_
  refine l_nil ?_
  refine g_seq ?_
  refine g_block ?_
  refine g_seq ?_
  refine g_region ?_
  refine l_move rfl rfl ?_
  refine l_neq rfl rfl rfl ?_
  refine l_assign rfl rfl ?_
  refine l_nil ?_
  refine g_cond rfl ?_ ?_
  · intro hbr
    have hbr := of_decide_eq_true hbr
    (exfalso; omega)
  intro hbr
  have hbr := of_decide_eq_false hbr
  refine g_seq ?_
  refine g_region ?_
  refine l_fieldAddr rfl fa_42_0 rfl ?_
  first | refine l_ld rfl Try.isAgg3 rfl rfl ?_ | refine l_ldw rfl Try.isAgg3 rfl (by omega) ?_
  refine l_move rfl rfl ?_
  refine l_geq rfl rfl rfl ?_
  refine l_assign rfl rfl ?_
  refine l_nil ?_
  refine g_cond rfl ?_ ?_
  · intro hbr
    have hbr := of_decide_eq_true hbr
    refine g_seq ?_
    refine g_region ?_
    refine l_assign rfl rfl ?_
    refine l_assign rfl rfl ?_
    refine l_nil ?_
    refine g_ret Try.func14 rfl (.tmp rfl (.tmp rfl .nil)) ?_
    exact Gives.mk ⟨rfl, rfl⟩ (.cons 1 rfl (.cons 1 rfl (.drop 0 rfl .refl)))
  · intro hbr
    have hbr := of_decide_eq_false hbr
    (exfalso; omega)
theorem come_ok (w0 : World) (F : List Atom) (b g n c : Nat) (W : List Int) (hW : W.length = n) (hc : n ≤ c) (hn : n ≤ 1073741824) (hU : ∀ i, 0 ≤ W.getD i 0 ∧ W.getD i 0 ≤ 4294967295) (at_ : Int) (a1 : at_ ≤ 9223372036854775807) (h : inR n at_ 2) (kk : Int) (k0 : -9223372036854775808 ≤ kk) (k1 : kk ≤ 9223372036854775807) (hk : 1 ≤ kk ∧ kk ≤ 4) (hf : ¬ kk ≤ W.getD at_.toNat 0) :
    CallK Try.prog 14 [.pointer (some ⟨b, 0, none⟩), .int .i64 at_, .int .i64 kk] w0 (Blk b (.cells [.slice (some ⟨g, 0, none⟩) n c].toArray 56 (0, 0)) :: Own 23 1 (.slice (some ⟨g, 0, none⟩) n c) n (ints .u32 W) :: F) (Gives w0 fun v F2 => v = .tuple #[.bool (decide (W.getD at_.toNat 0 + 1 = kk)), .int .i64 0] ∧ F2 = Blk b (.cells [.slice (some ⟨g, 0, none⟩) n c].toArray 56 (0, 0)) :: Own 23 1 (.slice (some ⟨g, 0, none⟩) n c) n (ints .u32 (W.set at_.toNat (W.getD at_.toNat 0 + 1))) :: F) := by
  obtain ⟨h0, _, h2, h3⟩ := (show 0 ≤ at_ ∧ (0:Int) ≤ 2 ∧ at_ ≤ n ∧ (2:Int) ≤ n - at_ from h)
  obtain ⟨u0, u1⟩ := hU at_.toNat
  obtain ⟨u2, u3⟩ := hU (at_.toNat + 1)
  refine c_enter Try.func14 rfl rfl rfl ?_
  refine g_seq ?_
  refine g_region ?_
  refine l_assign rfl rfl ?_
  refine l_assign rfl rfl ?_
  refine l_nil ?_
  refine g_seq ?_
  refine g_region ?_
  refine l_move rfl rfl ?_
  refine l_move rfl rfl ?_
  refine l_move rfl rfl ?_
  refine l_call rfl Try.call26 rfl (lookc_ok _ _ b g n c W hW hc hn hU _ (by omega) h _ (by omega) (by omega) hk) ?_; rintro _ _ ⟨rfl, rfl⟩
  refine l_move rfl rfl ?_
  refine l_extract rfl rfl rfl ?_
  refine l_extract rfl rfl rfl ?_
  refine l_allocs rfl Try.zeroValue42 ?_; intro b8
  refine l_sts Try.sizeOf42 rfl rfl rfl rfl rfl ?_
  refine l_assign rfl rfl ?_
  refine l_nil ?_
  refine g_seq ?_
  refine g_block ?_
  refine g_seq ?_
  refine g_region ?_
  refine l_move rfl rfl ?_
  refine l_neq rfl rfl rfl ?_
  refine l_assign rfl rfl ?_
  refine l_nil ?_
  refine g_cond rfl ?_ ?_
  · intro hbr
    have hbr := of_decide_eq_true hbr
    (exfalso; omega)
  intro hbr
  have hbr := of_decide_eq_false hbr
  refine g_seq ?_
  refine g_region ?_
  refine l_fieldAddr rfl fa_42_0 rfl ?_
  first | refine l_ld rfl Try.isAgg3 rfl rfl ?_ | refine l_ldw rfl Try.isAgg3 rfl (by omega) ?_
  refine l_move rfl rfl ?_
  refine l_geq rfl rfl rfl ?_
  refine l_assign rfl rfl ?_
  refine l_nil ?_
  refine g_cond rfl ?_ ?_
  · intro hbr
    have hbr := of_decide_eq_true hbr
    (exfalso; omega)
  intro hbr
  have hbr := of_decide_eq_false hbr
  refine g_skip ?_
  refine g_inBlock ?_
  refine g_seq ?_
  refine gp_start mo (by kernel_rfl) (by kernel_rfl) ?_
  refine gp_quiet 0 rfl rfl rfl rfl rfl rfl (q_fieldAddr fa_42_0 rfl) ?_
  first | refine gp_quiet 1 rfl rfl rfl rfl rfl rfl (q_ld Try.isAgg3 rfl rfl) ?_ | refine gp_quiet 1 rfl rfl rfl rfl rfl rfl (q_ldw Try.isAgg3 rfl (by omega)) ?_
  first | refine gp_quiet 2 rfl rfl rfl rfl rfl rfl (q_add rfl rfl (w_i64 (by omega) (by omega))) ?_ | refine gp_quiet 2 rfl rfl rfl rfl rfl rfl (q_addw rfl rfl) ?_
  refine gp_quiet 3 rfl rfl rfl rfl rfl rfl (q_move rfl) ?_
  refine gp_quiet 4 rfl rfl rfl rfl rfl rfl (q_eql rfl rfl) ?_
  refine gp_quiet 5 rfl rfl rfl rfl rfl rfl (q_move rfl) ?_
  refine gp_quiet 6 rfl rfl rfl rfl rfl rfl (q_move rfl) ?_
  refine gp_quiet 7 rfl rfl rfl rfl rfl rfl (q_fieldAddr fa_42_0 rfl) ?_
  first | refine gp_quiet 8 rfl rfl rfl rfl rfl rfl (q_ld Try.isAgg3 rfl rfl) ?_ | refine gp_quiet 8 rfl rfl rfl rfl rfl rfl (q_ldw Try.isAgg3 rfl (by omega)) ?_
  first | refine gp_quiet 9 rfl rfl rfl rfl rfl rfl (q_add rfl rfl (w_i64 (by omega) (by omega))) ?_ | refine gp_quiet 9 rfl rfl rfl rfl rfl rfl (q_addw rfl rfl) ?_
  first | refine gp_quiet 10 rfl rfl rfl rfl rfl rfl (q_conv Try.underlying3 Try.underlying23 rfl (w_u32 (by omega) (by omega))) ?_ | refine gp_quiet 10 rfl rfl rfl rfl rfl rfl (q_convm (m := 4294967296) wr_u32 Try.underlying3 Try.underlying23 rfl) ?_
  refine gp_eff 11 rfl rfl rfl rfl rfl rfl (does_call Try.call18 rfl ((write_ok _ _ b g n c W hW hc hn _ _ (by omega) (by unfold inR; omega)).sp (.cons 1 rfl (.cons 1 rfl .refl)))) ?_
  rintro _ _ ⟨rfl, rfl⟩
  refine ⟨?_, ?_⟩
  · first | refine .cons rfl rfl rfl rfl rfl (q_conv Try.underlying3 Try.underlying23 rfl (w_u32 (by omega) (by omega))) ?_ | refine .cons rfl rfl rfl rfl rfl (q_convm (m := 4294967296) wr_u32 Try.underlying3 Try.underlying23 rfl) ?_
    first | refine .cons rfl rfl rfl rfl rfl (q_add rfl rfl (w_i64 (by omega) (by omega))) ?_ | refine .cons rfl rfl rfl rfl rfl (q_addw rfl rfl) ?_
    first | refine .cons rfl rfl rfl rfl rfl (q_ld Try.isAgg3 rfl rfl) ?_ | refine .cons rfl rfl rfl rfl rfl (q_ldw Try.isAgg3 rfl (by omega)) ?_
    refine .cons rfl rfl rfl rfl rfl (q_fieldAddr fa_42_0 rfl) ?_
    refine .cons rfl rfl rfl rfl rfl (q_move rfl) ?_
    refine .cons rfl rfl rfl rfl rfl (q_move rfl) ?_
    refine .cons rfl rfl rfl rfl rfl (q_eql rfl rfl) ?_
    refine .cons rfl rfl rfl rfl rfl (q_move rfl) ?_
    first | refine .cons rfl rfl rfl rfl rfl (q_add rfl rfl (w_i64 (by omega) (by omega))) ?_ | refine .cons rfl rfl rfl rfl rfl (q_addw rfl rfl) ?_
    first | refine .cons rfl rfl rfl rfl rfl (q_ld Try.isAgg3 rfl rfl) ?_ | refine .cons rfl rfl rfl rfl rfl (q_ldw Try.isAgg3 rfl (by omega)) ?_
    refine .cons rfl rfl rfl rfl rfl (q_fieldAddr fa_42_0 rfl) ?_
    exact .nil
  refine gp_quiet 12 rfl rfl rfl rfl rfl rfl (q_assign rfl) ?_
  refine gp_quiet 13 rfl rfl rfl rfl rfl rfl (q_assign rfl) ?_
  refine gp_end rfl rfl ?_
  refine g_ret Try.func14 rfl (.tmp rfl (.tmp rfl .nil)) ?_
  exact Gives.mk ⟨rfl, rfl⟩ (.cons 0 rfl (.cons 0 rfl (.drop 0 rfl .refl)))
theorem come_bad (w0 : World) (F : List Atom) (b g n c : Nat) (W : List Int) (hW : W.length = n) (hc : n ≤ c) (hn : n ≤ 1073741824) (hU : ∀ i, 0 ≤ W.getD i 0 ∧ W.getD i 0 ≤ 4294967295) (at_ : Int) (a1 : at_ ≤ 9223372036854775807) (h : inR n at_ 2) (kk : Int) (k0 : -9223372036854775808 ≤ kk) (k1 : kk ≤ 9223372036854775807) (hk : ¬ (1 ≤ kk ∧ kk ≤ 4)) :
    CallK Try.prog 14 [.pointer (some ⟨b, 0, none⟩), .int .i64 at_, .int .i64 kk] w0 (Blk b (.cells [.slice (some ⟨g, 0, none⟩) n c].toArray 56 (0, 0)) :: Own 23 1 (.slice (some ⟨g, 0, none⟩) n c) n (ints .u32 W) :: F) (Gives w0 fun v F2 => v = .tuple #[.bool false, .int .i64 180] ∧ F2 = Blk b (.cells [.slice (some ⟨g, 0, none⟩) n c].toArray 56 (0, 0)) :: Own 23 1 (.slice (some ⟨g, 0, none⟩) n c) n (ints .u32 W) :: F) := by
  obtain ⟨h0, _, h2, h3⟩ := (show 0 ≤ at_ ∧ (0:Int) ≤ 2 ∧ at_ ≤ n ∧ (2:Int) ≤ n - at_ from h)
  obtain ⟨u0, u1⟩ := hU at_.toNat
  obtain ⟨u2, u3⟩ := hU (at_.toNat + 1)
  refine c_enter Try.func14 rfl rfl rfl ?_
  refine g_seq ?_
  refine g_region ?_
  refine l_assign rfl rfl ?_
  refine l_assign rfl rfl ?_
  refine l_nil ?_
  refine g_seq ?_
  refine g_region ?_
  refine l_move rfl rfl ?_
  refine l_move rfl rfl ?_
  refine l_move rfl rfl ?_
  refine l_call rfl Try.call26 rfl (lookc_bad _ _ b g n c W hW hc hn hU _ (by omega) h _ (by omega) (by omega) hk) ?_; rintro _ _ ⟨rfl, rfl⟩
  refine l_move rfl rfl ?_
  refine l_extract rfl rfl rfl ?_
  refine l_extract rfl rfl rfl ?_
  refine l_allocs rfl Try.zeroValue42 ?_; intro b8
  refine l_sts Try.sizeOf42 rfl rfl rfl rfl rfl ?_
  refine l_assign rfl rfl ?_
  refine l_nil ?_
  refine g_seq ?_
  refine g_block ?_
  refine g_seq ?_
  refine g_region ?_
  refine l_move rfl rfl ?_
  refine l_neq rfl rfl rfl ?_
  refine l_assign rfl rfl ?_
  refine l_nil ?_
  refine g_cond rfl ?_ ?_
  · intro hbr
    have hbr := of_decide_eq_true hbr
    refine g_seq ?_
    refine g_region ?_
    refine l_move rfl rfl ?_
    refine l_assign rfl rfl ?_
    refine l_assign rfl rfl ?_
    refine l_nil ?_
    refine g_ret Try.func14 rfl (.tmp rfl (.tmp rfl .nil)) ?_
    exact Gives.mk ⟨rfl, rfl⟩ (.cons 1 rfl (.cons 1 rfl (.drop 0 rfl .refl)))
  · intro hbr
    have hbr := of_decide_eq_false hbr
    (exfalso; omega)
theorem come_out (w0 : World) (F : List Atom) (b g n c : Nat) (W : List Int) (hW : W.length = n) (hc : n ≤ c) (hn : n ≤ 1073741824) (at_ : Int) (a0 : -9223372036854775808 ≤ at_) (a1 : at_ ≤ 9223372036854775807) (h : ¬ inR n at_ 2) (kk : Int) (k0 : -9223372036854775808 ≤ kk) (k1 : kk ≤ 9223372036854775807) :
    CallK Try.prog 14 [.pointer (some ⟨b, 0, none⟩), .int .i64 at_, .int .i64 kk] w0 (Blk b (.cells [.slice (some ⟨g, 0, none⟩) n c].toArray 56 (0, 0)) :: Own 23 1 (.slice (some ⟨g, 0, none⟩) n c) n (ints .u32 W) :: F) (Gives w0 fun v F2 => v = .tuple #[.bool false, .int .i64 51] ∧ F2 = Blk b (.cells [.slice (some ⟨g, 0, none⟩) n c].toArray 56 (0, 0)) :: Own 23 1 (.slice (some ⟨g, 0, none⟩) n c) n (ints .u32 W) :: F) := by
  refine c_enter Try.func14 rfl rfl rfl ?_
  refine g_seq ?_
  refine g_region ?_
  refine l_assign rfl rfl ?_
  refine l_assign rfl rfl ?_
  refine l_nil ?_
  refine g_seq ?_
  refine g_region ?_
  refine l_move rfl rfl ?_
  refine l_move rfl rfl ?_
  refine l_move rfl rfl ?_
  refine l_call rfl Try.call26 rfl (lookc_out _ _ b g n c W hW hc hn _ (by omega) (by omega) h _ (by omega) (by omega)) ?_; rintro _ _ ⟨rfl, rfl⟩
  refine l_move rfl rfl ?_
  refine l_extract rfl rfl rfl ?_
  refine l_extract rfl rfl rfl ?_
  refine l_allocs rfl Try.zeroValue42 ?_; intro b8
  refine l_sts Try.sizeOf42 rfl rfl rfl rfl rfl ?_
  refine l_assign rfl rfl ?_
  refine l_nil ?_
  refine g_seq ?_
  refine g_block ?_
  refine g_seq ?_
  refine g_region ?_
  refine l_move rfl rfl ?_
  refine l_neq rfl rfl rfl ?_
  refine l_assign rfl rfl ?_
  refine l_nil ?_
  refine g_cond rfl ?_ ?_
  · intro hbr
    have hbr := of_decide_eq_true hbr
    refine g_seq ?_
    refine g_region ?_
    refine l_move rfl rfl ?_
    refine l_assign rfl rfl ?_
    refine l_assign rfl rfl ?_
    refine l_nil ?_
    refine g_ret Try.func14 rfl (.tmp rfl (.tmp rfl .nil)) ?_
    exact Gives.mk ⟨rfl, rfl⟩ (.cons 1 rfl (.cons 1 rfl (.drop 0 rfl .refl)))
  · intro hbr
    have hbr := of_decide_eq_false hbr
    (exfalso; omega)
theorem come_nil (w0 : World) (F : List Atom) (at_ kk : Int) :
    CallK Try.prog 14 [.pointer none, .int .i64 at_, .int .i64 kk] w0 (F) (Gives w0 fun v F2 => v = .tuple #[.bool false, .int .i64 3] ∧ F2 = F) := by
  refine c_enter Try.func14 rfl rfl rfl ?_
  refine g_seq ?_
  refine g_region ?_
  refine l_assign rfl rfl ?_
  refine l_assign rfl rfl ?_
  refine l_nil ?_
  refine g_seq ?_
  refine g_region ?_
  refine l_move rfl rfl ?_
  refine l_move rfl rfl ?_
  refine l_move rfl rfl ?_
  refine l_call rfl Try.call26 rfl (lookc_nil _ _ _ _) ?_; rintro _ _ ⟨rfl, rfl⟩
  refine l_move rfl rfl ?_
  refine l_extract rfl rfl rfl ?_
  refine l_extract rfl rfl rfl ?_
  refine l_allocs rfl Try.zeroValue42 ?_; intro b8
  refine l_sts Try.sizeOf42 rfl rfl rfl rfl rfl ?_
  refine l_assign rfl rfl ?_
  refine l_nil ?_
  refine g_seq ?_
  refine g_block ?_
  refine g_seq ?_
  refine g_region ?_
  refine l_move rfl rfl ?_
  refine l_neq rfl rfl rfl ?_
  refine l_assign rfl rfl ?_
  refine l_nil ?_
  refine g_cond rfl ?_ ?_
  · intro hbr
    have hbr := of_decide_eq_true hbr
    refine g_seq ?_
    refine g_region ?_
    refine l_move rfl rfl ?_
    refine l_assign rfl rfl ?_
    refine l_assign rfl rfl ?_
    refine l_nil ?_
    refine g_ret Try.func14 rfl (.tmp rfl (.tmp rfl .nil)) ?_
    exact Gives.mk ⟨rfl, rfl⟩ (.drop 0 rfl .refl)
  · intro hbr
    have hbr := of_decide_eq_false hbr
    (exfalso; omega)
theorem open_short (w0 : World) (F : List Atom) (b g n c : Nat) (W : List Int) (hW : W.length = n) (hc : n ≤ c) (hn : n ≤ 1073741824) (hU : ∀ i, 0 ≤ W.getD i 0 ∧ W.getD i 0 ≤ 4294967295) (at_ : Int) (a1 : at_ ≤ 9223372036854775807) (h : inR n at_ 2) (kk : Int) (k0 : -9223372036854775808 ≤ kk) (k1 : kk ≤ 9223372036854775807) (hk : 1 ≤ kk ∧ kk ≤ 4) (hf : W.getD at_.toNat 0 < kk) :
    CallK Try.prog 15 [.pointer (some ⟨b, 0, none⟩), .int .i64 at_, .int .i64 kk] w0 (Blk b (.cells [.slice (some ⟨g, 0, none⟩) n c].toArray 56 (0, 0)) :: Own 23 1 (.slice (some ⟨g, 0, none⟩) n c) n (ints .u32 W) :: F) (Gives w0 fun v F2 => v = .int .i64 182 ∧ F2 = Blk b (.cells [.slice (some ⟨g, 0, none⟩) n c].toArray 56 (0, 0)) :: Own 23 1 (.slice (some ⟨g, 0, none⟩) n c) n (ints .u32 W) :: F) := by
  obtain ⟨h0, _, h2, h3⟩ := (show 0 ≤ at_ ∧ (0:Int) ≤ 2 ∧ at_ ≤ n ∧ (2:Int) ≤ n - at_ from h)
  obtain ⟨u0, u1⟩ := hU at_.toNat
  obtain ⟨u2, u3⟩ := hU (at_.toNat + 1)
  refine c_enter Try.func15 rfl rfl rfl ?_
  refine g_seq ?_
  refine g_region ?_
  refine l_assign rfl rfl ?_
  refine l_nil ?_
  refine g_seq ?_
  refine g_region ?_
  refine l_move rfl rfl ?_
  refine l_move rfl rfl ?_
  refine l_move rfl rfl ?_
  refine l_call rfl Try.call26 rfl (lookc_ok _ _ b g n c W hW hc hn hU _ (by omega) h _ (by omega) (by omega) hk) ?_; rintro _ _ ⟨rfl, rfl⟩
  refine l_move rfl rfl ?_
  refine l_extract rfl rfl rfl ?_
  refine l_extract rfl rfl rfl ?_
  refine l_allocs rfl Try.zeroValue42 ?_; intro b7
  refine l_sts Try.sizeOf42 rfl rfl rfl rfl rfl ?_
  refine l_assign rfl rfl ?_
  refine l_nil ?_
  refine g_seq ?_
  refine g_block ?_
  refine g_seq ?_
  refine g_region ?_
  refine l_move rfl rfl ?_
  refine l_neq rfl rfl rfl ?_
  refine l_assign rfl rfl ?_
  refine l_nil ?_
  refine g_cond rfl ?_ ?_
  · intro hbr
    have hbr := of_decide_eq_true hbr
    (exfalso; omega)
  intro hbr
  have hbr := of_decide_eq_false hbr
  refine g_seq ?_
  refine g_region ?_
  refine l_fieldAddr rfl fa_42_0 rfl ?_
  first | refine l_ld rfl Try.isAgg3 rfl rfl ?_ | refine l_ldw rfl Try.isAgg3 rfl (by omega) ?_
  refine l_move rfl rfl ?_
  refine l_lss rfl rfl rfl ?_
  refine l_assign rfl rfl ?_
  refine l_nil ?_
  refine g_cond rfl ?_ ?_
  · intro hbr
    have hbr := of_decide_eq_true hbr
    refine g_seq ?_
    refine g_region ?_
    refine l_assign rfl rfl ?_
    refine l_nil ?_
    refine g_ret Try.func15 rfl (.tmp rfl .nil) ?_
    exact Gives.mk ⟨rfl, rfl⟩ (.cons 1 rfl (.cons 1 rfl (.drop 0 rfl .refl)))
  · intro hbr
    have hbr := of_decide_eq_false hbr
    (exfalso; omega)
theorem open_full (w0 : World) (F : List Atom) (b g n c : Nat) (W : List Int) (hW : W.length = n) (hc : n ≤ c) (hn : n ≤ 1073741824) (hU : ∀ i, 0 ≤ W.getD i 0 ∧ W.getD i 0 ≤ 4294967295) (at_ : Int) (a1 : at_ ≤ 9223372036854775807) (h : inR n at_ 2) (kk : Int) (k0 : -9223372036854775808 ≤ kk) (k1 : kk ≤ 9223372036854775807) (hk : 1 ≤ kk ∧ kk ≤ 4) (hf : kk < W.getD at_.toNat 0) :
    CallK Try.prog 15 [.pointer (some ⟨b, 0, none⟩), .int .i64 at_, .int .i64 kk] w0 (Blk b (.cells [.slice (some ⟨g, 0, none⟩) n c].toArray 56 (0, 0)) :: Own 23 1 (.slice (some ⟨g, 0, none⟩) n c) n (ints .u32 W) :: F) (Gives w0 fun v F2 => v = .int .i64 181 ∧ F2 = Blk b (.cells [.slice (some ⟨g, 0, none⟩) n c].toArray 56 (0, 0)) :: Own 23 1 (.slice (some ⟨g, 0, none⟩) n c) n (ints .u32 W) :: F) := by
  obtain ⟨h0, _, h2, h3⟩ := (show 0 ≤ at_ ∧ (0:Int) ≤ 2 ∧ at_ ≤ n ∧ (2:Int) ≤ n - at_ from h)
  obtain ⟨u0, u1⟩ := hU at_.toNat
  obtain ⟨u2, u3⟩ := hU (at_.toNat + 1)
  refine c_enter Try.func15 rfl rfl rfl ?_
  refine g_seq ?_
  refine g_region ?_
  refine l_assign rfl rfl ?_
  refine l_nil ?_
  refine g_seq ?_
  refine g_region ?_
  refine l_move rfl rfl ?_
  refine l_move rfl rfl ?_
  refine l_move rfl rfl ?_
  refine l_call rfl Try.call26 rfl (lookc_ok _ _ b g n c W hW hc hn hU _ (by omega) h _ (by omega) (by omega) hk) ?_; rintro _ _ ⟨rfl, rfl⟩
  refine l_move rfl rfl ?_
  refine l_extract rfl rfl rfl ?_
  refine l_extract rfl rfl rfl ?_
  refine l_allocs rfl Try.zeroValue42 ?_; intro b7
  refine l_sts Try.sizeOf42 rfl rfl rfl rfl rfl ?_
  refine l_assign rfl rfl ?_
  refine l_nil ?_
  refine g_seq ?_
  refine g_block ?_
  refine g_seq ?_
  refine g_region ?_
  refine l_move rfl rfl ?_
  refine l_neq rfl rfl rfl ?_
  refine l_assign rfl rfl ?_
  refine l_nil ?_
  refine g_cond rfl ?_ ?_
  · intro hbr
    have hbr := of_decide_eq_true hbr
    (exfalso; omega)
  intro hbr
  have hbr := of_decide_eq_false hbr
  refine g_seq ?_
  refine g_region ?_
  refine l_fieldAddr rfl fa_42_0 rfl ?_
  first | refine l_ld rfl Try.isAgg3 rfl rfl ?_ | refine l_ldw rfl Try.isAgg3 rfl (by omega) ?_
  refine l_move rfl rfl ?_
  refine l_lss rfl rfl rfl ?_
  refine l_assign rfl rfl ?_
  refine l_nil ?_
  refine g_cond rfl ?_ ?_
  · intro hbr
    have hbr := of_decide_eq_true hbr
    (exfalso; omega)
  intro hbr
  have hbr := of_decide_eq_false hbr
  refine g_seq ?_
  refine g_region ?_
  refine l_fieldAddr rfl fa_42_0 rfl ?_
  first | refine l_ld rfl Try.isAgg3 rfl rfl ?_ | refine l_ldw rfl Try.isAgg3 rfl (by omega) ?_
  refine l_move rfl rfl ?_
  refine l_gtr rfl rfl rfl ?_
  refine l_assign rfl rfl ?_
  refine l_nil ?_
  refine g_cond rfl ?_ ?_
  · intro hbr
    have hbr := of_decide_eq_true hbr
    refine g_seq ?_
    refine g_region ?_
    refine l_assign rfl rfl ?_
    refine l_nil ?_
    refine g_ret Try.func15 rfl (.tmp rfl .nil) ?_
    exact Gives.mk ⟨rfl, rfl⟩ (.cons 1 rfl (.cons 1 rfl (.drop 0 rfl .refl)))
  · intro hbr
    have hbr := of_decide_eq_false hbr
    (exfalso; omega)
theorem open_ok (w0 : World) (F : List Atom) (b g n c : Nat) (W : List Int) (hW : W.length = n) (hc : n ≤ c) (hn : n ≤ 1073741824) (hU : ∀ i, 0 ≤ W.getD i 0 ∧ W.getD i 0 ≤ 4294967295) (at_ : Int) (a1 : at_ ≤ 9223372036854775807) (h : inR n at_ 2) (kk : Int) (k0 : -9223372036854775808 ≤ kk) (k1 : kk ≤ 9223372036854775807) (hk : 1 ≤ kk ∧ kk ≤ 4) (hf : W.getD at_.toNat 0 = kk) :
    CallK Try.prog 15 [.pointer (some ⟨b, 0, none⟩), .int .i64 at_, .int .i64 kk] w0 (Blk b (.cells [.slice (some ⟨g, 0, none⟩) n c].toArray 56 (0, 0)) :: Own 23 1 (.slice (some ⟨g, 0, none⟩) n c) n (ints .u32 W) :: F) (Gives w0 fun v F2 => v = .int .i64 0 ∧ F2 = Blk b (.cells [.slice (some ⟨g, 0, none⟩) n c].toArray 56 (0, 0)) :: Own 23 1 (.slice (some ⟨g, 0, none⟩) n c) n (ints .u32 ((W.set at_.toNat 0).set (at_.toNat + 1) ((W.getD (at_.toNat + 1) 0 + 1) % 4294967296))) :: F) := by
  obtain ⟨h0, _, h2, h3⟩ := (show 0 ≤ at_ ∧ (0:Int) ≤ 2 ∧ at_ ≤ n ∧ (2:Int) ≤ n - at_ from h)
  obtain ⟨u0, u1⟩ := hU at_.toNat
  obtain ⟨u2, u3⟩ := hU (at_.toNat + 1)
  refine c_enter Try.func15 rfl rfl rfl ?_
  refine g_seq ?_
  refine g_region ?_
  refine l_assign rfl rfl ?_
  refine l_nil ?_
  refine g_seq ?_
  refine g_region ?_
  refine l_move rfl rfl ?_
  refine l_move rfl rfl ?_
  refine l_move rfl rfl ?_
  refine l_call rfl Try.call26 rfl (lookc_ok _ _ b g n c W hW hc hn hU _ (by omega) h _ (by omega) (by omega) hk) ?_; rintro _ _ ⟨rfl, rfl⟩
  refine l_move rfl rfl ?_
  refine l_extract rfl rfl rfl ?_
  refine l_extract rfl rfl rfl ?_
  refine l_allocs rfl Try.zeroValue42 ?_; intro b7
  refine l_sts Try.sizeOf42 rfl rfl rfl rfl rfl ?_
  refine l_assign rfl rfl ?_
  refine l_nil ?_
  refine g_seq ?_
  refine g_block ?_
  refine g_seq ?_
  refine g_region ?_
  refine l_move rfl rfl ?_
  refine l_neq rfl rfl rfl ?_
  refine l_assign rfl rfl ?_
  refine l_nil ?_
  refine g_cond rfl ?_ ?_
  · intro hbr
    have hbr := of_decide_eq_true hbr
    (exfalso; omega)
  intro hbr
  have hbr := of_decide_eq_false hbr
  refine g_seq ?_
  refine g_region ?_
  refine l_fieldAddr rfl fa_42_0 rfl ?_
  first | refine l_ld rfl Try.isAgg3 rfl rfl ?_ | refine l_ldw rfl Try.isAgg3 rfl (by omega) ?_
  refine l_move rfl rfl ?_
  refine l_lss rfl rfl rfl ?_
  refine l_assign rfl rfl ?_
  refine l_nil ?_
  refine g_cond rfl ?_ ?_
  · intro hbr
    have hbr := of_decide_eq_true hbr
    (exfalso; omega)
  intro hbr
  have hbr := of_decide_eq_false hbr
  refine g_seq ?_
  refine g_region ?_
  refine l_fieldAddr rfl fa_42_0 rfl ?_
  first | refine l_ld rfl Try.isAgg3 rfl rfl ?_ | refine l_ldw rfl Try.isAgg3 rfl (by omega) ?_
  refine l_move rfl rfl ?_
  refine l_gtr rfl rfl rfl ?_
  refine l_assign rfl rfl ?_
  refine l_nil ?_
  refine g_cond rfl ?_ ?_
  · intro hbr
    have hbr := of_decide_eq_true hbr
    (exfalso; omega)
  intro hbr
  have hbr := of_decide_eq_false hbr
  refine g_skip ?_
  refine g_inBlock ?_
  refine g_seq ?_
  refine g_region ?_
  refine l_move rfl rfl ?_
  refine l_move rfl rfl ?_
  refine l_fieldAddr rfl fa_42_1 rfl ?_
  first | refine l_ld rfl Try.isAgg3 rfl rfl ?_ | refine l_ldw rfl Try.isAgg3 rfl (by omega) ?_
  first | refine l_conv rfl Try.underlying3 Try.underlying23 rfl (w_u32 (by omega) (by omega)) ?_ | refine l_convm (m := 4294967296) rfl wr_u32 Try.underlying3 Try.underlying23 rfl ?_
  first | refine l_add rfl rfl rfl (w_u32 (by omega) (by omega)) ?_ | refine l_addm (m := 4294967296) rfl wr_u32 rfl rfl ?_
  refine l_buildSlice rfl Try.underlying26 Try.sizeOf23 Try.zeroValue23 rfl rfl rfl rfl rfl rfl ?_; intro b36
  refine l_call rfl Try.call27 rfl ((lay_ok _ _ b g n c W hW hc hn _ (by omega) _ _ 2 _ [0, (W.getD (at_.toNat + 1) 0 + 1) % 4294967296] rfl (by omega) (.own (mem_getO 0 rfl)) h).sp (.cons 2 rfl (.cons 2 rfl .refl))) ?_; rintro _ _ ⟨rfl, rfl⟩
  refine l_assign rfl rfl ?_
  refine l_nil ?_
  refine g_ret Try.func15 rfl (.tmp rfl .nil) ?_
  exact Gives.mk ⟨rfl, rfl⟩ (by rw [spl_two (by omega)]; exact (.cons 0 rfl (.cons 0 rfl (.drop 0 rfl (.drop 0 rfl .refl)))))
theorem open_bad (w0 : World) (F : List Atom) (b g n c : Nat) (W : List Int) (hW : W.length = n) (hc : n ≤ c) (hn : n ≤ 1073741824) (hU : ∀ i, 0 ≤ W.getD i 0 ∧ W.getD i 0 ≤ 4294967295) (at_ : Int) (a1 : at_ ≤ 9223372036854775807) (h : inR n at_ 2) (kk : Int) (k0 : -9223372036854775808 ≤ kk) (k1 : kk ≤ 9223372036854775807) (hk : ¬ (1 ≤ kk ∧ kk ≤ 4)) :
    CallK Try.prog 15 [.pointer (some ⟨b, 0, none⟩), .int .i64 at_, .int .i64 kk] w0 (Blk b (.cells [.slice (some ⟨g, 0, none⟩) n c].toArray 56 (0, 0)) :: Own 23 1 (.slice (some ⟨g, 0, none⟩) n c) n (ints .u32 W) :: F) (Gives w0 fun v F2 => v = .int .i64 180 ∧ F2 = Blk b (.cells [.slice (some ⟨g, 0, none⟩) n c].toArray 56 (0, 0)) :: Own 23 1 (.slice (some ⟨g, 0, none⟩) n c) n (ints .u32 W) :: F) := by
  obtain ⟨h0, _, h2, h3⟩ := (show 0 ≤ at_ ∧ (0:Int) ≤ 2 ∧ at_ ≤ n ∧ (2:Int) ≤ n - at_ from h)
  obtain ⟨u0, u1⟩ := hU at_.toNat
  obtain ⟨u2, u3⟩ := hU (at_.toNat + 1)
  refine c_enter Try.func15 rfl rfl rfl ?_
  refine g_seq ?_
  refine g_region ?_
  refine l_assign rfl rfl ?_
  refine l_nil ?_
  refine g_seq ?_
  refine g_region ?_
  refine l_move rfl rfl ?_
  refine l_move rfl rfl ?_
  refine l_move rfl rfl ?_
  refine l_call rfl Try.call26 rfl (lookc_bad _ _ b g n c W hW hc hn hU _ (by omega) h _ (by omega) (by omega) hk) ?_; rintro _ _ ⟨rfl, rfl⟩
  refine l_move rfl rfl ?_
  refine l_extract rfl rfl rfl ?_
  refine l_extract rfl rfl rfl ?_
  refine l_allocs rfl Try.zeroValue42 ?_; intro b7
  refine l_sts Try.sizeOf42 rfl rfl rfl rfl rfl ?_
  refine l_assign rfl rfl ?_
  refine l_nil ?_
  refine g_seq ?_
  refine g_block ?_
  refine g_seq ?_
  refine g_region ?_
  refine l_move rfl rfl ?_
  refine l_neq rfl rfl rfl ?_
  refine l_assign rfl rfl ?_
  refine l_nil ?_
  refine g_cond rfl ?_ ?_
  · intro hbr
    have hbr := of_decide_eq_true hbr
    refine g_seq ?_
    refine g_region ?_
    refine l_move rfl rfl ?_
    refine l_assign rfl rfl ?_
    refine l_nil ?_
    refine g_ret Try.func15 rfl (.tmp rfl .nil) ?_
    exact Gives.mk ⟨rfl, rfl⟩ (.cons 1 rfl (.cons 1 rfl (.drop 0 rfl .refl)))
  · intro hbr
    have hbr := of_decide_eq_false hbr
    (exfalso; omega)
theorem open_out (w0 : World) (F : List Atom) (b g n c : Nat) (W : List Int) (hW : W.length = n) (hc : n ≤ c) (hn : n ≤ 1073741824) (at_ : Int) (a0 : -9223372036854775808 ≤ at_) (a1 : at_ ≤ 9223372036854775807) (h : ¬ inR n at_ 2) (kk : Int) (k0 : -9223372036854775808 ≤ kk) (k1 : kk ≤ 9223372036854775807) :
    CallK Try.prog 15 [.pointer (some ⟨b, 0, none⟩), .int .i64 at_, .int .i64 kk] w0 (Blk b (.cells [.slice (some ⟨g, 0, none⟩) n c].toArray 56 (0, 0)) :: Own 23 1 (.slice (some ⟨g, 0, none⟩) n c) n (ints .u32 W) :: F) (Gives w0 fun v F2 => v = .int .i64 51 ∧ F2 = Blk b (.cells [.slice (some ⟨g, 0, none⟩) n c].toArray 56 (0, 0)) :: Own 23 1 (.slice (some ⟨g, 0, none⟩) n c) n (ints .u32 W) :: F) := by
  refine c_enter Try.func15 rfl rfl rfl ?_
  refine g_seq ?_
  refine g_region ?_
  refine l_assign rfl rfl ?_
  refine l_nil ?_
  refine g_seq ?_
  refine g_region ?_
  refine l_move rfl rfl ?_
  refine l_move rfl rfl ?_
  refine l_move rfl rfl ?_
  refine l_call rfl Try.call26 rfl (lookc_out _ _ b g n c W hW hc hn _ (by omega) (by omega) h _ (by omega) (by omega)) ?_; rintro _ _ ⟨rfl, rfl⟩
  refine l_move rfl rfl ?_
  refine l_extract rfl rfl rfl ?_
  refine l_extract rfl rfl rfl ?_
  refine l_allocs rfl Try.zeroValue42 ?_; intro b7
  refine l_sts Try.sizeOf42 rfl rfl rfl rfl rfl ?_
  refine l_assign rfl rfl ?_
  refine l_nil ?_
  refine g_seq ?_
  refine g_block ?_
  refine g_seq ?_
  refine g_region ?_
  refine l_move rfl rfl ?_
  refine l_neq rfl rfl rfl ?_
  refine l_assign rfl rfl ?_
  refine l_nil ?_
  refine g_cond rfl ?_ ?_
  · intro hbr
    have hbr := of_decide_eq_true hbr
    refine g_seq ?_
    refine g_region ?_
    refine l_move rfl rfl ?_
    refine l_assign rfl rfl ?_
    refine l_nil ?_
    refine g_ret Try.func15 rfl (.tmp rfl .nil) ?_
    exact Gives.mk ⟨rfl, rfl⟩ (.cons 1 rfl (.cons 1 rfl (.drop 0 rfl .refl)))
  · intro hbr
    have hbr := of_decide_eq_false hbr
    (exfalso; omega)
theorem open_nil (w0 : World) (F : List Atom) (at_ kk : Int) :
    CallK Try.prog 15 [.pointer none, .int .i64 at_, .int .i64 kk] w0 (F) (Gives w0 fun v F2 => v = .int .i64 3 ∧ F2 = F) := by
  refine c_enter Try.func15 rfl rfl rfl ?_
  refine g_seq ?_
  refine g_region ?_
  refine l_assign rfl rfl ?_
  refine l_nil ?_
  refine g_seq ?_
  refine g_region ?_
  refine l_move rfl rfl ?_
  refine l_move rfl rfl ?_
  refine l_move rfl rfl ?_
  refine l_call rfl Try.call26 rfl (lookc_nil _ _ _ _) ?_; rintro _ _ ⟨rfl, rfl⟩
  refine l_move rfl rfl ?_
  refine l_extract rfl rfl rfl ?_
  refine l_extract rfl rfl rfl ?_
  refine l_allocs rfl Try.zeroValue42 ?_; intro b7
  refine l_sts Try.sizeOf42 rfl rfl rfl rfl rfl ?_
  refine l_assign rfl rfl ?_
  refine l_nil ?_
  refine g_seq ?_
  refine g_block ?_
  refine g_seq ?_
  refine g_region ?_
  refine l_move rfl rfl ?_
  refine l_neq rfl rfl rfl ?_
  refine l_assign rfl rfl ?_
  refine l_nil ?_
  refine g_cond rfl ?_ ?_
  · intro hbr
    have hbr := of_decide_eq_true hbr
    refine g_seq ?_
    refine g_region ?_
    refine l_move rfl rfl ?_
    refine l_assign rfl rfl ?_
    refine l_nil ?_
    refine g_ret Try.func15 rfl (.tmp rfl .nil) ?_
    exact Gives.mk ⟨rfl, rfl⟩ (.drop 0 rfl .refl)
  · intro hbr
    have hbr := of_decide_eq_false hbr
    (exfalso; omega)
end Go.Proofs.Ytoflbmjdpngdiaa.Fw
