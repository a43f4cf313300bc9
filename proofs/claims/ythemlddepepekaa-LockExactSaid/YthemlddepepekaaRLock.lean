import Derived.Test.YthemlddepepekaaActsX
namespace Go.Proofs.Ythemlddepepekaa.Fw
open Go Go.Proofs
set_option linter.unusedVariables false
set_option linter.unusedSimpArgs false
set_option maxRecDepth 10000
theorem fa_67_0 (a : Addr) (w : World) : (Instr.fieldAt 67 (.pointer (some a)) 0).run Try.prog w = .ok (.pointer (some (a.add 0))) w := by
  simp [Instr.fieldAt, Try.runUnderlying67, Instr.sureAddr, fieldPlace, Try.sizeOf38, Sem.run_bind, Sem.run_pure]
theorem RdG.same {W : List Int} {n : Nat} {a x y e x2 y2 e2 : Int} (h1 : RdG W n a x y e) (h2 : RdG W n a x2 y2 e2) : x = x2 ∧ y = y2 ∧ e = e2 := by
  rcases h1 with ⟨a1, b, c, d⟩ | ⟨a1, b, c, d⟩ <;> rcases h2 with ⟨a2, b2, c2, d2⟩ | ⟨a2, b2, c2, d2⟩
  · exact ⟨c.trans c2.symm, d.trans d2.symm, a1.trans a2.symm⟩
  · exact absurd b b2
  · exact absurd b2 b
  · exact ⟨c.trans c2.symm, d.trans d2.symm, a1.trans a2.symm⟩
theorem rlwords_in (w0 : World) (F : List Atom) (bm g n c : Nat) (W : List Int) (hW : W.length = n) (hc : n ≤ c) (hn : n ≤ 1073741824) (at_ : Int) (at_0 : -9223372036854775808 ≤ at_) (at_1 : at_ ≤ 9223372036854775807) (h : inR n at_ 2) :
    CallK Try.prog 62 [.pointer (some ⟨bm, 0, none⟩), .int .i64 at_] w0 (Blk bm (.cells [Value.slice (some ⟨g, 0, none⟩) n c].toArray 67 (0, 0)) :: Own 51 1 (.slice (some ⟨g, 0, none⟩) n c) n (ints .u32 W) :: F) (Gives w0 fun v F2 => v = .tuple #[.int .u32 (nx W at_), .int .u32 (tn W at_), .int .i64 0] ∧ F2 = Blk bm (.cells [Value.slice (some ⟨g, 0, none⟩) n c].toArray 67 (0, 0)) :: Own 51 1 (.slice (some ⟨g, 0, none⟩) n c) n (ints .u32 W) :: F) := by
  unfold inR at h
  refine c_enter Try.func62 rfl rfl rfl ?_
  refine g_seq ?_
  refine g_region ?_
  refine l_assign rfl rfl ?_
  refine l_assign rfl rfl ?_
  refine l_assign rfl rfl ?_
  refine l_nil ?_
  refine g_seq ?_
  refine g_seq ?_
  refine g_region ?_
  refine l_move rfl rfl ?_
  refine l_eqpn rfl Try.underlying56 rfl rfl ?_
  refine l_nil ?_
  first | refine g_cond_f rfl ?_ | refine g_cond_f (congrArg (fun b => some (Value.bool b)) (decide_eq_false hbr)) ?_
  refine g_skip ?_
  refine g_seq ?_
  refine g_seq ?_
  refine g_region ?_
  refine l_move rfl rfl ?_
  refine l_lss rfl rfl rfl ?_
  refine l_move rfl rfl ?_
  refine l_split 11 rfl ?_ ?_
  · intro hbr
    have hbr := of_decide_eq_true hbr
    (exfalso; first | omega | (simp at hbr; done))
  intro hbr
  have hbr := of_decide_eq_false hbr
  refine l_guard_yes rfl rfl ?_
  refine l_move rfl rfl ?_
  refine l_guard_yes rfl rfl ?_
  refine l_move rfl rfl ?_
  refine l_guard_yes rfl rfl ?_
  refine l_nilCheck rfl rfl ?_
  refine l_guard_yes rfl rfl ?_
  refine l_fieldAddr rfl fa_67_0 rfl ?_
  refine l_guard_yes rfl rfl ?_
  refine l_ld rfl Try.isAgg38 rfl rfl ?_
  refine l_guard_yes rfl rfl ?_
  refine l_len rfl Try.underlying38 rfl ?_
  refine l_guard_yes rfl rfl ?_
  first | refine l_sub_ rfl rfl rfl (w_i64 (by omega) (by omega)) ?_ | refine l_subw rfl rfl rfl ?_
  refine l_guard_yes rfl rfl ?_
  refine l_geq rfl rfl rfl ?_
  refine l_pick_f rfl rfl rfl ?_
  refine l_nil ?_
  refine g_cond rfl ?_ ?_
  · intro hbr
    have hbr := of_decide_eq_true hbr
    (exfalso; first | omega | (simp at hbr; done))
  intro hbr
  have hbr := of_decide_eq_false hbr
  refine g_skip ?_
  refine g_seq ?_
  refine gp_start mo (by kernel_rfl) (by kernel_rfl) ?_
  refine gp_quiet 0 rfl rfl rfl rfl rfl rfl (q_move rfl) ?_
  refine gp_quiet 1 rfl rfl rfl rfl rfl rfl (q_nilCheck rfl) ?_
  refine gp_quiet 2 rfl rfl rfl rfl rfl rfl (q_fieldAddr fa_67_0 rfl) ?_
  refine gp_quiet 3 rfl rfl rfl rfl rfl rfl (q_ld Try.isAgg38 rfl rfl) ?_
  refine gp_quiet 4 rfl rfl rfl rfl rfl rfl (q_move rfl) ?_
  refine gp_quiet 5 rfl rfl rfl rfl rfl rfl (q_ixs Try.underlying38 Try.sizeOf51 rfl rfl (by omega) (by omega)) ?_
  refine gp_quiet 6 rfl rfl rfl rfl rfl rfl (q_loadc Try.isAgg51 rfl (word_at (mem_getO 1 rfl) (by omega))) ?_
  refine gp_quiet 7 rfl rfl rfl rfl rfl rfl (q_move rfl) ?_
  refine gp_quiet 8 rfl rfl rfl rfl rfl rfl (q_nilCheck rfl) ?_
  refine gp_quiet 9 rfl rfl rfl rfl rfl rfl (q_fieldAddr fa_67_0 rfl) ?_
  refine gp_quiet 10 rfl rfl rfl rfl rfl rfl (q_ld Try.isAgg38 rfl rfl) ?_
  refine gp_quiet 11 rfl rfl rfl rfl rfl rfl (q_move rfl) ?_
  first | refine gp_quiet 12 rfl rfl rfl rfl rfl rfl (q_add rfl rfl (w_i64 (by omega) (by omega))) ?_ | refine gp_quiet 12 rfl rfl rfl rfl rfl rfl (q_addw rfl rfl) ?_
  refine gp_quiet 13 rfl rfl rfl rfl rfl rfl (q_ixs Try.underlying38 Try.sizeOf51 rfl rfl (by omega) (by omega)) ?_
  refine gp_quiet 14 rfl rfl rfl rfl rfl rfl (q_loadc Try.isAgg51 rfl (word_at (mem_getO 1 rfl) (by omega))) ?_
  refine gp_quiet 15 rfl rfl rfl rfl rfl rfl (q_assign rfl) ?_
  refine gp_quiet 16 rfl rfl rfl rfl rfl rfl (q_assign rfl) ?_
  refine gp_quiet 17 rfl rfl rfl rfl rfl rfl (q_assign rfl) ?_
  refine gp_end rfl rfl ?_
  refine g_ret Try.func62 rfl (.tmp rfl (.tmp rfl (.tmp rfl .nil))) ?_
  exact Gives.mki ⟨rfl, rfl⟩
theorem rlwords_out (w0 : World) (F : List Atom) (bm g n c : Nat) (W : List Int) (hW : W.length = n) (hc : n ≤ c) (hn : n ≤ 1073741824) (at_ : Int) (at_0 : -9223372036854775808 ≤ at_) (at_1 : at_ ≤ 9223372036854775807) (h : ¬ inR n at_ 2) :
    CallK Try.prog 62 [.pointer (some ⟨bm, 0, none⟩), .int .i64 at_] w0 (Blk bm (.cells [Value.slice (some ⟨g, 0, none⟩) n c].toArray 67 (0, 0)) :: Own 51 1 (.slice (some ⟨g, 0, none⟩) n c) n (ints .u32 W) :: F) (Gives w0 fun v F2 => v = .tuple #[.int .u32 0, .int .u32 0, .int .i64 51] ∧ F2 = Blk bm (.cells [Value.slice (some ⟨g, 0, none⟩) n c].toArray 67 (0, 0)) :: Own 51 1 (.slice (some ⟨g, 0, none⟩) n c) n (ints .u32 W) :: F) := by
  unfold inR at h
  refine c_enter Try.func62 rfl rfl rfl ?_
  refine g_seq ?_
  refine g_region ?_
  refine l_assign rfl rfl ?_
  refine l_assign rfl rfl ?_
  refine l_assign rfl rfl ?_
  refine l_nil ?_
  refine g_seq ?_
  refine g_seq ?_
  refine g_region ?_
  refine l_move rfl rfl ?_
  refine l_eqpn rfl Try.underlying56 rfl rfl ?_
  refine l_nil ?_
  first | refine g_cond_f rfl ?_ | refine g_cond_f (congrArg (fun b => some (Value.bool b)) (decide_eq_false hbr)) ?_
  refine g_skip ?_
  refine g_seq ?_
  refine g_seq ?_
  refine g_region ?_
  refine l_move rfl rfl ?_
  refine l_lss rfl rfl rfl ?_
  refine l_move rfl rfl ?_
  refine l_split 11 rfl ?_ ?_
  · intro hbr
    have hbr := of_decide_eq_true hbr
    refine l_guard_no rfl rfl rfl ?_
    refine l_guard_no rfl rfl rfl ?_
    refine l_guard_no rfl rfl rfl ?_
    refine l_guard_no rfl rfl rfl ?_
    refine l_guard_no rfl rfl rfl ?_
    refine l_guard_no rfl rfl rfl ?_
    refine l_guard_no rfl rfl rfl ?_
    refine l_guard_no rfl rfl rfl ?_
    refine l_pick_t rfl rfl rfl ?_
    refine l_nil ?_
    first | refine g_cond_t rfl ?_ | refine g_cond_t (congrArg (fun b => some (Value.bool b)) (decide_eq_true hbr)) ?_
    refine g_seq ?_
    refine g_region ?_
    refine l_assign rfl rfl ?_
    refine l_assign rfl rfl ?_
    refine l_assign rfl rfl ?_
    refine l_nil ?_
    refine g_ret Try.func62 rfl (.tmp rfl (.tmp rfl (.tmp rfl .nil))) ?_
    exact Gives.mki ⟨rfl, rfl⟩
  intro hbr
  have hbr := of_decide_eq_false hbr
  refine l_guard_yes rfl rfl ?_
  refine l_move rfl rfl ?_
  refine l_guard_yes rfl rfl ?_
  refine l_move rfl rfl ?_
  refine l_guard_yes rfl rfl ?_
  refine l_nilCheck rfl rfl ?_
  refine l_guard_yes rfl rfl ?_
  refine l_fieldAddr rfl fa_67_0 rfl ?_
  refine l_guard_yes rfl rfl ?_
  refine l_ld rfl Try.isAgg38 rfl rfl ?_
  refine l_guard_yes rfl rfl ?_
  refine l_len rfl Try.underlying38 rfl ?_
  refine l_guard_yes rfl rfl ?_
  first | refine l_sub_ rfl rfl rfl (w_i64 (by omega) (by omega)) ?_ | refine l_subw rfl rfl rfl ?_
  refine l_guard_yes rfl rfl ?_
  refine l_geq rfl rfl rfl ?_
  refine l_pick_f rfl rfl rfl ?_
  refine l_nil ?_
  refine g_cond rfl ?_ ?_
  · intro hbr
    have hbr := of_decide_eq_true hbr
    refine g_seq ?_
    refine g_region ?_
    refine l_assign rfl rfl ?_
    refine l_assign rfl rfl ?_
    refine l_assign rfl rfl ?_
    refine l_nil ?_
    refine g_ret Try.func62 rfl (.tmp rfl (.tmp rfl (.tmp rfl .nil))) ?_
    exact Gives.mki ⟨rfl, rfl⟩
  · intro hbr
    have hbr := of_decide_eq_false hbr
    (exfalso; first | omega | (simp at hbr; done))
theorem rlwords_ok (w0 : World) (F : List Atom) (bm g n c : Nat) (W : List Int) (hW : W.length = n) (hc : n ≤ c) (hn : n ≤ 1073741824) (at_ : Int) (at_0 : -9223372036854775808 ≤ at_) (at_1 : at_ ≤ 9223372036854775807) : CallK Try.prog 62 [.pointer (some ⟨bm, 0, none⟩), .int .i64 at_] w0 (Blk bm (.cells [Value.slice (some ⟨g, 0, none⟩) n c].toArray 67 (0, 0)) :: Own 51 1 (.slice (some ⟨g, 0, none⟩) n c) n (ints .u32 W) :: F) (Gives w0 fun v F2 => ∃ x y e, v = .tuple #[.int .u32 x, .int .u32 y, .int .i64 e] ∧ F2 = Blk bm (.cells [Value.slice (some ⟨g, 0, none⟩) n c].toArray 67 (0, 0)) :: Own 51 1 (.slice (some ⟨g, 0, none⟩) n c) n (ints .u32 W) :: F ∧ RdG W n at_ x y e) := by
  by_cases h : inR n at_ 2
  · exact (rlwords_in w0 F bm g n c W hW hc hn at_ at_0 at_1 h).gmono fun v F2 ⟨e1, e2⟩ => ⟨_, _, 0, e1, e2, .inl ⟨rfl, h, rfl, rfl⟩⟩
  · exact (rlwords_out w0 F bm g n c W hW hc hn at_ at_0 at_1 h).gmono fun v F2 ⟨e1, e2⟩ => ⟨0, 0, 51, e1, e2, .inr ⟨rfl, h, rfl, rfl⟩⟩
theorem rltake_ok (w0 : World) (F : List Atom) (bm g n c : Nat) (W : List Int) (hW : W.length = n) (hc : n ≤ c) (hn : n ≤ 1073741824) (at_ : Int) (at_0 : -9223372036854775808 ≤ at_) (at_1 : at_ ≤ 9223372036854775807) :
    CallK Try.prog 38 [.pointer (some ⟨bm, 0, none⟩), .int .i64 at_] w0 (Blk bm (.cells [Value.slice (some ⟨g, 0, none⟩) n c].toArray 67 (0, 0)) :: Own 51 1 (.slice (some ⟨g, 0, none⟩) n c) n (ints .u32 W) :: F) (Gives w0 fun v F2 => ∃ k e W2, v = .tuple #[.int .u32 k, .int .i64 e] ∧ W2.length = n ∧ F2 = Blk bm (.cells [Value.slice (some ⟨g, 0, none⟩) n c].toArray 67 (0, 0)) :: Own 51 1 (.slice (some ⟨g, 0, none⟩) n c) n (ints .u32 W2) :: F ∧ TakG W n at_ k e W2) := by
  refine c_enter Try.func38 rfl rfl rfl ?_
  refine g_seq ?_
  refine g_region ?_
  refine l_assign rfl rfl ?_
  refine l_assign rfl rfl ?_
  refine l_nil ?_
  refine g_seq ?_
  refine g_region ?_
  refine l_move rfl rfl ?_
  refine l_move rfl rfl ?_
  refine l_call rfl Try.call62 rfl (rlwords_ok _ _ bm g n c W hW hc hn at_ at_0 at_1) ?_; rintro _ _ ⟨x, y, e, rfl, rfl, hR⟩
  refine l_move rfl rfl ?_
  refine l_extract rfl rfl rfl ?_
  refine l_extract rfl rfl rfl ?_
  refine l_extract rfl rfl rfl ?_
  refine l_assign rfl rfl ?_
  refine l_assign rfl rfl ?_
  refine l_assign rfl rfl ?_
  refine l_nil ?_
  refine g_seq ?_
  refine g_seq ?_
  refine g_region ?_
  refine l_move rfl rfl ?_
  refine l_neq rfl rfl rfl ?_
  refine l_nil ?_
  refine g_cond rfl ?_ ?_
  · intro hbr
    have hbr := of_decide_eq_true hbr
    refine g_seq ?_
    refine g_region ?_
    refine l_move rfl rfl ?_
    refine l_assign rfl rfl ?_
    refine l_assign rfl rfl ?_
    refine l_nil ?_
    refine g_ret Try.func38 rfl (.tmp rfl (.tmp rfl .nil)) ?_
    (first | exact Gives.mki ⟨0, e, W, rfl, hW, rfl, hR.tak0 (by omega)⟩ | exact Gives.mki ⟨0, 170, W, rfl, hW, rfl, hR.tak1 (by omega) (by omega)⟩ | exact Gives.mki ⟨x, 0, _, rfl, by rw [List.length_set]; exact hW, rfl, hR.tak2 (by omega) (by omega)⟩)
  intro hbr
  have hbr := of_decide_eq_false hbr
  refine g_skip ?_
  refine g_seq ?_
  refine g_seq ?_
  refine g_region ?_
  refine l_move rfl rfl ?_
  refine l_move rfl rfl ?_
  refine l_subm (m := 4294967296) rfl wr_u32 rfl rfl ?_
  refine l_eql rfl rfl rfl ?_
  refine l_nil ?_
  refine g_cond rfl ?_ ?_
  · intro hbr
    have hbr := of_decide_eq_true hbr
    refine g_seq ?_
    refine g_region ?_
    refine l_assign rfl rfl ?_
    refine l_assign rfl rfl ?_
    refine l_nil ?_
    refine g_ret Try.func38 rfl (.tmp rfl (.tmp rfl .nil)) ?_
    (first | exact Gives.mki ⟨0, e, W, rfl, hW, rfl, hR.tak0 (by omega)⟩ | exact Gives.mki ⟨0, 170, W, rfl, hW, rfl, hR.tak1 (by omega) (by omega)⟩ | exact Gives.mki ⟨x, 0, _, rfl, by rw [List.length_set]; exact hW, rfl, hR.tak2 (by omega) (by omega)⟩)
  intro hbr
  have hbr := of_decide_eq_false hbr
  refine g_skip ?_
  refine g_seq ?_
  refine g_region ?_
  have hbd := hR.bd (by omega)
  refine l_move rfl rfl ?_
  refine l_nilCheck rfl rfl ?_
  refine l_fieldAddr rfl fa_67_0 rfl ?_
  refine l_ld rfl Try.isAgg38 rfl rfl ?_
  refine l_move rfl rfl ?_
  refine l_move rfl rfl ?_
  refine l_addm (m := 4294967296) rfl wr_u32 rfl rfl ?_
  refine l_ixs rfl Try.underlying38 Try.sizeOf51 rfl rfl (by omega) (by omega) ?_
  refine l_storew 1 Try.sizeOf51 rfl rfl rfl (by omega) rfl ?_
  refine l_nil ?_
  refine g_seq ?_
  refine g_region ?_
  refine l_move rfl rfl ?_
  refine l_assign rfl rfl ?_
  refine l_assign rfl rfl ?_
  refine l_nil ?_
  refine g_ret Try.func38 rfl (.tmp rfl (.tmp rfl .nil)) ?_
  (first | exact Gives.mki ⟨0, e, W, rfl, hW, rfl, hR.tak0 (by omega)⟩ | exact Gives.mki ⟨0, 170, W, rfl, hW, rfl, hR.tak1 (by omega) (by omega)⟩ | exact Gives.mki ⟨x, 0, _, rfl, by rw [List.length_set]; exact hW, rfl, hR.tak2 (by omega) (by omega)⟩)
theorem rlmine_ok (w0 : World) (F : List Atom) (bm g n c : Nat) (W : List Int) (hW : W.length = n) (hc : n ≤ c) (hn : n ≤ 1073741824) (at_ : Int) (at_0 : -9223372036854775808 ≤ at_) (at_1 : at_ ≤ 9223372036854775807) (t : Int) :
    CallK Try.prog 40 [.pointer (some ⟨bm, 0, none⟩), .int .i64 at_, .int .u32 t] w0 (Blk bm (.cells [Value.slice (some ⟨g, 0, none⟩) n c].toArray 67 (0, 0)) :: Own 51 1 (.slice (some ⟨g, 0, none⟩) n c) n (ints .u32 W) :: F) (Gives w0 fun v F2 => ∃ b e, v = .tuple #[.bool b, .int .i64 e] ∧ F2 = Blk bm (.cells [Value.slice (some ⟨g, 0, none⟩) n c].toArray 67 (0, 0)) :: Own 51 1 (.slice (some ⟨g, 0, none⟩) n c) n (ints .u32 W) :: F ∧ MinG W n at_ t b e) := by
  refine c_enter Try.func40 rfl rfl rfl ?_
  refine g_seq ?_
  refine g_region ?_
  refine l_assign rfl rfl ?_
  refine l_assign rfl rfl ?_
  refine l_nil ?_
  refine g_seq ?_
  refine g_region ?_
  refine l_move rfl rfl ?_
  refine l_move rfl rfl ?_
  refine l_call rfl Try.call62 rfl (rlwords_ok _ _ bm g n c W hW hc hn at_ at_0 at_1) ?_; rintro _ _ ⟨x, y, e, rfl, rfl, hR⟩
  refine l_move rfl rfl ?_
  refine l_extract rfl rfl rfl ?_
  refine l_extract rfl rfl rfl ?_
  refine l_extract rfl rfl rfl ?_
  refine l_assign rfl rfl ?_
  refine l_assign rfl rfl ?_
  refine l_assign rfl rfl ?_
  refine l_nil ?_
  refine g_seq ?_
  refine g_seq ?_
  refine g_region ?_
  refine l_move rfl rfl ?_
  refine l_neq rfl rfl rfl ?_
  refine l_nil ?_
  refine g_cond rfl ?_ ?_
  · intro hbr
    have hbr := of_decide_eq_true hbr
    refine g_seq ?_
    refine g_region ?_
    refine l_move rfl rfl ?_
    refine l_assign rfl rfl ?_
    refine l_assign rfl rfl ?_
    refine l_nil ?_
    refine g_ret Try.func40 rfl (.tmp rfl (.tmp rfl .nil)) ?_
    (first | exact Gives.mki ⟨false, e, rfl, rfl, hR.min0 (by omega)⟩ | exact Gives.mki ⟨decide (t = y), 0, rfl, rfl, by have h := hR.min1 (t := t) (by omega); rwa [show e = 0 by omega] at h⟩)
  intro hbr
  have hbr := of_decide_eq_false hbr
  refine g_skip ?_
  refine g_seq ?_
  refine g_region ?_
  refine l_move rfl rfl ?_
  refine l_move rfl rfl ?_
  refine l_eql rfl rfl rfl ?_
  refine l_assign rfl rfl ?_
  refine l_assign rfl rfl ?_
  refine l_nil ?_
  refine g_ret Try.func40 rfl (.tmp rfl (.tmp rfl .nil)) ?_
  (first | exact Gives.mki ⟨false, e, rfl, rfl, hR.min0 (by omega)⟩ | exact Gives.mki ⟨decide (t = y), 0, rfl, rfl, by have h := hR.min1 (t := t) (by omega); rwa [show e = 0 by omega] at h⟩)
theorem rlfree_ok (w0 : World) (F : List Atom) (bm g n c : Nat) (W : List Int) (hW : W.length = n) (hc : n ≤ c) (hn : n ≤ 1073741824) (at_ : Int) (at_0 : -9223372036854775808 ≤ at_) (at_1 : at_ ≤ 9223372036854775807) (t : Int) :
    CallK Try.prog 42 [.pointer (some ⟨bm, 0, none⟩), .int .i64 at_, .int .u32 t] w0 (Blk bm (.cells [Value.slice (some ⟨g, 0, none⟩) n c].toArray 67 (0, 0)) :: Own 51 1 (.slice (some ⟨g, 0, none⟩) n c) n (ints .u32 W) :: F) (Gives w0 fun v F2 => ∃ e W2, v = .int .i64 e ∧ W2.length = n ∧ F2 = Blk bm (.cells [Value.slice (some ⟨g, 0, none⟩) n c].toArray 67 (0, 0)) :: Own 51 1 (.slice (some ⟨g, 0, none⟩) n c) n (ints .u32 W2) :: F ∧ FreG W n at_ t e W2) := by
  refine c_enter Try.func42 rfl rfl rfl ?_
  refine g_seq ?_
  refine g_region ?_
  refine l_assign rfl rfl ?_
  refine l_nil ?_
  refine g_seq ?_
  refine g_region ?_
  refine l_move rfl rfl ?_
  refine l_move rfl rfl ?_
  refine l_call rfl Try.call62 rfl (rlwords_ok _ _ bm g n c W hW hc hn at_ at_0 at_1) ?_; rintro _ _ ⟨x, y, e, rfl, rfl, hR⟩
  refine l_move rfl rfl ?_
  refine l_extract rfl rfl rfl ?_
  refine l_extract rfl rfl rfl ?_
  refine l_extract rfl rfl rfl ?_
  refine l_assign rfl rfl ?_
  refine l_assign rfl rfl ?_
  refine l_assign rfl rfl ?_
  refine l_nil ?_
  refine g_seq ?_
  refine g_seq ?_
  refine g_region ?_
  refine l_move rfl rfl ?_
  refine l_neq rfl rfl rfl ?_
  refine l_nil ?_
  refine g_cond rfl ?_ ?_
  · intro hbr
    have hbr := of_decide_eq_true hbr
    refine g_seq ?_
    refine g_region ?_
    refine l_move rfl rfl ?_
    refine l_assign rfl rfl ?_
    refine l_nil ?_
    refine g_ret Try.func42 rfl (.tmp rfl .nil) ?_
    (first | exact Gives.mki ⟨e, W, rfl, hW, rfl, hR.fre0 (by omega)⟩ | exact Gives.mki ⟨170, W, rfl, hW, rfl, hR.fre1 (by omega) (by omega)⟩ | exact Gives.mki ⟨0, _, rfl, by rw [List.length_set]; exact hW, rfl, hR.fre2 (by omega) (by omega) (by omega)⟩)
  intro hbr
  have hbr := of_decide_eq_false hbr
  refine g_skip ?_
  refine g_seq ?_
  refine g_seq ?_
  refine g_region ?_
  refine l_move rfl rfl ?_
  refine l_move rfl rfl ?_
  refine l_eql rfl rfl rfl ?_
  refine l_move rfl rfl ?_
  refine l_split 23 rfl ?_ ?_
  · intro hbr
    have hbr := of_decide_eq_true hbr
    refine l_guard_no rfl rfl rfl ?_
    refine l_guard_no rfl rfl rfl ?_
    refine l_guard_no rfl rfl rfl ?_
    refine l_pick_t rfl rfl rfl ?_
    refine l_nil ?_
    first | refine g_cond_t rfl ?_ | refine g_cond_t (congrArg (fun b => some (Value.bool b)) (decide_eq_true hbr)) ?_
    refine g_seq ?_
    refine g_region ?_
    refine l_assign rfl rfl ?_
    refine l_nil ?_
    refine g_ret Try.func42 rfl (.tmp rfl .nil) ?_
    (first | exact Gives.mki ⟨e, W, rfl, hW, rfl, hR.fre0 (by omega)⟩ | exact Gives.mki ⟨170, W, rfl, hW, rfl, hR.fre1 (by omega) (by omega)⟩ | exact Gives.mki ⟨0, _, rfl, by rw [List.length_set]; exact hW, rfl, hR.fre2 (by omega) (by omega) (by omega)⟩)
  intro hbr
  have hbr := of_decide_eq_false hbr
  refine l_guard_yes rfl rfl ?_
  refine l_move rfl rfl ?_
  refine l_guard_yes rfl rfl ?_
  refine l_move rfl rfl ?_
  refine l_guard_yes rfl rfl ?_
  refine l_neq rfl rfl rfl ?_
  refine l_pick_f rfl rfl rfl ?_
  refine l_nil ?_
  refine g_cond rfl ?_ ?_
  · intro hbr
    have hbr := of_decide_eq_true hbr
    refine g_seq ?_
    refine g_region ?_
    refine l_assign rfl rfl ?_
    refine l_nil ?_
    refine g_ret Try.func42 rfl (.tmp rfl .nil) ?_
    (first | exact Gives.mki ⟨e, W, rfl, hW, rfl, hR.fre0 (by omega)⟩ | exact Gives.mki ⟨170, W, rfl, hW, rfl, hR.fre1 (by omega) (by omega)⟩ | exact Gives.mki ⟨0, _, rfl, by rw [List.length_set]; exact hW, rfl, hR.fre2 (by omega) (by omega) (by omega)⟩)
  intro hbr
  have hbr := of_decide_eq_false hbr
  refine g_skip ?_
  refine g_seq ?_
  refine g_region ?_
  have hbd := hR.bd (by omega)
  refine l_move rfl rfl ?_
  refine l_nilCheck rfl rfl ?_
  refine l_fieldAddr rfl fa_67_0 rfl ?_
  refine l_ld rfl Try.isAgg38 rfl rfl ?_
  refine l_move rfl rfl ?_
  first | refine l_add rfl rfl rfl (w_i64 (by omega) (by omega)) ?_ | refine l_addw rfl rfl rfl ?_
  refine l_move rfl rfl ?_
  refine l_addm (m := 4294967296) rfl wr_u32 rfl rfl ?_
  refine l_ixs rfl Try.underlying38 Try.sizeOf51 rfl rfl (by omega) (by omega) ?_
  refine l_storew 1 Try.sizeOf51 rfl rfl rfl (by omega) rfl ?_
  refine l_nil ?_
  refine g_seq ?_
  refine g_region ?_
  refine l_assign rfl rfl ?_
  refine l_nil ?_
  refine g_ret Try.func42 rfl (.tmp rfl .nil) ?_
  (first | exact Gives.mki ⟨e, W, rfl, hW, rfl, hR.fre0 (by omega)⟩ | exact Gives.mki ⟨170, W, rfl, hW, rfl, hR.fre1 (by omega) (by omega)⟩ | exact Gives.mki ⟨0, _, rfl, by rw [List.length_set]; exact hW, rfl, hR.fre2 (by omega) (by omega) (by omega)⟩)
theorem rlwait_ok (w0 : World) (F : List Atom) (bm g n c : Nat) (W : List Int) (hW : W.length = n) (hc : n ≤ c) (hn : n ≤ 1073741824) (at_ : Int) (at_0 : -9223372036854775808 ≤ at_) (at_1 : at_ ≤ 9223372036854775807) :
    CallK Try.prog 43 [.pointer (some ⟨bm, 0, none⟩), .int .i64 at_] w0 (Blk bm (.cells [Value.slice (some ⟨g, 0, none⟩) n c].toArray 67 (0, 0)) :: Own 51 1 (.slice (some ⟨g, 0, none⟩) n c) n (ints .u32 W) :: F) (Gives w0 fun v F2 => ∃ x y e, v = .tuple #[.int .i64 ((x - y) % 4294967296), .int .i64 e] ∧ F2 = Blk bm (.cells [Value.slice (some ⟨g, 0, none⟩) n c].toArray 67 (0, 0)) :: Own 51 1 (.slice (some ⟨g, 0, none⟩) n c) n (ints .u32 W) :: F ∧ RdG W n at_ x y e) := by
  refine c_enter Try.func43 rfl rfl rfl ?_
  refine g_seq ?_
  refine g_region ?_
  refine l_assign rfl rfl ?_
  refine l_assign rfl rfl ?_
  refine l_nil ?_
  refine g_seq ?_
  refine g_region ?_
  refine l_move rfl rfl ?_
  refine l_move rfl rfl ?_
  refine l_call rfl Try.call62 rfl (rlwords_ok _ _ bm g n c W hW hc hn at_ at_0 at_1) ?_; rintro _ _ ⟨x, y, e, rfl, rfl, hR⟩
  refine l_move rfl rfl ?_
  refine l_extract rfl rfl rfl ?_
  refine l_extract rfl rfl rfl ?_
  refine l_extract rfl rfl rfl ?_
  refine l_assign rfl rfl ?_
  refine l_assign rfl rfl ?_
  refine l_assign rfl rfl ?_
  refine l_nil ?_
  refine g_seq ?_
  refine g_seq ?_
  refine g_region ?_
  refine l_move rfl rfl ?_
  refine l_neq rfl rfl rfl ?_
  refine l_nil ?_
  refine g_cond rfl ?_ ?_
  · intro hbr
    have hbr := of_decide_eq_true hbr
    refine g_seq ?_
    refine g_region ?_
    refine l_move rfl rfl ?_
    refine l_assign rfl rfl ?_
    refine l_assign rfl rfl ?_
    refine l_nil ?_
    refine g_ret Try.func43 rfl (.tmp rfl (.tmp rfl .nil)) ?_
    (first | exact Gives.mki ⟨x, y, 0, rfl, rfl, by have h := hR; rwa [show e = 0 by omega] at h⟩ | exact Gives.mki ⟨0, 0, e, rfl, rfl, by rcases hR with ⟨h1, _⟩ | ⟨h1, h2, h3, h4⟩; exact absurd h1 (by omega); exact .inr ⟨h1, h2, rfl, rfl⟩⟩)
  intro hbr
  have hbr := of_decide_eq_false hbr
  refine g_skip ?_
  refine g_seq ?_
  refine g_region ?_
  refine l_move rfl rfl ?_
  refine l_move rfl rfl ?_
  refine l_subm (m := 4294967296) rfl wr_u32 rfl rfl ?_
  refine l_conv rfl Try.underlying51 Try.underlying3 rfl (w_i64 (by omega) (by omega)) ?_
  refine l_assign rfl rfl ?_
  refine l_assign rfl rfl ?_
  refine l_nil ?_
  refine g_ret Try.func43 rfl (.tmp rfl (.tmp rfl .nil)) ?_
  (first | exact Gives.mki ⟨x, y, 0, rfl, rfl, by have h := hR; rwa [show e = 0 by omega] at h⟩ | exact Gives.mki ⟨0, 0, e, rfl, rfl, by rcases hR with ⟨h1, _⟩ | ⟨h1, h2, h3, h4⟩; exact absurd h1 (by omega); exact .inr ⟨h1, h2, rfl, rfl⟩⟩)
theorem lwait_ok (w0 : World) (F : List Atom) (bm g n c : Nat) (W : List Int) (hW : W.length = n) (hc : n ≤ c) (hn : n ≤ 1073741824) (at_ : Int) (at_0 : -9223372036854775808 ≤ at_) (at_1 : at_ ≤ 9223372036854775807) :
    CallK Try.prog 15 [.pointer (some ⟨bm, 0, none⟩), .int .i64 at_] w0 (Blk bm (.cells [Value.slice (some ⟨g, 0, none⟩) n c].toArray 81 (0, 0)) :: Own 51 1 (.slice (some ⟨g, 0, none⟩) n c) n (ints .u32 W) :: F) (Gives w0 fun v F2 => ∃ x y e, v = .tuple #[.int .i64 ((x - y) % 4294967296), .int .i64 e] ∧ F2 = Blk bm (.cells [Value.slice (some ⟨g, 0, none⟩) n c].toArray 81 (0, 0)) :: Own 51 1 (.slice (some ⟨g, 0, none⟩) n c) n (ints .u32 W) :: F ∧ RdG W n at_ x y e) := by
  refine c_enter Try.func15 rfl rfl rfl ?_
  refine g_seq ?_
  refine g_region ?_
  refine l_assign rfl rfl ?_
  refine l_assign rfl rfl ?_
  refine l_nil ?_
  refine g_seq ?_
  refine g_region ?_
  refine l_move rfl rfl ?_
  refine l_move rfl rfl ?_
  refine l_call rfl Try.call36 rfl (lwords_ok _ _ bm g n c W hW hc hn at_ at_0 at_1) ?_; rintro _ _ ⟨x, y, e, rfl, rfl, hR⟩
  refine l_move rfl rfl ?_
  refine l_extract rfl rfl rfl ?_
  refine l_extract rfl rfl rfl ?_
  refine l_extract rfl rfl rfl ?_
  refine l_assign rfl rfl ?_
  refine l_assign rfl rfl ?_
  refine l_assign rfl rfl ?_
  refine l_nil ?_
  refine g_seq ?_
  refine g_region ?_
  refine l_move rfl rfl ?_
  refine l_move rfl rfl ?_
  refine l_subm (m := 4294967296) rfl wr_u32 rfl rfl ?_
  refine l_conv rfl Try.underlying51 Try.underlying3 rfl (w_i64 (by omega) (by omega)) ?_
  refine l_move rfl rfl ?_
  refine l_assign rfl rfl ?_
  refine l_assign rfl rfl ?_
  refine l_nil ?_
  refine g_ret Try.func15 rfl (.tmp rfl (.tmp rfl .nil)) ?_
  exact Gives.mki ⟨x, y, e, rfl, rfl, hR⟩
end Go.Proofs.Ythemlddepepekaa.Fw
