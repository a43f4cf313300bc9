import Derived.Test.YtoflbmjdpngdiaaLaw
namespace Go.Proofs.Ytoflbmjdpngdiaa.Fw
open Go Go.Proofs
set_option linter.unusedVariables false
set_option linter.unusedSimpArgs false
set_option maxRecDepth 10000
theorem fa_37_0 (a : Addr) (w : World) : (Instr.fieldAt 37 (.pointer (some a)) 0).run Try.prog w = .ok (.pointer (some (a.add 0))) w := by
  simp [Instr.fieldAt, Try.runUnderlying37, Instr.sureAddr, fieldPlace, Try.sizeOf3, Sem.run_bind, Sem.run_pure]
theorem fa_37_1 (a : Addr) (w : World) : (Instr.fieldAt 37 (.pointer (some a)) 1).run Try.prog w = .ok (.pointer (some (a.add 1))) w := by
  simp [Instr.fieldAt, Try.runUnderlying37, Instr.sureAddr, fieldPlace, Try.sizeOf3, Sem.run_bind, Sem.run_pure]
theorem fa_37_2 (a : Addr) (w : World) : (Instr.fieldAt 37 (.pointer (some a)) 2).run Try.prog w = .ok (.pointer (some (a.add 2))) w := by
  simp [Instr.fieldAt, Try.runUnderlying37, Instr.sureAddr, fieldPlace, Try.sizeOf3, Sem.run_bind, Sem.run_pure]
theorem getD_set1 {W : List Int} {a : Nat} {x : Int} (h : a < W.length) : (W.set a x).getD a 0 = x := by simp [List.getD_eq_getElem?_getD, h]
theorem set_other {W : List Int} {j : Nat} {at_ x : Int} (h : W.getD j 0 ≠ (W.set at_.toNat x).getD j 0) (h0 : 0 ≤ at_) : (j : Int) = at_ ∨ (j : Int) = at_ + 1 := by
  by_cases hj : at_.toNat = j
  · left; omega
  · exact absurd (by simp [List.getD_eq_getElem?_getD, List.getElem?_set_ne hj]) h
theorem set_other2 {W : List Int} {j : Nat} {at_ x y : Int} (h : W.getD j 0 ≠ ((W.set at_.toNat x).set (at_.toNat + 1) y).getD j 0) (h0 : 0 ≤ at_) : (j : Int) = at_ ∨ (j : Int) = at_ + 1 := by
  by_cases hj : at_.toNat + 1 = j
  · right; omega
  · by_cases hk : at_.toNat = j
    · left; omega
    · exact absurd (by simp [List.getD_eq_getElem?_getD, List.getElem?_set_ne hj, List.getElem?_set_ne hk]) h
set_option maxHeartbeats 4000000 in
theorem oth_look_ok (w0 : World) (F : List Atom) (bw ow n cw : Nat) (W : List Int) (hW : W.length = n) (hcw : n ≤ cw) (hr : RowAt w0 F bw ow (ints .u32 W)) (hU : U32s W) (h1 : n ≤ 16384) (h2 : 0 < n) (h3 : n % 16 = 0) (kd at_ kk x : Int) (a0 : -9223372036854775808 ≤ at_) (a1 : at_ ≤ 9223372036854775807) (k0 : -9223372036854775808 ≤ kk) (k1 : kk ≤ 9223372036854775807) (x0 : 0 ≤ x) (x1 : x ≤ 4294967295) (hk : kd = 0) (h : inR n at_ 2) :
    CallK Try.prog 6 [.slice (some ⟨bw, ow, none⟩) n cw, .agg [Value.int .i64 kd, .int .i64 at_, .int .i64 kk, .int .u32 x].toArray] w0 (F) (Gives w0 fun v F2 => v = .bool true ∧ F2 = F) := by
  have hn : n ≤ 1073741824 := by omega
  have hlen2 : (W).length = n := hW
  refine c_enter Try.func6 rfl rfl rfl ?_
  refine g_seq ?_
  refine g_region ?_
  refine l_boxs rfl rfl ?_; intro b3
  refine l_assign rfl rfl ?_
  refine l_nil ?_
  refine g_seq ?_
  refine g_region ?_
  refine l_move rfl rfl ?_
  refine l_call rfl Try.call8 rfl (of_ok _ _ bw ow n cw W hW hcw hr.there h1 h2 h3) ?_; rintro _ _ ⟨b, g, c, rfl, hc, rfl⟩
  refine l_move rfl rfl ?_
  refine l_extract rfl rfl rfl ?_
  refine l_extract rfl rfl rfl ?_
  refine l_assign rfl rfl ?_
  refine l_assign rfl rfl ?_
  refine l_nil ?_
  refine g_seq ?_
  refine g_seq ?_
  refine g_region ?_
  refine l_move rfl rfl ?_
  refine l_neq rfl rfl rfl ?_
  refine l_move rfl rfl ?_
  refine l_split 24 rfl ?_ ?_
  · intro hbr
    have hbr := of_decide_eq_true hbr
    (exfalso; omega)
  intro hbr
  have hbr := of_decide_eq_false hbr
  refine l_guard_yes rfl rfl ?_
  refine l_move rfl rfl ?_
  refine l_guard_yes rfl rfl ?_
  refine l_eqpn rfl Try.underlying28 rfl rfl ?_
  refine l_pick_f rfl rfl rfl ?_
  refine l_nil ?_
  refine g_cond_f rfl ?_
  refine g_skip ?_
  refine g_seq ?_
  refine g_region ?_
  refine l_move rfl rfl ?_
  refine l_call rfl Try.call12 rfl (clonem_ok _ _ b g n c W hW hc hn) ?_; rintro _ _ ⟨b2, g2, c2, rfl, hc2, rfl⟩
  refine l_assign rfl rfl ?_
  refine l_nil ?_
  refine g_seq ?_
  refine g_region ?_
  refine l_assign rfl rfl ?_
  refine l_nil ?_
  refine g_seq ?_
  refine g_seq ?_
  refine g_region ?_
  refine l_fieldAddr rfl fa_37_0 rfl ?_
  first | refine l_ld rfl Try.isAgg3 rfl rfl ?_ | refine l_ldw rfl Try.isAgg3 rfl (by omega) ?_
  refine l_nil ?_
  refine g_block ?_
  refine g_seq ?_
  refine g_region ?_
  refine l_eql rfl rfl rfl ?_
  refine l_assign rfl rfl ?_
  refine l_nil ?_
  refine g_cond rfl ?_ ?_
  · intro hbr
    have hbr := of_decide_eq_true hbr
    refine g_seq ?_
    refine g_region ?_
    refine l_move rfl rfl ?_
    refine l_fieldAddr rfl fa_37_1 rfl ?_
    first | refine l_ld rfl Try.isAgg3 rfl rfl ?_ | refine l_ldw rfl Try.isAgg3 rfl (by omega) ?_
    refine l_fronto g ?_
    refine l_frontb b ?_
    refine l_call rfl Try.call13 rfl (look_ok _ _ b g n c W hW hc hn hU _ (by omega) h) ?_; rintro _ _ ⟨rfl, rfl⟩
    refine l_move rfl rfl ?_
    refine l_extract rfl rfl rfl ?_
    refine l_extract rfl rfl rfl ?_
    refine l_allocs rfl Try.zeroValue42 ?_; intro b9
    refine l_sts Try.sizeOf42 rfl rfl rfl rfl rfl ?_
    refine l_assign rfl rfl ?_
    refine l_nil ?_
    refine g_region ?_
    refine l_move rfl rfl ?_
    refine l_assign rfl rfl ?_
    refine l_nil ?_
    refine g_inBlock ?_
    refine g_seq ?_
    refine g_region ?_
    refine l_move rfl rfl ?_
    refine l_fronto g2 ?_
    refine l_frontb b2 ?_
    refine l_call rfl Try.call16 rfl (words_ok _ _ b2 g2 n c2 W hW hc2 hn) ?_; rintro _ _ ⟨qa, ca, rfl, hca, rfl⟩
    refine l_move rfl rfl ?_
    refine l_fronto g ?_
    refine l_frontb b ?_
    refine l_call rfl Try.call16 rfl (words_ok _ _ b g n c W hW hc hn) ?_; rintro _ _ ⟨qb, cb, rfl, hcb, rfl⟩
    refine l_assign rfl rfl ?_
    refine l_assign rfl rfl ?_
    refine l_nil ?_
    refine g_seq ?_
    refine g_seq ?_
    refine g_region ?_
    refine l_move rfl rfl ?_
    refine l_len rfl Try.underlying26 rfl ?_
    refine l_move rfl rfl ?_
    refine l_len rfl Try.underlying26 rfl ?_
    refine l_neq rfl rfl rfl ?_
    refine l_nil ?_
    refine g_cond rfl ?_ ?_
    · intro hbr
      have hbr := of_decide_eq_true hbr
      (exfalso; omega)
    intro hbr
    have hbr := of_decide_eq_false hbr
    refine g_skip ?_
    refine g_seq ?_
    refine g_region ?_
    refine l_assign rfl rfl ?_
    refine l_nil ?_
    refine g_seq ?_
    refine g_seq ?_
    refine g_region ?_
    refine l_assign rfl rfl ?_
    refine l_nil ?_
    refine g_block ?_
    refine g_loop (X := Int × Int) (fun z => 0 ≤ z.1 ∧ z.1 ≤ n ∧ 0 ≤ z.2 ∧ z.2 ≤ z.1) (fun z => (n - z.1).toNat) (fun z => [(3, .pointer (some ⟨b3, 0, none⟩)), (8, .int .i64 0), (13, .slice (some ⟨qa, 0, none⟩) n ca), (14, .slice (some ⟨qb, 0, none⟩) n cb), (15, .int .i64 z.2), (16, .int .i64 z.1)]) (fun z => Own 23 1 (.slice (some ⟨qa, 0, none⟩) n ca) n (ints .u32 W) :: Own 23 1 (.slice (some ⟨qb, 0, none⟩) n cb) n (ints .u32 W) :: Blk b3 (.cells [Value.int .i64 kd, .int .i64 at_, .int .i64 kk, .int .u32 x].toArray 37 (0, 0)) :: F) (0, 0) ⟨by simp only; omega, by simp only; omega, by simp only; omega, by simp only; omega⟩ (.cons rfl (.cons rfl (.cons rfl (.cons rfl (.cons rfl (.cons rfl .nil)))))) (fun w hw => SPI.holds hw) ?_
    clear hr
    rintro ⟨i, q⟩ ⟨i0, i1, q0, q1⟩ ih
    dsimp only
    simp only at i0 i1 q0 q1
    refine g_seq ?_
    refine g_seq ?_
    refine g_region ?_
    refine l_move rfl rfl ?_
    refine l_move rfl rfl ?_
    refine l_len rfl Try.underlying26 rfl ?_
    refine l_lss rfl rfl rfl ?_
    refine l_nil ?_
    refine g_cond rfl ?_ ?_
    · intro hbr
      have hbr := of_decide_eq_true hbr
      refine g_skip ?_
      refine g_seq ?_
      refine g_block ?_
      refine g_seq ?_
      refine g_seq ?_
      refine gp_start mo (by kernel_rfl) (by kernel_rfl) ?_
      refine gp_quiet 0 rfl rfl rfl rfl rfl rfl (q_move rfl) ?_
      refine gp_quiet 1 rfl rfl rfl rfl rfl rfl (q_move rfl) ?_
      refine gp_quiet 2 rfl rfl rfl rfl rfl rfl (q_ixs Try.underlying26 Try.sizeOf23 rfl rfl (by omega) (by omega)) ?_
      refine gp_quiet 3 rfl rfl rfl rfl rfl rfl (q_ldw Try.isAgg23 rfl (by first | omega | (simp only [List.length_set]; omega))) ?_
      refine gp_quiet 4 rfl rfl rfl rfl rfl rfl (q_move rfl) ?_
      refine gp_quiet 5 rfl rfl rfl rfl rfl rfl (q_move rfl) ?_
      refine gp_quiet 6 rfl rfl rfl rfl rfl rfl (q_ixs Try.underlying26 Try.sizeOf23 rfl rfl (by omega) (by omega)) ?_
      refine gp_quiet 7 rfl rfl rfl rfl rfl rfl (q_ldw Try.isAgg23 rfl (by first | omega | (simp only [List.length_set]; omega))) ?_
      refine gp_quiet 8 rfl rfl rfl rfl rfl rfl (q_eql rfl rfl) ?_
      refine gp_end rfl rfl ?_
      refine g_cond rfl ?_ ?_
      · intro hbr
        have hbr := of_decide_eq_true hbr
        refine g_exit rfl ?_
        refine g_region ?_
        refine l_move rfl rfl ?_
        first | refine l_add rfl rfl rfl (w_i64 (by omega) (by omega)) ?_ | refine l_addw rfl rfl rfl ?_
        refine l_assign rfl rfl ?_
        refine l_nil ?_
        (first | exact g_againi (ih (i + 1, q + 1) ⟨by simp only; omega, by simp only; omega, by simp only; omega, by simp only; omega⟩ (by simp only; omega)) (.cons rfl (.cons rfl (.cons rfl (.cons rfl (.cons rfl (.cons rfl .nil)))))) | exact g_againi (ih (i + 1, q) ⟨by simp only; omega, by simp only; omega, by simp only; omega, by simp only; omega⟩ (by simp only; omega)) (.cons rfl (.cons rfl (.cons rfl (.cons rfl (.cons rfl (.cons rfl .nil)))))))
      · intro hbr
        have hbr := of_decide_eq_false hbr
        (exfalso; omega)
    intro hbr
    have hbr := of_decide_eq_false hbr
    refine g_exit rfl ?_
    refine g_seq ?_
    refine g_seq ?_
    refine g_region ?_
    refine l_move rfl rfl ?_
    refine l_eql rfl rfl rfl ?_
    refine l_move rfl rfl ?_
    refine l_split 109 rfl ?_ ?_
    · intro hbr
      have hbr := of_decide_eq_true hbr
      refine l_guard_yes rfl rfl ?_
      refine l_fieldAddr rfl fa_37_0 rfl ?_
      refine l_guard_yes rfl rfl ?_
      first | refine l_ld rfl Try.isAgg3 rfl rfl ?_ | refine l_ldw rfl Try.isAgg3 rfl (by omega) ?_
      refine l_guard_yes rfl rfl ?_
      refine l_neq rfl rfl rfl ?_
      refine l_pick_t rfl rfl rfl ?_
      refine l_move rfl rfl ?_
      refine l_split 114 rfl ?_ ?_
      · intro hbr
        have hbr := of_decide_eq_true hbr
        (exfalso; omega)
      intro hbr
      have hbr := of_decide_eq_false hbr
      refine l_guard_no rfl rfl rfl ?_
      refine l_guard_no rfl rfl rfl ?_
      refine l_pick_f rfl rfl rfl ?_
      refine l_nil ?_
      refine g_cond_f rfl ?_
      refine g_skip ?_
      refine g_seq ?_
      refine g_region ?_
      refine l_call rfl Try.call7 rfl (meets_ok _ _ _ _ _ (by omega) (by omega) (by omega)) ?_; rintro _ _ ⟨rfl, rfl⟩
      refine l_assign rfl rfl ?_
      refine l_nil ?_
      refine g_ret Try.func6 rfl (.tmp rfl .nil) ?_
      exact Gives.mki ⟨rfl, rfl⟩
    · intro hbr
      have hbr := of_decide_eq_false hbr
      (exfalso; omega)
  · intro hbr
    have hbr := of_decide_eq_false hbr
    (exfalso; omega)
set_option maxHeartbeats 4000000 in
theorem oth_look_out (w0 : World) (F : List Atom) (bw ow n cw : Nat) (W : List Int) (hW : W.length = n) (hcw : n ≤ cw) (hr : RowAt w0 F bw ow (ints .u32 W)) (hU : U32s W) (h1 : n ≤ 16384) (h2 : 0 < n) (h3 : n % 16 = 0) (kd at_ kk x : Int) (a0 : -9223372036854775808 ≤ at_) (a1 : at_ ≤ 9223372036854775807) (k0 : -9223372036854775808 ≤ kk) (k1 : kk ≤ 9223372036854775807) (x0 : 0 ≤ x) (x1 : x ≤ 4294967295) (hk : kd = 0) (h : ¬ inR n at_ 2) :
    CallK Try.prog 6 [.slice (some ⟨bw, ow, none⟩) n cw, .agg [Value.int .i64 kd, .int .i64 at_, .int .i64 kk, .int .u32 x].toArray] w0 (F) (Gives w0 fun v F2 => v = .bool true ∧ F2 = F) := by
  have hn : n ≤ 1073741824 := by omega
  have hlen2 : (W).length = n := hW
  refine c_enter Try.func6 rfl rfl rfl ?_
  refine g_seq ?_
  refine g_region ?_
  refine l_boxs rfl rfl ?_; intro b3
  refine l_assign rfl rfl ?_
  refine l_nil ?_
  refine g_seq ?_
  refine g_region ?_
  refine l_move rfl rfl ?_
  refine l_call rfl Try.call8 rfl (of_ok _ _ bw ow n cw W hW hcw hr.there h1 h2 h3) ?_; rintro _ _ ⟨b, g, c, rfl, hc, rfl⟩
  refine l_move rfl rfl ?_
  refine l_extract rfl rfl rfl ?_
  refine l_extract rfl rfl rfl ?_
  refine l_assign rfl rfl ?_
  refine l_assign rfl rfl ?_
  refine l_nil ?_
  refine g_seq ?_
  refine g_seq ?_
  refine g_region ?_
  refine l_move rfl rfl ?_
  refine l_neq rfl rfl rfl ?_
  refine l_move rfl rfl ?_
  refine l_split 24 rfl ?_ ?_
  · intro hbr
    have hbr := of_decide_eq_true hbr
    (exfalso; omega)
  intro hbr
  have hbr := of_decide_eq_false hbr
  refine l_guard_yes rfl rfl ?_
  refine l_move rfl rfl ?_
  refine l_guard_yes rfl rfl ?_
  refine l_eqpn rfl Try.underlying28 rfl rfl ?_
  refine l_pick_f rfl rfl rfl ?_
  refine l_nil ?_
  refine g_cond_f rfl ?_
  refine g_skip ?_
  refine g_seq ?_
  refine g_region ?_
  refine l_move rfl rfl ?_
  refine l_call rfl Try.call12 rfl (clonem_ok _ _ b g n c W hW hc hn) ?_; rintro _ _ ⟨b2, g2, c2, rfl, hc2, rfl⟩
  refine l_assign rfl rfl ?_
  refine l_nil ?_
  refine g_seq ?_
  refine g_region ?_
  refine l_assign rfl rfl ?_
  refine l_nil ?_
  refine g_seq ?_
  refine g_seq ?_
  refine g_region ?_
  refine l_fieldAddr rfl fa_37_0 rfl ?_
  first | refine l_ld rfl Try.isAgg3 rfl rfl ?_ | refine l_ldw rfl Try.isAgg3 rfl (by omega) ?_
  refine l_nil ?_
  refine g_block ?_
  refine g_seq ?_
  refine g_region ?_
  refine l_eql rfl rfl rfl ?_
  refine l_assign rfl rfl ?_
  refine l_nil ?_
  refine g_cond rfl ?_ ?_
  · intro hbr
    have hbr := of_decide_eq_true hbr
    refine g_seq ?_
    refine g_region ?_
    refine l_move rfl rfl ?_
    refine l_fieldAddr rfl fa_37_1 rfl ?_
    first | refine l_ld rfl Try.isAgg3 rfl rfl ?_ | refine l_ldw rfl Try.isAgg3 rfl (by omega) ?_
    refine l_fronto g ?_
    refine l_frontb b ?_
    refine l_call rfl Try.call13 rfl (look_bad _ _ b g n c W hW hc hn _ (by omega) (by omega) h) ?_; rintro _ _ ⟨rfl, rfl⟩
    refine l_move rfl rfl ?_
    refine l_extract rfl rfl rfl ?_
    refine l_extract rfl rfl rfl ?_
    refine l_allocs rfl Try.zeroValue42 ?_; intro b9
    refine l_sts Try.sizeOf42 rfl rfl rfl rfl rfl ?_
    refine l_assign rfl rfl ?_
    refine l_nil ?_
    refine g_region ?_
    refine l_move rfl rfl ?_
    refine l_assign rfl rfl ?_
    refine l_nil ?_
    refine g_inBlock ?_
    refine g_seq ?_
    refine g_region ?_
    refine l_move rfl rfl ?_
    refine l_fronto g2 ?_
    refine l_frontb b2 ?_
    refine l_call rfl Try.call16 rfl (words_ok _ _ b2 g2 n c2 W hW hc2 hn) ?_; rintro _ _ ⟨qa, ca, rfl, hca, rfl⟩
    refine l_move rfl rfl ?_
    refine l_fronto g ?_
    refine l_frontb b ?_
    refine l_call rfl Try.call16 rfl (words_ok _ _ b g n c W hW hc hn) ?_; rintro _ _ ⟨qb, cb, rfl, hcb, rfl⟩
    refine l_assign rfl rfl ?_
    refine l_assign rfl rfl ?_
    refine l_nil ?_
    refine g_seq ?_
    refine g_seq ?_
    refine g_region ?_
    refine l_move rfl rfl ?_
    refine l_len rfl Try.underlying26 rfl ?_
    refine l_move rfl rfl ?_
    refine l_len rfl Try.underlying26 rfl ?_
    refine l_neq rfl rfl rfl ?_
    refine l_nil ?_
    refine g_cond rfl ?_ ?_
    · intro hbr
      have hbr := of_decide_eq_true hbr
      (exfalso; omega)
    intro hbr
    have hbr := of_decide_eq_false hbr
    refine g_skip ?_
    refine g_seq ?_
    refine g_region ?_
    refine l_assign rfl rfl ?_
    refine l_nil ?_
    refine g_seq ?_
    refine g_seq ?_
    refine g_region ?_
    refine l_assign rfl rfl ?_
    refine l_nil ?_
    refine g_block ?_
    refine g_loop (X := Int × Int) (fun z => 0 ≤ z.1 ∧ z.1 ≤ n ∧ 0 ≤ z.2 ∧ z.2 ≤ z.1) (fun z => (n - z.1).toNat) (fun z => [(3, .pointer (some ⟨b3, 0, none⟩)), (8, .int .i64 51), (13, .slice (some ⟨qa, 0, none⟩) n ca), (14, .slice (some ⟨qb, 0, none⟩) n cb), (15, .int .i64 z.2), (16, .int .i64 z.1)]) (fun z => Own 23 1 (.slice (some ⟨qa, 0, none⟩) n ca) n (ints .u32 W) :: Own 23 1 (.slice (some ⟨qb, 0, none⟩) n cb) n (ints .u32 W) :: Blk b3 (.cells [Value.int .i64 kd, .int .i64 at_, .int .i64 kk, .int .u32 x].toArray 37 (0, 0)) :: F) (0, 0) ⟨by simp only; omega, by simp only; omega, by simp only; omega, by simp only; omega⟩ (.cons rfl (.cons rfl (.cons rfl (.cons rfl (.cons rfl (.cons rfl .nil)))))) (fun w hw => SPI.holds hw) ?_
    clear hr
    rintro ⟨i, q⟩ ⟨i0, i1, q0, q1⟩ ih
    dsimp only
    simp only at i0 i1 q0 q1
    refine g_seq ?_
    refine g_seq ?_
    refine g_region ?_
    refine l_move rfl rfl ?_
    refine l_move rfl rfl ?_
    refine l_len rfl Try.underlying26 rfl ?_
    refine l_lss rfl rfl rfl ?_
    refine l_nil ?_
    refine g_cond rfl ?_ ?_
    · intro hbr
      have hbr := of_decide_eq_true hbr
      refine g_skip ?_
      refine g_seq ?_
      refine g_block ?_
      refine g_seq ?_
      refine g_seq ?_
      refine gp_start mo (by kernel_rfl) (by kernel_rfl) ?_
      refine gp_quiet 0 rfl rfl rfl rfl rfl rfl (q_move rfl) ?_
      refine gp_quiet 1 rfl rfl rfl rfl rfl rfl (q_move rfl) ?_
      refine gp_quiet 2 rfl rfl rfl rfl rfl rfl (q_ixs Try.underlying26 Try.sizeOf23 rfl rfl (by omega) (by omega)) ?_
      refine gp_quiet 3 rfl rfl rfl rfl rfl rfl (q_ldw Try.isAgg23 rfl (by first | omega | (simp only [List.length_set]; omega))) ?_
      refine gp_quiet 4 rfl rfl rfl rfl rfl rfl (q_move rfl) ?_
      refine gp_quiet 5 rfl rfl rfl rfl rfl rfl (q_move rfl) ?_
      refine gp_quiet 6 rfl rfl rfl rfl rfl rfl (q_ixs Try.underlying26 Try.sizeOf23 rfl rfl (by omega) (by omega)) ?_
      refine gp_quiet 7 rfl rfl rfl rfl rfl rfl (q_ldw Try.isAgg23 rfl (by first | omega | (simp only [List.length_set]; omega))) ?_
      refine gp_quiet 8 rfl rfl rfl rfl rfl rfl (q_eql rfl rfl) ?_
      refine gp_end rfl rfl ?_
      refine g_cond rfl ?_ ?_
      · intro hbr
        have hbr := of_decide_eq_true hbr
        refine g_exit rfl ?_
        refine g_region ?_
        refine l_move rfl rfl ?_
        first | refine l_add rfl rfl rfl (w_i64 (by omega) (by omega)) ?_ | refine l_addw rfl rfl rfl ?_
        refine l_assign rfl rfl ?_
        refine l_nil ?_
        (first | exact g_againi (ih (i + 1, q + 1) ⟨by simp only; omega, by simp only; omega, by simp only; omega, by simp only; omega⟩ (by simp only; omega)) (.cons rfl (.cons rfl (.cons rfl (.cons rfl (.cons rfl (.cons rfl .nil)))))) | exact g_againi (ih (i + 1, q) ⟨by simp only; omega, by simp only; omega, by simp only; omega, by simp only; omega⟩ (by simp only; omega)) (.cons rfl (.cons rfl (.cons rfl (.cons rfl (.cons rfl (.cons rfl .nil)))))))
      · intro hbr
        have hbr := of_decide_eq_false hbr
        (exfalso; omega)
    intro hbr
    have hbr := of_decide_eq_false hbr
    refine g_exit rfl ?_
    refine g_seq ?_
    refine g_seq ?_
    refine g_region ?_
    refine l_move rfl rfl ?_
    refine l_eql rfl rfl rfl ?_
    refine l_move rfl rfl ?_
    refine l_split 109 rfl ?_ ?_
    · intro hbr
      have hbr := of_decide_eq_true hbr
      (exfalso; omega)
    intro hbr
    have hbr := of_decide_eq_false hbr
    refine l_guard_no rfl rfl rfl ?_
    refine l_guard_no rfl rfl rfl ?_
    refine l_guard_no rfl rfl rfl ?_
    refine l_pick_f rfl rfl rfl ?_
    refine l_move rfl rfl ?_
    refine l_guard_no rfl rfl rfl ?_
    refine l_guard_no rfl rfl rfl ?_
    refine l_pick_f rfl rfl rfl ?_
    refine l_nil ?_
    refine g_cond_f rfl ?_
    refine g_skip ?_
    refine g_seq ?_
    refine g_region ?_
    refine l_call rfl Try.call7 rfl (meets_ok _ _ _ _ _ (by omega) (by omega) (by omega)) ?_; rintro _ _ ⟨rfl, rfl⟩
    refine l_assign rfl rfl ?_
    refine l_nil ?_
    refine g_ret Try.func6 rfl (.tmp rfl .nil) ?_
    exact Gives.mki ⟨rfl, rfl⟩
  · intro hbr
    have hbr := of_decide_eq_false hbr
    (exfalso; omega)
set_option maxHeartbeats 4000000 in
theorem oth_come_out (w0 : World) (F : List Atom) (bw ow n cw : Nat) (W : List Int) (hW : W.length = n) (hcw : n ≤ cw) (hr : RowAt w0 F bw ow (ints .u32 W)) (hU : U32s W) (h1 : n ≤ 16384) (h2 : 0 < n) (h3 : n % 16 = 0) (kd at_ kk x : Int) (a0 : -9223372036854775808 ≤ at_) (a1 : at_ ≤ 9223372036854775807) (k0 : -9223372036854775808 ≤ kk) (k1 : kk ≤ 9223372036854775807) (x0 : 0 ≤ x) (x1 : x ≤ 4294967295) (hk : kd = 1) (h : ¬ inR n at_ 2) :
    CallK Try.prog 6 [.slice (some ⟨bw, ow, none⟩) n cw, .agg [Value.int .i64 kd, .int .i64 at_, .int .i64 kk, .int .u32 x].toArray] w0 (F) (Gives w0 fun v F2 => v = .bool true ∧ F2 = F) := by
  have hn : n ≤ 1073741824 := by omega
  have hlen2 : (W).length = n := hW
  refine c_enter Try.func6 rfl rfl rfl ?_
  refine g_seq ?_
  refine g_region ?_
  refine l_boxs rfl rfl ?_; intro b3
  refine l_assign rfl rfl ?_
  refine l_nil ?_
  refine g_seq ?_
  refine g_region ?_
  refine l_move rfl rfl ?_
  refine l_call rfl Try.call8 rfl (of_ok _ _ bw ow n cw W hW hcw hr.there h1 h2 h3) ?_; rintro _ _ ⟨b, g, c, rfl, hc, rfl⟩
  refine l_move rfl rfl ?_
  refine l_extract rfl rfl rfl ?_
  refine l_extract rfl rfl rfl ?_
  refine l_assign rfl rfl ?_
  refine l_assign rfl rfl ?_
  refine l_nil ?_
  refine g_seq ?_
  refine g_seq ?_
  refine g_region ?_
  refine l_move rfl rfl ?_
  refine l_neq rfl rfl rfl ?_
  refine l_move rfl rfl ?_
  refine l_split 24 rfl ?_ ?_
  · intro hbr
    have hbr := of_decide_eq_true hbr
    (exfalso; omega)
  intro hbr
  have hbr := of_decide_eq_false hbr
  refine l_guard_yes rfl rfl ?_
  refine l_move rfl rfl ?_
  refine l_guard_yes rfl rfl ?_
  refine l_eqpn rfl Try.underlying28 rfl rfl ?_
  refine l_pick_f rfl rfl rfl ?_
  refine l_nil ?_
  refine g_cond_f rfl ?_
  refine g_skip ?_
  refine g_seq ?_
  refine g_region ?_
  refine l_move rfl rfl ?_
  refine l_call rfl Try.call12 rfl (clonem_ok _ _ b g n c W hW hc hn) ?_; rintro _ _ ⟨b2, g2, c2, rfl, hc2, rfl⟩
  refine l_assign rfl rfl ?_
  refine l_nil ?_
  refine g_seq ?_
  refine g_region ?_
  refine l_assign rfl rfl ?_
  refine l_nil ?_
  refine g_seq ?_
  refine g_seq ?_
  refine g_region ?_
  refine l_fieldAddr rfl fa_37_0 rfl ?_
  first | refine l_ld rfl Try.isAgg3 rfl rfl ?_ | refine l_ldw rfl Try.isAgg3 rfl (by omega) ?_
  refine l_nil ?_
  refine g_block ?_
  refine g_seq ?_
  refine g_region ?_
  refine l_eql rfl rfl rfl ?_
  refine l_assign rfl rfl ?_
  refine l_nil ?_
  refine g_cond rfl ?_ ?_
  · intro hbr
    have hbr := of_decide_eq_true hbr
    (exfalso; omega)
  intro hbr
  have hbr := of_decide_eq_false hbr
  refine g_seq ?_
  refine g_region ?_
  refine l_eql rfl rfl rfl ?_
  refine l_assign rfl rfl ?_
  refine l_nil ?_
  refine g_cond rfl ?_ ?_
  · intro hbr
    have hbr := of_decide_eq_true hbr
    refine g_seq ?_
    refine g_region ?_
    refine l_move rfl rfl ?_
    refine l_fieldAddr rfl fa_37_1 rfl ?_
    first | refine l_ld rfl Try.isAgg3 rfl rfl ?_ | refine l_ldw rfl Try.isAgg3 rfl (by omega) ?_
    refine l_fieldAddr rfl fa_37_2 rfl ?_
    first | refine l_ld rfl Try.isAgg3 rfl rfl ?_ | refine l_ldw rfl Try.isAgg3 rfl (by omega) ?_
    refine l_fronto g ?_
    refine l_frontb b ?_
    refine l_call rfl Try.call14 rfl (come_out _ _ b g n c W hW hc hn _ (by omega) (by omega) h _ (by omega) (by omega)) ?_; rintro _ _ ⟨rfl, rfl⟩
    refine l_move rfl rfl ?_
    refine l_extract rfl rfl rfl ?_
    refine l_extract rfl rfl rfl ?_
    refine l_assign rfl rfl ?_
    refine l_assign rfl rfl ?_
    refine l_nil ?_
    refine g_region ?_
    refine l_move rfl rfl ?_
    refine l_assign rfl rfl ?_
    refine l_nil ?_
    refine g_inBlock ?_
    refine g_seq ?_
    refine g_region ?_
    refine l_move rfl rfl ?_
    refine l_fronto g2 ?_
    refine l_frontb b2 ?_
    refine l_call rfl Try.call16 rfl (words_ok _ _ b2 g2 n c2 W hW hc2 hn) ?_; rintro _ _ ⟨qa, ca, rfl, hca, rfl⟩
    refine l_move rfl rfl ?_
    refine l_fronto g ?_
    refine l_frontb b ?_
    refine l_call rfl Try.call16 rfl (words_ok _ _ b g n c W hW hc hn) ?_; rintro _ _ ⟨qb, cb, rfl, hcb, rfl⟩
    refine l_assign rfl rfl ?_
    refine l_assign rfl rfl ?_
    refine l_nil ?_
    refine g_seq ?_
    refine g_seq ?_
    refine g_region ?_
    refine l_move rfl rfl ?_
    refine l_len rfl Try.underlying26 rfl ?_
    refine l_move rfl rfl ?_
    refine l_len rfl Try.underlying26 rfl ?_
    refine l_neq rfl rfl rfl ?_
    refine l_nil ?_
    refine g_cond rfl ?_ ?_
    · intro hbr
      have hbr := of_decide_eq_true hbr
      (exfalso; omega)
    intro hbr
    have hbr := of_decide_eq_false hbr
    refine g_skip ?_
    refine g_seq ?_
    refine g_region ?_
    refine l_assign rfl rfl ?_
    refine l_nil ?_
    refine g_seq ?_
    refine g_seq ?_
    refine g_region ?_
    refine l_assign rfl rfl ?_
    refine l_nil ?_
    refine g_block ?_
    refine g_loop (X := Int × Int) (fun z => 0 ≤ z.1 ∧ z.1 ≤ n ∧ 0 ≤ z.2 ∧ z.2 ≤ z.1) (fun z => (n - z.1).toNat) (fun z => [(3, .pointer (some ⟨b3, 0, none⟩)), (8, .int .i64 51), (13, .slice (some ⟨qa, 0, none⟩) n ca), (14, .slice (some ⟨qb, 0, none⟩) n cb), (15, .int .i64 z.2), (16, .int .i64 z.1)]) (fun z => Own 23 1 (.slice (some ⟨qa, 0, none⟩) n ca) n (ints .u32 W) :: Own 23 1 (.slice (some ⟨qb, 0, none⟩) n cb) n (ints .u32 W) :: Blk b3 (.cells [Value.int .i64 kd, .int .i64 at_, .int .i64 kk, .int .u32 x].toArray 37 (0, 0)) :: F) (0, 0) ⟨by simp only; omega, by simp only; omega, by simp only; omega, by simp only; omega⟩ (.cons rfl (.cons rfl (.cons rfl (.cons rfl (.cons rfl (.cons rfl .nil)))))) (fun w hw => SPI.holds hw) ?_
    clear hr
    rintro ⟨i, q⟩ ⟨i0, i1, q0, q1⟩ ih
    dsimp only
    simp only at i0 i1 q0 q1
    refine g_seq ?_
    refine g_seq ?_
    refine g_region ?_
    refine l_move rfl rfl ?_
    refine l_move rfl rfl ?_
    refine l_len rfl Try.underlying26 rfl ?_
    refine l_lss rfl rfl rfl ?_
    refine l_nil ?_
    refine g_cond rfl ?_ ?_
    · intro hbr
      have hbr := of_decide_eq_true hbr
      refine g_skip ?_
      refine g_seq ?_
      refine g_block ?_
      refine g_seq ?_
      refine g_seq ?_
      refine gp_start mo (by kernel_rfl) (by kernel_rfl) ?_
      refine gp_quiet 0 rfl rfl rfl rfl rfl rfl (q_move rfl) ?_
      refine gp_quiet 1 rfl rfl rfl rfl rfl rfl (q_move rfl) ?_
      refine gp_quiet 2 rfl rfl rfl rfl rfl rfl (q_ixs Try.underlying26 Try.sizeOf23 rfl rfl (by omega) (by omega)) ?_
      refine gp_quiet 3 rfl rfl rfl rfl rfl rfl (q_ldw Try.isAgg23 rfl (by first | omega | (simp only [List.length_set]; omega))) ?_
      refine gp_quiet 4 rfl rfl rfl rfl rfl rfl (q_move rfl) ?_
      refine gp_quiet 5 rfl rfl rfl rfl rfl rfl (q_move rfl) ?_
      refine gp_quiet 6 rfl rfl rfl rfl rfl rfl (q_ixs Try.underlying26 Try.sizeOf23 rfl rfl (by omega) (by omega)) ?_
      refine gp_quiet 7 rfl rfl rfl rfl rfl rfl (q_ldw Try.isAgg23 rfl (by first | omega | (simp only [List.length_set]; omega))) ?_
      refine gp_quiet 8 rfl rfl rfl rfl rfl rfl (q_eql rfl rfl) ?_
      refine gp_end rfl rfl ?_
      refine g_cond rfl ?_ ?_
      · intro hbr
        have hbr := of_decide_eq_true hbr
        refine g_exit rfl ?_
        refine g_region ?_
        refine l_move rfl rfl ?_
        first | refine l_add rfl rfl rfl (w_i64 (by omega) (by omega)) ?_ | refine l_addw rfl rfl rfl ?_
        refine l_assign rfl rfl ?_
        refine l_nil ?_
        (first | exact g_againi (ih (i + 1, q + 1) ⟨by simp only; omega, by simp only; omega, by simp only; omega, by simp only; omega⟩ (by simp only; omega)) (.cons rfl (.cons rfl (.cons rfl (.cons rfl (.cons rfl (.cons rfl .nil)))))) | exact g_againi (ih (i + 1, q) ⟨by simp only; omega, by simp only; omega, by simp only; omega, by simp only; omega⟩ (by simp only; omega)) (.cons rfl (.cons rfl (.cons rfl (.cons rfl (.cons rfl (.cons rfl .nil)))))))
      · intro hbr
        have hbr := of_decide_eq_false hbr
        (exfalso; omega)
    intro hbr
    have hbr := of_decide_eq_false hbr
    refine g_exit rfl ?_
    refine g_seq ?_
    refine g_seq ?_
    refine g_region ?_
    refine l_move rfl rfl ?_
    refine l_eql rfl rfl rfl ?_
    refine l_move rfl rfl ?_
    refine l_split 109 rfl ?_ ?_
    · intro hbr
      have hbr := of_decide_eq_true hbr
      (exfalso; omega)
    intro hbr
    have hbr := of_decide_eq_false hbr
    refine l_guard_no rfl rfl rfl ?_
    refine l_guard_no rfl rfl rfl ?_
    refine l_guard_no rfl rfl rfl ?_
    refine l_pick_f rfl rfl rfl ?_
    refine l_move rfl rfl ?_
    refine l_guard_no rfl rfl rfl ?_
    refine l_guard_no rfl rfl rfl ?_
    refine l_pick_f rfl rfl rfl ?_
    refine l_nil ?_
    refine g_cond_f rfl ?_
    refine g_skip ?_
    refine g_seq ?_
    refine g_region ?_
    refine l_call rfl Try.call7 rfl (meets_ok _ _ _ _ _ (by omega) (by omega) (by omega)) ?_; rintro _ _ ⟨rfl, rfl⟩
    refine l_assign rfl rfl ?_
    refine l_nil ?_
    refine g_ret Try.func6 rfl (.tmp rfl .nil) ?_
    exact Gives.mki ⟨rfl, rfl⟩
  · intro hbr
    have hbr := of_decide_eq_false hbr
    (exfalso; omega)
set_option maxHeartbeats 4000000 in
theorem oth_come_bad (w0 : World) (F : List Atom) (bw ow n cw : Nat) (W : List Int) (hW : W.length = n) (hcw : n ≤ cw) (hr : RowAt w0 F bw ow (ints .u32 W)) (hU : U32s W) (h1 : n ≤ 16384) (h2 : 0 < n) (h3 : n % 16 = 0) (kd at_ kk x : Int) (a0 : -9223372036854775808 ≤ at_) (a1 : at_ ≤ 9223372036854775807) (k0 : -9223372036854775808 ≤ kk) (k1 : kk ≤ 9223372036854775807) (x0 : 0 ≤ x) (x1 : x ≤ 4294967295) (hk : kd = 1) (h : inR n at_ 2) (hq : ¬ (1 ≤ kk ∧ kk ≤ 4)) :
    CallK Try.prog 6 [.slice (some ⟨bw, ow, none⟩) n cw, .agg [Value.int .i64 kd, .int .i64 at_, .int .i64 kk, .int .u32 x].toArray] w0 (F) (Gives w0 fun v F2 => v = .bool true ∧ F2 = F) := by
  have hn : n ≤ 1073741824 := by omega
  have hlen2 : (W).length = n := hW
  refine c_enter Try.func6 rfl rfl rfl ?_
  refine g_seq ?_
  refine g_region ?_
  refine l_boxs rfl rfl ?_; intro b3
  refine l_assign rfl rfl ?_
  refine l_nil ?_
  refine g_seq ?_
  refine g_region ?_
  refine l_move rfl rfl ?_
  refine l_call rfl Try.call8 rfl (of_ok _ _ bw ow n cw W hW hcw hr.there h1 h2 h3) ?_; rintro _ _ ⟨b, g, c, rfl, hc, rfl⟩
  refine l_move rfl rfl ?_
  refine l_extract rfl rfl rfl ?_
  refine l_extract rfl rfl rfl ?_
  refine l_assign rfl rfl ?_
  refine l_assign rfl rfl ?_
  refine l_nil ?_
  refine g_seq ?_
  refine g_seq ?_
  refine g_region ?_
  refine l_move rfl rfl ?_
  refine l_neq rfl rfl rfl ?_
  refine l_move rfl rfl ?_
  refine l_split 24 rfl ?_ ?_
  · intro hbr
    have hbr := of_decide_eq_true hbr
    (exfalso; omega)
  intro hbr
  have hbr := of_decide_eq_false hbr
  refine l_guard_yes rfl rfl ?_
  refine l_move rfl rfl ?_
  refine l_guard_yes rfl rfl ?_
  refine l_eqpn rfl Try.underlying28 rfl rfl ?_
  refine l_pick_f rfl rfl rfl ?_
  refine l_nil ?_
  refine g_cond_f rfl ?_
  refine g_skip ?_
  refine g_seq ?_
  refine g_region ?_
  refine l_move rfl rfl ?_
  refine l_call rfl Try.call12 rfl (clonem_ok _ _ b g n c W hW hc hn) ?_; rintro _ _ ⟨b2, g2, c2, rfl, hc2, rfl⟩
  refine l_assign rfl rfl ?_
  refine l_nil ?_
  refine g_seq ?_
  refine g_region ?_
  refine l_assign rfl rfl ?_
  refine l_nil ?_
  refine g_seq ?_
  refine g_seq ?_
  refine g_region ?_
  refine l_fieldAddr rfl fa_37_0 rfl ?_
  first | refine l_ld rfl Try.isAgg3 rfl rfl ?_ | refine l_ldw rfl Try.isAgg3 rfl (by omega) ?_
  refine l_nil ?_
  refine g_block ?_
  refine g_seq ?_
  refine g_region ?_
  refine l_eql rfl rfl rfl ?_
  refine l_assign rfl rfl ?_
  refine l_nil ?_
  refine g_cond rfl ?_ ?_
  · intro hbr
    have hbr := of_decide_eq_true hbr
    (exfalso; omega)
  intro hbr
  have hbr := of_decide_eq_false hbr
  refine g_seq ?_
  refine g_region ?_
  refine l_eql rfl rfl rfl ?_
  refine l_assign rfl rfl ?_
  refine l_nil ?_
  refine g_cond rfl ?_ ?_
  · intro hbr
    have hbr := of_decide_eq_true hbr
    refine g_seq ?_
    refine g_region ?_
    refine l_move rfl rfl ?_
    refine l_fieldAddr rfl fa_37_1 rfl ?_
    first | refine l_ld rfl Try.isAgg3 rfl rfl ?_ | refine l_ldw rfl Try.isAgg3 rfl (by omega) ?_
    refine l_fieldAddr rfl fa_37_2 rfl ?_
    first | refine l_ld rfl Try.isAgg3 rfl rfl ?_ | refine l_ldw rfl Try.isAgg3 rfl (by omega) ?_
    refine l_fronto g ?_
    refine l_frontb b ?_
    refine l_call rfl Try.call14 rfl (come_bad _ _ b g n c W hW hc hn hU _ (by omega) h _ (by omega) (by omega) hq) ?_; rintro _ _ ⟨rfl, rfl⟩
    refine l_move rfl rfl ?_
    refine l_extract rfl rfl rfl ?_
    refine l_extract rfl rfl rfl ?_
    refine l_assign rfl rfl ?_
    refine l_assign rfl rfl ?_
    refine l_nil ?_
    refine g_region ?_
    refine l_move rfl rfl ?_
    refine l_assign rfl rfl ?_
    refine l_nil ?_
    refine g_inBlock ?_
    refine g_seq ?_
    refine g_region ?_
    refine l_move rfl rfl ?_
    refine l_fronto g2 ?_
    refine l_frontb b2 ?_
    refine l_call rfl Try.call16 rfl (words_ok _ _ b2 g2 n c2 W hW hc2 hn) ?_; rintro _ _ ⟨qa, ca, rfl, hca, rfl⟩
    refine l_move rfl rfl ?_
    refine l_fronto g ?_
    refine l_frontb b ?_
    refine l_call rfl Try.call16 rfl (words_ok _ _ b g n c W hW hc hn) ?_; rintro _ _ ⟨qb, cb, rfl, hcb, rfl⟩
    refine l_assign rfl rfl ?_
    refine l_assign rfl rfl ?_
    refine l_nil ?_
    refine g_seq ?_
    refine g_seq ?_
    refine g_region ?_
    refine l_move rfl rfl ?_
    refine l_len rfl Try.underlying26 rfl ?_
    refine l_move rfl rfl ?_
    refine l_len rfl Try.underlying26 rfl ?_
    refine l_neq rfl rfl rfl ?_
    refine l_nil ?_
    refine g_cond rfl ?_ ?_
    · intro hbr
      have hbr := of_decide_eq_true hbr
      (exfalso; omega)
    intro hbr
    have hbr := of_decide_eq_false hbr
    refine g_skip ?_
    refine g_seq ?_
    refine g_region ?_
    refine l_assign rfl rfl ?_
    refine l_nil ?_
    refine g_seq ?_
    refine g_seq ?_
    refine g_region ?_
    refine l_assign rfl rfl ?_
    refine l_nil ?_
    refine g_block ?_
    refine g_loop (X := Int × Int) (fun z => 0 ≤ z.1 ∧ z.1 ≤ n ∧ 0 ≤ z.2 ∧ z.2 ≤ z.1) (fun z => (n - z.1).toNat) (fun z => [(3, .pointer (some ⟨b3, 0, none⟩)), (8, .int .i64 180), (13, .slice (some ⟨qa, 0, none⟩) n ca), (14, .slice (some ⟨qb, 0, none⟩) n cb), (15, .int .i64 z.2), (16, .int .i64 z.1)]) (fun z => Own 23 1 (.slice (some ⟨qa, 0, none⟩) n ca) n (ints .u32 W) :: Own 23 1 (.slice (some ⟨qb, 0, none⟩) n cb) n (ints .u32 W) :: Blk b3 (.cells [Value.int .i64 kd, .int .i64 at_, .int .i64 kk, .int .u32 x].toArray 37 (0, 0)) :: F) (0, 0) ⟨by simp only; omega, by simp only; omega, by simp only; omega, by simp only; omega⟩ (.cons rfl (.cons rfl (.cons rfl (.cons rfl (.cons rfl (.cons rfl .nil)))))) (fun w hw => SPI.holds hw) ?_
    clear hr
    rintro ⟨i, q⟩ ⟨i0, i1, q0, q1⟩ ih
    dsimp only
    simp only at i0 i1 q0 q1
    refine g_seq ?_
    refine g_seq ?_
    refine g_region ?_
    refine l_move rfl rfl ?_
    refine l_move rfl rfl ?_
    refine l_len rfl Try.underlying26 rfl ?_
    refine l_lss rfl rfl rfl ?_
    refine l_nil ?_
    refine g_cond rfl ?_ ?_
    · intro hbr
      have hbr := of_decide_eq_true hbr
      refine g_skip ?_
      refine g_seq ?_
      refine g_block ?_
      refine g_seq ?_
      refine g_seq ?_
      refine gp_start mo (by kernel_rfl) (by kernel_rfl) ?_
      refine gp_quiet 0 rfl rfl rfl rfl rfl rfl (q_move rfl) ?_
      refine gp_quiet 1 rfl rfl rfl rfl rfl rfl (q_move rfl) ?_
      refine gp_quiet 2 rfl rfl rfl rfl rfl rfl (q_ixs Try.underlying26 Try.sizeOf23 rfl rfl (by omega) (by omega)) ?_
      refine gp_quiet 3 rfl rfl rfl rfl rfl rfl (q_ldw Try.isAgg23 rfl (by first | omega | (simp only [List.length_set]; omega))) ?_
      refine gp_quiet 4 rfl rfl rfl rfl rfl rfl (q_move rfl) ?_
      refine gp_quiet 5 rfl rfl rfl rfl rfl rfl (q_move rfl) ?_
      refine gp_quiet 6 rfl rfl rfl rfl rfl rfl (q_ixs Try.underlying26 Try.sizeOf23 rfl rfl (by omega) (by omega)) ?_
      refine gp_quiet 7 rfl rfl rfl rfl rfl rfl (q_ldw Try.isAgg23 rfl (by first | omega | (simp only [List.length_set]; omega))) ?_
      refine gp_quiet 8 rfl rfl rfl rfl rfl rfl (q_eql rfl rfl) ?_
      refine gp_end rfl rfl ?_
      refine g_cond rfl ?_ ?_
      · intro hbr
        have hbr := of_decide_eq_true hbr
        refine g_exit rfl ?_
        refine g_region ?_
        refine l_move rfl rfl ?_
        first | refine l_add rfl rfl rfl (w_i64 (by omega) (by omega)) ?_ | refine l_addw rfl rfl rfl ?_
        refine l_assign rfl rfl ?_
        refine l_nil ?_
        (first | exact g_againi (ih (i + 1, q + 1) ⟨by simp only; omega, by simp only; omega, by simp only; omega, by simp only; omega⟩ (by simp only; omega)) (.cons rfl (.cons rfl (.cons rfl (.cons rfl (.cons rfl (.cons rfl .nil)))))) | exact g_againi (ih (i + 1, q) ⟨by simp only; omega, by simp only; omega, by simp only; omega, by simp only; omega⟩ (by simp only; omega)) (.cons rfl (.cons rfl (.cons rfl (.cons rfl (.cons rfl (.cons rfl .nil)))))))
      · intro hbr
        have hbr := of_decide_eq_false hbr
        (exfalso; omega)
    intro hbr
    have hbr := of_decide_eq_false hbr
    refine g_exit rfl ?_
    refine g_seq ?_
    refine g_seq ?_
    refine g_region ?_
    refine l_move rfl rfl ?_
    refine l_eql rfl rfl rfl ?_
    refine l_move rfl rfl ?_
    refine l_split 109 rfl ?_ ?_
    · intro hbr
      have hbr := of_decide_eq_true hbr
      (exfalso; omega)
    intro hbr
    have hbr := of_decide_eq_false hbr
    refine l_guard_no rfl rfl rfl ?_
    refine l_guard_no rfl rfl rfl ?_
    refine l_guard_no rfl rfl rfl ?_
    refine l_pick_f rfl rfl rfl ?_
    refine l_move rfl rfl ?_
    refine l_guard_no rfl rfl rfl ?_
    refine l_guard_no rfl rfl rfl ?_
    refine l_pick_f rfl rfl rfl ?_
    refine l_nil ?_
    refine g_cond_f rfl ?_
    refine g_skip ?_
    refine g_seq ?_
    refine g_region ?_
    refine l_call rfl Try.call7 rfl (meets_ok _ _ _ _ _ (by omega) (by omega) (by omega)) ?_; rintro _ _ ⟨rfl, rfl⟩
    refine l_assign rfl rfl ?_
    refine l_nil ?_
    refine g_ret Try.func6 rfl (.tmp rfl .nil) ?_
    exact Gives.mki ⟨rfl, rfl⟩
  · intro hbr
    have hbr := of_decide_eq_false hbr
    (exfalso; omega)
set_option maxHeartbeats 4000000 in
theorem oth_come_full (w0 : World) (F : List Atom) (bw ow n cw : Nat) (W : List Int) (hW : W.length = n) (hcw : n ≤ cw) (hr : RowAt w0 F bw ow (ints .u32 W)) (hU : U32s W) (h1 : n ≤ 16384) (h2 : 0 < n) (h3 : n % 16 = 0) (kd at_ kk x : Int) (a0 : -9223372036854775808 ≤ at_) (a1 : at_ ≤ 9223372036854775807) (k0 : -9223372036854775808 ≤ kk) (k1 : kk ≤ 9223372036854775807) (x0 : 0 ≤ x) (x1 : x ≤ 4294967295) (hk : kd = 1) (h : inR n at_ 2) (hq : 1 ≤ kk ∧ kk ≤ 4) (hf : kk ≤ W.getD at_.toNat 0) :
    CallK Try.prog 6 [.slice (some ⟨bw, ow, none⟩) n cw, .agg [Value.int .i64 kd, .int .i64 at_, .int .i64 kk, .int .u32 x].toArray] w0 (F) (Gives w0 fun v F2 => v = .bool true ∧ F2 = F) := by
  have hn : n ≤ 1073741824 := by omega
  have hlen2 : (W).length = n := hW
  refine c_enter Try.func6 rfl rfl rfl ?_
  refine g_seq ?_
  refine g_region ?_
  refine l_boxs rfl rfl ?_; intro b3
  refine l_assign rfl rfl ?_
  refine l_nil ?_
  refine g_seq ?_
  refine g_region ?_
  refine l_move rfl rfl ?_
  refine l_call rfl Try.call8 rfl (of_ok _ _ bw ow n cw W hW hcw hr.there h1 h2 h3) ?_; rintro _ _ ⟨b, g, c, rfl, hc, rfl⟩
  refine l_move rfl rfl ?_
  refine l_extract rfl rfl rfl ?_
  refine l_extract rfl rfl rfl ?_
  refine l_assign rfl rfl ?_
  refine l_assign rfl rfl ?_
  refine l_nil ?_
  refine g_seq ?_
  refine g_seq ?_
  refine g_region ?_
  refine l_move rfl rfl ?_
  refine l_neq rfl rfl rfl ?_
  refine l_move rfl rfl ?_
  refine l_split 24 rfl ?_ ?_
  · intro hbr
    have hbr := of_decide_eq_true hbr
    (exfalso; omega)
  intro hbr
  have hbr := of_decide_eq_false hbr
  refine l_guard_yes rfl rfl ?_
  refine l_move rfl rfl ?_
  refine l_guard_yes rfl rfl ?_
  refine l_eqpn rfl Try.underlying28 rfl rfl ?_
  refine l_pick_f rfl rfl rfl ?_
  refine l_nil ?_
  refine g_cond_f rfl ?_
  refine g_skip ?_
  refine g_seq ?_
  refine g_region ?_
  refine l_move rfl rfl ?_
  refine l_call rfl Try.call12 rfl (clonem_ok _ _ b g n c W hW hc hn) ?_; rintro _ _ ⟨b2, g2, c2, rfl, hc2, rfl⟩
  refine l_assign rfl rfl ?_
  refine l_nil ?_
  refine g_seq ?_
  refine g_region ?_
  refine l_assign rfl rfl ?_
  refine l_nil ?_
  refine g_seq ?_
  refine g_seq ?_
  refine g_region ?_
  refine l_fieldAddr rfl fa_37_0 rfl ?_
  first | refine l_ld rfl Try.isAgg3 rfl rfl ?_ | refine l_ldw rfl Try.isAgg3 rfl (by omega) ?_
  refine l_nil ?_
  refine g_block ?_
  refine g_seq ?_
  refine g_region ?_
  refine l_eql rfl rfl rfl ?_
  refine l_assign rfl rfl ?_
  refine l_nil ?_
  refine g_cond rfl ?_ ?_
  · intro hbr
    have hbr := of_decide_eq_true hbr
    (exfalso; omega)
  intro hbr
  have hbr := of_decide_eq_false hbr
  refine g_seq ?_
  refine g_region ?_
  refine l_eql rfl rfl rfl ?_
  refine l_assign rfl rfl ?_
  refine l_nil ?_
  refine g_cond rfl ?_ ?_
  · intro hbr
    have hbr := of_decide_eq_true hbr
    refine g_seq ?_
    refine g_region ?_
    refine l_move rfl rfl ?_
    refine l_fieldAddr rfl fa_37_1 rfl ?_
    first | refine l_ld rfl Try.isAgg3 rfl rfl ?_ | refine l_ldw rfl Try.isAgg3 rfl (by omega) ?_
    refine l_fieldAddr rfl fa_37_2 rfl ?_
    first | refine l_ld rfl Try.isAgg3 rfl rfl ?_ | refine l_ldw rfl Try.isAgg3 rfl (by omega) ?_
    refine l_fronto g ?_
    refine l_frontb b ?_
    refine l_call rfl Try.call14 rfl (come_full _ _ b g n c W hW hc hn hU _ (by omega) h _ (by omega) (by omega) hq hf) ?_; rintro _ _ ⟨rfl, rfl⟩
    refine l_move rfl rfl ?_
    refine l_extract rfl rfl rfl ?_
    refine l_extract rfl rfl rfl ?_
    refine l_assign rfl rfl ?_
    refine l_assign rfl rfl ?_
    refine l_nil ?_
    refine g_region ?_
    refine l_move rfl rfl ?_
    refine l_assign rfl rfl ?_
    refine l_nil ?_
    refine g_inBlock ?_
    refine g_seq ?_
    refine g_region ?_
    refine l_move rfl rfl ?_
    refine l_fronto g2 ?_
    refine l_frontb b2 ?_
    refine l_call rfl Try.call16 rfl (words_ok _ _ b2 g2 n c2 W hW hc2 hn) ?_; rintro _ _ ⟨qa, ca, rfl, hca, rfl⟩
    refine l_move rfl rfl ?_
    refine l_fronto g ?_
    refine l_frontb b ?_
    refine l_call rfl Try.call16 rfl (words_ok _ _ b g n c W hW hc hn) ?_; rintro _ _ ⟨qb, cb, rfl, hcb, rfl⟩
    refine l_assign rfl rfl ?_
    refine l_assign rfl rfl ?_
    refine l_nil ?_
    refine g_seq ?_
    refine g_seq ?_
    refine g_region ?_
    refine l_move rfl rfl ?_
    refine l_len rfl Try.underlying26 rfl ?_
    refine l_move rfl rfl ?_
    refine l_len rfl Try.underlying26 rfl ?_
    refine l_neq rfl rfl rfl ?_
    refine l_nil ?_
    refine g_cond rfl ?_ ?_
    · intro hbr
      have hbr := of_decide_eq_true hbr
      (exfalso; omega)
    intro hbr
    have hbr := of_decide_eq_false hbr
    refine g_skip ?_
    refine g_seq ?_
    refine g_region ?_
    refine l_assign rfl rfl ?_
    refine l_nil ?_
    refine g_seq ?_
    refine g_seq ?_
    refine g_region ?_
    refine l_assign rfl rfl ?_
    refine l_nil ?_
    refine g_block ?_
    refine g_loop (X := Int × Int) (fun z => 0 ≤ z.1 ∧ z.1 ≤ n ∧ 0 ≤ z.2 ∧ z.2 ≤ z.1) (fun z => (n - z.1).toNat) (fun z => [(3, .pointer (some ⟨b3, 0, none⟩)), (8, .int .i64 181), (13, .slice (some ⟨qa, 0, none⟩) n ca), (14, .slice (some ⟨qb, 0, none⟩) n cb), (15, .int .i64 z.2), (16, .int .i64 z.1)]) (fun z => Own 23 1 (.slice (some ⟨qa, 0, none⟩) n ca) n (ints .u32 W) :: Own 23 1 (.slice (some ⟨qb, 0, none⟩) n cb) n (ints .u32 W) :: Blk b3 (.cells [Value.int .i64 kd, .int .i64 at_, .int .i64 kk, .int .u32 x].toArray 37 (0, 0)) :: F) (0, 0) ⟨by simp only; omega, by simp only; omega, by simp only; omega, by simp only; omega⟩ (.cons rfl (.cons rfl (.cons rfl (.cons rfl (.cons rfl (.cons rfl .nil)))))) (fun w hw => SPI.holds hw) ?_
    clear hr
    rintro ⟨i, q⟩ ⟨i0, i1, q0, q1⟩ ih
    dsimp only
    simp only at i0 i1 q0 q1
    refine g_seq ?_
    refine g_seq ?_
    refine g_region ?_
    refine l_move rfl rfl ?_
    refine l_move rfl rfl ?_
    refine l_len rfl Try.underlying26 rfl ?_
    refine l_lss rfl rfl rfl ?_
    refine l_nil ?_
    refine g_cond rfl ?_ ?_
    · intro hbr
      have hbr := of_decide_eq_true hbr
      refine g_skip ?_
      refine g_seq ?_
      refine g_block ?_
      refine g_seq ?_
      refine g_seq ?_
      refine gp_start mo (by kernel_rfl) (by kernel_rfl) ?_
      refine gp_quiet 0 rfl rfl rfl rfl rfl rfl (q_move rfl) ?_
      refine gp_quiet 1 rfl rfl rfl rfl rfl rfl (q_move rfl) ?_
      refine gp_quiet 2 rfl rfl rfl rfl rfl rfl (q_ixs Try.underlying26 Try.sizeOf23 rfl rfl (by omega) (by omega)) ?_
      refine gp_quiet 3 rfl rfl rfl rfl rfl rfl (q_ldw Try.isAgg23 rfl (by first | omega | (simp only [List.length_set]; omega))) ?_
      refine gp_quiet 4 rfl rfl rfl rfl rfl rfl (q_move rfl) ?_
      refine gp_quiet 5 rfl rfl rfl rfl rfl rfl (q_move rfl) ?_
      refine gp_quiet 6 rfl rfl rfl rfl rfl rfl (q_ixs Try.underlying26 Try.sizeOf23 rfl rfl (by omega) (by omega)) ?_
      refine gp_quiet 7 rfl rfl rfl rfl rfl rfl (q_ldw Try.isAgg23 rfl (by first | omega | (simp only [List.length_set]; omega))) ?_
      refine gp_quiet 8 rfl rfl rfl rfl rfl rfl (q_eql rfl rfl) ?_
      refine gp_end rfl rfl ?_
      refine g_cond rfl ?_ ?_
      · intro hbr
        have hbr := of_decide_eq_true hbr
        refine g_exit rfl ?_
        refine g_region ?_
        refine l_move rfl rfl ?_
        first | refine l_add rfl rfl rfl (w_i64 (by omega) (by omega)) ?_ | refine l_addw rfl rfl rfl ?_
        refine l_assign rfl rfl ?_
        refine l_nil ?_
        (first | exact g_againi (ih (i + 1, q + 1) ⟨by simp only; omega, by simp only; omega, by simp only; omega, by simp only; omega⟩ (by simp only; omega)) (.cons rfl (.cons rfl (.cons rfl (.cons rfl (.cons rfl (.cons rfl .nil)))))) | exact g_againi (ih (i + 1, q) ⟨by simp only; omega, by simp only; omega, by simp only; omega, by simp only; omega⟩ (by simp only; omega)) (.cons rfl (.cons rfl (.cons rfl (.cons rfl (.cons rfl (.cons rfl .nil)))))))
      · intro hbr
        have hbr := of_decide_eq_false hbr
        (exfalso; omega)
    intro hbr
    have hbr := of_decide_eq_false hbr
    refine g_exit rfl ?_
    refine g_seq ?_
    refine g_seq ?_
    refine g_region ?_
    refine l_move rfl rfl ?_
    refine l_eql rfl rfl rfl ?_
    refine l_move rfl rfl ?_
    refine l_split 109 rfl ?_ ?_
    · intro hbr
      have hbr := of_decide_eq_true hbr
      (exfalso; omega)
    intro hbr
    have hbr := of_decide_eq_false hbr
    refine l_guard_no rfl rfl rfl ?_
    refine l_guard_no rfl rfl rfl ?_
    refine l_guard_no rfl rfl rfl ?_
    refine l_pick_f rfl rfl rfl ?_
    refine l_move rfl rfl ?_
    refine l_guard_no rfl rfl rfl ?_
    refine l_guard_no rfl rfl rfl ?_
    refine l_pick_f rfl rfl rfl ?_
    refine l_nil ?_
    refine g_cond_f rfl ?_
    refine g_skip ?_
    refine g_seq ?_
    refine g_region ?_
    refine l_call rfl Try.call7 rfl (meets_ok _ _ _ _ _ (by omega) (by omega) (by omega)) ?_; rintro _ _ ⟨rfl, rfl⟩
    refine l_assign rfl rfl ?_
    refine l_nil ?_
    refine g_ret Try.func6 rfl (.tmp rfl .nil) ?_
    exact Gives.mki ⟨rfl, rfl⟩
  · intro hbr
    have hbr := of_decide_eq_false hbr
    (exfalso; omega)
set_option maxHeartbeats 4000000 in
theorem oth_come_ok (w0 : World) (F : List Atom) (bw ow n cw : Nat) (W : List Int) (hW : W.length = n) (hcw : n ≤ cw) (hr : RowAt w0 F bw ow (ints .u32 W)) (hU : U32s W) (h1 : n ≤ 16384) (h2 : 0 < n) (h3 : n % 16 = 0) (kd at_ kk x : Int) (a0 : -9223372036854775808 ≤ at_) (a1 : at_ ≤ 9223372036854775807) (k0 : -9223372036854775808 ≤ kk) (k1 : kk ≤ 9223372036854775807) (x0 : 0 ≤ x) (x1 : x ≤ 4294967295) (hk : kd = 1) (h : inR n at_ 2) (hq : 1 ≤ kk ∧ kk ≤ 4) (hf : ¬ kk ≤ W.getD at_.toNat 0) :
    CallK Try.prog 6 [.slice (some ⟨bw, ow, none⟩) n cw, .agg [Value.int .i64 kd, .int .i64 at_, .int .i64 kk, .int .u32 x].toArray] w0 (F) (Gives w0 fun v F2 => v = .bool true ∧ F2 = F) := by
  have hn : n ≤ 1073741824 := by omega
  obtain ⟨h0, _, h4, h5⟩ := (show 0 ≤ at_ ∧ (0:Int) ≤ 2 ∧ at_ ≤ n ∧ (2:Int) ≤ n - at_ from h)
  obtain ⟨u0, u1⟩ := hU at_.toNat
  obtain ⟨u2, u3⟩ := hU (at_.toNat + 1)
  have hlen2 : ((W.set at_.toNat (W.getD at_.toNat 0 + 1))).length = n := (by simpa using hW)
  have hd : ∀ j : Nat, W.getD j 0 ≠ ((W.set at_.toNat (W.getD at_.toNat 0 + 1))).getD j 0 → (j : Int) = at_ ∨ (j : Int) = at_ + 1 := by
    intro j hj
    (first | exact set_other hj (by omega) | exact set_other2 hj (by omega))
  have hp : ∀ j : Nat, (j : Int) = at_ → W.getD j 0 ≠ ((W.set at_.toNat (W.getD at_.toNat 0 + 1))).getD j 0 := by
    intro j hj
    obtain rfl : j = (at_).toNat := by omega
    (first | (rw [getD_set1 (by omega)]; omega) | (rw [show (at_ + 1).toNat = at_.toNat + 1 by omega, getD_set1 (by simp; omega)]; omega))
  refine c_enter Try.func6 rfl rfl rfl ?_
  refine g_seq ?_
  refine g_region ?_
  refine l_boxs rfl rfl ?_; intro b3
  refine l_assign rfl rfl ?_
  refine l_nil ?_
  refine g_seq ?_
  refine g_region ?_
  refine l_move rfl rfl ?_
  refine l_call rfl Try.call8 rfl (of_ok _ _ bw ow n cw W hW hcw hr.there h1 h2 h3) ?_; rintro _ _ ⟨b, g, c, rfl, hc, rfl⟩
  refine l_move rfl rfl ?_
  refine l_extract rfl rfl rfl ?_
  refine l_extract rfl rfl rfl ?_
  refine l_assign rfl rfl ?_
  refine l_assign rfl rfl ?_
  refine l_nil ?_
  refine g_seq ?_
  refine g_seq ?_
  refine g_region ?_
  refine l_move rfl rfl ?_
  refine l_neq rfl rfl rfl ?_
  refine l_move rfl rfl ?_
  refine l_split 24 rfl ?_ ?_
  · intro hbr
    have hbr := of_decide_eq_true hbr
    (exfalso; omega)
  intro hbr
  have hbr := of_decide_eq_false hbr
  refine l_guard_yes rfl rfl ?_
  refine l_move rfl rfl ?_
  refine l_guard_yes rfl rfl ?_
  refine l_eqpn rfl Try.underlying28 rfl rfl ?_
  refine l_pick_f rfl rfl rfl ?_
  refine l_nil ?_
  refine g_cond_f rfl ?_
  refine g_skip ?_
  refine g_seq ?_
  refine g_region ?_
  refine l_move rfl rfl ?_
  refine l_call rfl Try.call12 rfl (clonem_ok _ _ b g n c W hW hc hn) ?_; rintro _ _ ⟨b2, g2, c2, rfl, hc2, rfl⟩
  refine l_assign rfl rfl ?_
  refine l_nil ?_
  refine g_seq ?_
  refine g_region ?_
  refine l_assign rfl rfl ?_
  refine l_nil ?_
  refine g_seq ?_
  refine g_seq ?_
  refine g_region ?_
  refine l_fieldAddr rfl fa_37_0 rfl ?_
  first | refine l_ld rfl Try.isAgg3 rfl rfl ?_ | refine l_ldw rfl Try.isAgg3 rfl (by omega) ?_
  refine l_nil ?_
  refine g_block ?_
  refine g_seq ?_
  refine g_region ?_
  refine l_eql rfl rfl rfl ?_
  refine l_assign rfl rfl ?_
  refine l_nil ?_
  refine g_cond rfl ?_ ?_
  · intro hbr
    have hbr := of_decide_eq_true hbr
    (exfalso; omega)
  intro hbr
  have hbr := of_decide_eq_false hbr
  refine g_seq ?_
  refine g_region ?_
  refine l_eql rfl rfl rfl ?_
  refine l_assign rfl rfl ?_
  refine l_nil ?_
  refine g_cond rfl ?_ ?_
  · intro hbr
    have hbr := of_decide_eq_true hbr
    refine g_seq ?_
    refine g_region ?_
    refine l_move rfl rfl ?_
    refine l_fieldAddr rfl fa_37_1 rfl ?_
    first | refine l_ld rfl Try.isAgg3 rfl rfl ?_ | refine l_ldw rfl Try.isAgg3 rfl (by omega) ?_
    refine l_fieldAddr rfl fa_37_2 rfl ?_
    first | refine l_ld rfl Try.isAgg3 rfl rfl ?_ | refine l_ldw rfl Try.isAgg3 rfl (by omega) ?_
    refine l_fronto g ?_
    refine l_frontb b ?_
    refine l_call rfl Try.call14 rfl (come_ok _ _ b g n c W hW hc hn hU _ (by omega) h _ (by omega) (by omega) hq hf) ?_; rintro _ _ ⟨rfl, rfl⟩
    refine l_move rfl rfl ?_
    refine l_extract rfl rfl rfl ?_
    refine l_extract rfl rfl rfl ?_
    refine l_assign rfl rfl ?_
    refine l_assign rfl rfl ?_
    refine l_nil ?_
    refine g_region ?_
    refine l_move rfl rfl ?_
    refine l_assign rfl rfl ?_
    refine l_nil ?_
    refine g_inBlock ?_
    refine g_seq ?_
    refine g_region ?_
    refine l_move rfl rfl ?_
    refine l_fronto g2 ?_
    refine l_frontb b2 ?_
    refine l_call rfl Try.call16 rfl (words_ok _ _ b2 g2 n c2 W hW hc2 hn) ?_; rintro _ _ ⟨qa, ca, rfl, hca, rfl⟩
    refine l_move rfl rfl ?_
    refine l_fronto g ?_
    refine l_frontb b ?_
    refine l_call rfl Try.call16 rfl (words_ok _ _ b g n c (W.set at_.toNat (W.getD at_.toNat 0 + 1)) (by simpa using hW) hc hn) ?_; rintro _ _ ⟨qb, cb, rfl, hcb, rfl⟩
    refine l_assign rfl rfl ?_
    refine l_assign rfl rfl ?_
    refine l_nil ?_
    refine g_seq ?_
    refine g_seq ?_
    refine g_region ?_
    refine l_move rfl rfl ?_
    refine l_len rfl Try.underlying26 rfl ?_
    refine l_move rfl rfl ?_
    refine l_len rfl Try.underlying26 rfl ?_
    refine l_neq rfl rfl rfl ?_
    refine l_nil ?_
    refine g_cond rfl ?_ ?_
    · intro hbr
      have hbr := of_decide_eq_true hbr
      (exfalso; omega)
    intro hbr
    have hbr := of_decide_eq_false hbr
    refine g_skip ?_
    refine g_seq ?_
    refine g_region ?_
    refine l_assign rfl rfl ?_
    refine l_nil ?_
    refine g_seq ?_
    refine g_seq ?_
    refine g_region ?_
    refine l_assign rfl rfl ?_
    refine l_nil ?_
    refine g_block ?_
    refine g_loop (X := Int × Int) (fun z => 0 ≤ z.1 ∧ z.1 ≤ n ∧ 0 ≤ z.2 ∧ z.2 ≤ z.1 ∧ (at_ < z.1 → 1 ≤ z.2)) (fun z => (n - z.1).toNat) (fun z => [(3, .pointer (some ⟨b3, 0, none⟩)), (8, .int .i64 0), (13, .slice (some ⟨qa, 0, none⟩) n ca), (14, .slice (some ⟨qb, 0, none⟩) n cb), (15, .int .i64 z.2), (16, .int .i64 z.1)]) (fun z => Own 23 1 (.slice (some ⟨qa, 0, none⟩) n ca) n (ints .u32 W) :: Own 23 1 (.slice (some ⟨qb, 0, none⟩) n cb) n (ints .u32 (W.set at_.toNat (W.getD at_.toNat 0 + 1))) :: Blk b3 (.cells [Value.int .i64 kd, .int .i64 at_, .int .i64 kk, .int .u32 x].toArray 37 (0, 0)) :: F) (0, 0) ⟨by simp only; omega, by simp only; omega, by simp only; omega, by simp only; omega, by simp only; omega⟩ (.cons rfl (.cons rfl (.cons rfl (.cons rfl (.cons rfl (.cons rfl .nil)))))) (fun w hw => SPI.holds hw) ?_
    clear hr
    rintro ⟨i, q⟩ ⟨i0, i1, q0, q1, q2⟩ ih
    dsimp only
    simp only at i0 i1 q0 q1 q2
    have hdi := hd i.toNat
    have hpi := hp i.toNat
    refine g_seq ?_
    refine g_seq ?_
    refine g_region ?_
    refine l_move rfl rfl ?_
    refine l_move rfl rfl ?_
    refine l_len rfl Try.underlying26 rfl ?_
    refine l_lss rfl rfl rfl ?_
    refine l_nil ?_
    refine g_cond rfl ?_ ?_
    · intro hbr
      have hbr := of_decide_eq_true hbr
      refine g_skip ?_
      refine g_seq ?_
      refine g_block ?_
      refine g_seq ?_
      refine g_seq ?_
      refine gp_start mo (by kernel_rfl) (by kernel_rfl) ?_
      refine gp_quiet 0 rfl rfl rfl rfl rfl rfl (q_move rfl) ?_
      refine gp_quiet 1 rfl rfl rfl rfl rfl rfl (q_move rfl) ?_
      refine gp_quiet 2 rfl rfl rfl rfl rfl rfl (q_ixs Try.underlying26 Try.sizeOf23 rfl rfl (by omega) (by omega)) ?_
      refine gp_quiet 3 rfl rfl rfl rfl rfl rfl (q_ldw Try.isAgg23 rfl (by first | omega | (simp only [List.length_set]; omega))) ?_
      refine gp_quiet 4 rfl rfl rfl rfl rfl rfl (q_move rfl) ?_
      refine gp_quiet 5 rfl rfl rfl rfl rfl rfl (q_move rfl) ?_
      refine gp_quiet 6 rfl rfl rfl rfl rfl rfl (q_ixs Try.underlying26 Try.sizeOf23 rfl rfl (by omega) (by omega)) ?_
      refine gp_quiet 7 rfl rfl rfl rfl rfl rfl (q_ldw Try.isAgg23 rfl (by first | omega | (simp only [List.length_set]; omega))) ?_
      refine gp_quiet 8 rfl rfl rfl rfl rfl rfl (q_eql rfl rfl) ?_
      refine gp_end rfl rfl ?_
      refine g_cond rfl ?_ ?_
      · intro hbr
        have hbr := of_decide_eq_true hbr
        refine g_exit rfl ?_
        refine g_region ?_
        refine l_move rfl rfl ?_
        first | refine l_add rfl rfl rfl (w_i64 (by omega) (by omega)) ?_ | refine l_addw rfl rfl rfl ?_
        refine l_assign rfl rfl ?_
        refine l_nil ?_
        (first | exact g_againi (ih (i + 1, q + 1) ⟨by simp only; omega, by simp only; omega, by simp only; omega, by simp only; omega, by simp only; omega⟩ (by simp only; omega)) (.cons rfl (.cons rfl (.cons rfl (.cons rfl (.cons rfl (.cons rfl .nil)))))) | exact g_againi (ih (i + 1, q) ⟨by simp only; omega, by simp only; omega, by simp only; omega, by simp only; omega, by simp only; omega⟩ (by simp only; omega)) (.cons rfl (.cons rfl (.cons rfl (.cons rfl (.cons rfl (.cons rfl .nil)))))))
      intro hbr
      have hbr := of_decide_eq_false hbr
      refine g_skip ?_
      refine g_seq ?_
      refine g_seq ?_
      refine g_region ?_
      refine l_move rfl rfl ?_
      refine l_neq rfl rfl rfl ?_
      refine l_move rfl rfl ?_
      refine l_split 87 rfl ?_ ?_
      · intro hbr
        have hbr := of_decide_eq_true hbr
        (exfalso; omega)
      intro hbr
      have hbr := of_decide_eq_false hbr
      refine l_guard_yes rfl rfl ?_
      refine l_fieldAddr rfl fa_37_0 rfl ?_
      refine l_guard_yes rfl rfl ?_
      first | refine l_ld rfl Try.isAgg3 rfl rfl ?_ | refine l_ldw rfl Try.isAgg3 rfl (by omega) ?_
      refine l_guard_yes rfl rfl ?_
      refine l_eql rfl rfl rfl ?_
      refine l_pick_f rfl rfl rfl ?_
      refine l_move rfl rfl ?_
      refine l_split 92 rfl ?_ ?_
      · intro hbr
        have hbr := of_decide_eq_true hbr
        (exfalso; omega)
      intro hbr
      have hbr := of_decide_eq_false hbr
      refine l_guard_yes rfl rfl ?_
      refine l_move rfl rfl ?_
      refine l_guard_yes rfl rfl ?_
      refine l_fieldAddr rfl fa_37_1 rfl ?_
      refine l_guard_yes rfl rfl ?_
      first | refine l_ld rfl Try.isAgg3 rfl rfl ?_ | refine l_ldw rfl Try.isAgg3 rfl (by omega) ?_
      refine l_guard_yes rfl rfl ?_
      refine l_neq rfl rfl rfl ?_
      refine l_guard_yes rfl rfl ?_
      refine l_move rfl rfl ?_
      refine l_split 97 rfl ?_ ?_
      · intro hbr
        have hbr := of_decide_eq_true hbr
        refine l_guard_yes rfl rfl ?_
        refine l_move rfl rfl ?_
        refine l_guard_yes rfl rfl ?_
        refine l_fieldAddr rfl fa_37_1 rfl ?_
        refine l_guard_yes rfl rfl ?_
        first | refine l_ld rfl Try.isAgg3 rfl rfl ?_ | refine l_ldw rfl Try.isAgg3 rfl (by omega) ?_
        refine l_guard_yes rfl rfl ?_
        first | refine l_add rfl rfl rfl (w_i64 (by omega) (by omega)) ?_ | refine l_addw rfl rfl rfl ?_
        refine l_guard_yes rfl rfl ?_
        refine l_neq rfl rfl rfl ?_
        refine l_guard_yes rfl rfl ?_
        refine l_pick_t rfl rfl rfl ?_
        refine l_pick_f rfl rfl rfl ?_
        refine l_nil ?_
        refine g_cond rfl ?_ ?_
        · intro hbr
          have hbr := of_decide_eq_true hbr
          (exfalso; omega)
        intro hbr
        have hbr := of_decide_eq_false hbr
        refine g_skip ?_
        refine g_region ?_
        refine l_move rfl rfl ?_
        first | refine l_add rfl rfl rfl (w_i64 (by omega) (by omega)) ?_ | refine l_addw rfl rfl rfl ?_
        refine l_assign rfl rfl ?_
        refine l_nil ?_
        refine g_inBlock ?_
        refine g_region ?_
        refine l_move rfl rfl ?_
        first | refine l_add rfl rfl rfl (w_i64 (by omega) (by omega)) ?_ | refine l_addw rfl rfl rfl ?_
        refine l_assign rfl rfl ?_
        refine l_nil ?_
        (first | exact g_againi (ih (i + 1, q + 1) ⟨by simp only; omega, by simp only; omega, by simp only; omega, by simp only; omega, by simp only; omega⟩ (by simp only; omega)) (.cons rfl (.cons rfl (.cons rfl (.cons rfl (.cons rfl (.cons rfl .nil)))))) | exact g_againi (ih (i + 1, q) ⟨by simp only; omega, by simp only; omega, by simp only; omega, by simp only; omega, by simp only; omega⟩ (by simp only; omega)) (.cons rfl (.cons rfl (.cons rfl (.cons rfl (.cons rfl (.cons rfl .nil)))))))
      intro hbr
      have hbr := of_decide_eq_false hbr
      refine l_guard_no rfl rfl rfl ?_
      refine l_guard_no rfl rfl rfl ?_
      refine l_guard_no rfl rfl rfl ?_
      refine l_guard_no rfl rfl rfl ?_
      refine l_guard_no rfl rfl rfl ?_
      refine l_guard_yes rfl rfl ?_
      refine l_pick_f rfl rfl rfl ?_
      refine l_pick_f rfl rfl rfl ?_
      refine l_nil ?_
      refine g_cond_f rfl ?_
      refine g_skip ?_
      refine g_region ?_
      refine l_move rfl rfl ?_
      first | refine l_add rfl rfl rfl (w_i64 (by omega) (by omega)) ?_ | refine l_addw rfl rfl rfl ?_
      refine l_assign rfl rfl ?_
      refine l_nil ?_
      refine g_inBlock ?_
      refine g_region ?_
      refine l_move rfl rfl ?_
      first | refine l_add rfl rfl rfl (w_i64 (by omega) (by omega)) ?_ | refine l_addw rfl rfl rfl ?_
      refine l_assign rfl rfl ?_
      refine l_nil ?_
      (first | exact g_againi (ih (i + 1, q + 1) ⟨by simp only; omega, by simp only; omega, by simp only; omega, by simp only; omega, by simp only; omega⟩ (by simp only; omega)) (.cons rfl (.cons rfl (.cons rfl (.cons rfl (.cons rfl (.cons rfl .nil)))))) | exact g_againi (ih (i + 1, q) ⟨by simp only; omega, by simp only; omega, by simp only; omega, by simp only; omega, by simp only; omega⟩ (by simp only; omega)) (.cons rfl (.cons rfl (.cons rfl (.cons rfl (.cons rfl (.cons rfl .nil)))))))
    intro hbr
    have hbr := of_decide_eq_false hbr
    refine g_exit rfl ?_
    refine g_seq ?_
    refine g_seq ?_
    refine g_region ?_
    refine l_move rfl rfl ?_
    refine l_eql rfl rfl rfl ?_
    refine l_move rfl rfl ?_
    refine l_split 109 rfl ?_ ?_
    · intro hbr
      have hbr := of_decide_eq_true hbr
      refine l_guard_yes rfl rfl ?_
      refine l_fieldAddr rfl fa_37_0 rfl ?_
      refine l_guard_yes rfl rfl ?_
      first | refine l_ld rfl Try.isAgg3 rfl rfl ?_ | refine l_ldw rfl Try.isAgg3 rfl (by omega) ?_
      refine l_guard_yes rfl rfl ?_
      refine l_neq rfl rfl rfl ?_
      refine l_pick_t rfl rfl rfl ?_
      refine l_move rfl rfl ?_
      refine l_split 114 rfl ?_ ?_
      · intro hbr
        have hbr := of_decide_eq_true hbr
        refine l_guard_yes rfl rfl ?_
        refine l_move rfl rfl ?_
        refine l_guard_yes rfl rfl ?_
        refine l_eql rfl rfl rfl ?_
        refine l_pick_t rfl rfl rfl ?_
        refine l_nil ?_
        refine g_cond rfl ?_ ?_
        · intro hbr
          have hbr := of_decide_eq_true hbr
          (exfalso; omega)
        intro hbr
        have hbr := of_decide_eq_false hbr
        refine g_skip ?_
        refine g_seq ?_
        refine g_region ?_
        refine l_call rfl Try.call7 rfl (meets_ok _ _ _ _ _ (by omega) (by omega) (by omega)) ?_; rintro _ _ ⟨rfl, rfl⟩
        refine l_assign rfl rfl ?_
        refine l_nil ?_
        refine g_ret Try.func6 rfl (.tmp rfl .nil) ?_
        exact Gives.mki ⟨rfl, rfl⟩
      · intro hbr
        have hbr := of_decide_eq_false hbr
        (exfalso; omega)
    · intro hbr
      have hbr := of_decide_eq_false hbr
      (exfalso; omega)
  · intro hbr
    have hbr := of_decide_eq_false hbr
    (exfalso; omega)
set_option maxHeartbeats 4000000 in
theorem oth_open_out (w0 : World) (F : List Atom) (bw ow n cw : Nat) (W : List Int) (hW : W.length = n) (hcw : n ≤ cw) (hr : RowAt w0 F bw ow (ints .u32 W)) (hU : U32s W) (h1 : n ≤ 16384) (h2 : 0 < n) (h3 : n % 16 = 0) (kd at_ kk x : Int) (a0 : -9223372036854775808 ≤ at_) (a1 : at_ ≤ 9223372036854775807) (k0 : -9223372036854775808 ≤ kk) (k1 : kk ≤ 9223372036854775807) (x0 : 0 ≤ x) (x1 : x ≤ 4294967295) (hk : kd ≠ 0 ∧ kd ≠ 1) (h : ¬ inR n at_ 2) :
    CallK Try.prog 6 [.slice (some ⟨bw, ow, none⟩) n cw, .agg [Value.int .i64 kd, .int .i64 at_, .int .i64 kk, .int .u32 x].toArray] w0 (F) (Gives w0 fun v F2 => v = .bool true ∧ F2 = F) := by
  have hn : n ≤ 1073741824 := by omega
  have hlen2 : (W).length = n := hW
  refine c_enter Try.func6 rfl rfl rfl ?_
  refine g_seq ?_
  refine g_region ?_
  refine l_boxs rfl rfl ?_; intro b3
  refine l_assign rfl rfl ?_
  refine l_nil ?_
  refine g_seq ?_
  refine g_region ?_
  refine l_move rfl rfl ?_
  refine l_call rfl Try.call8 rfl (of_ok _ _ bw ow n cw W hW hcw hr.there h1 h2 h3) ?_; rintro _ _ ⟨b, g, c, rfl, hc, rfl⟩
  refine l_move rfl rfl ?_
  refine l_extract rfl rfl rfl ?_
  refine l_extract rfl rfl rfl ?_
  refine l_assign rfl rfl ?_
  refine l_assign rfl rfl ?_
  refine l_nil ?_
  refine g_seq ?_
  refine g_seq ?_
  refine g_region ?_
  refine l_move rfl rfl ?_
  refine l_neq rfl rfl rfl ?_
  refine l_move rfl rfl ?_
  refine l_split 24 rfl ?_ ?_
  · intro hbr
    have hbr := of_decide_eq_true hbr
    (exfalso; omega)
  intro hbr
  have hbr := of_decide_eq_false hbr
  refine l_guard_yes rfl rfl ?_
  refine l_move rfl rfl ?_
  refine l_guard_yes rfl rfl ?_
  refine l_eqpn rfl Try.underlying28 rfl rfl ?_
  refine l_pick_f rfl rfl rfl ?_
  refine l_nil ?_
  refine g_cond_f rfl ?_
  refine g_skip ?_
  refine g_seq ?_
  refine g_region ?_
  refine l_move rfl rfl ?_
  refine l_call rfl Try.call12 rfl (clonem_ok _ _ b g n c W hW hc hn) ?_; rintro _ _ ⟨b2, g2, c2, rfl, hc2, rfl⟩
  refine l_assign rfl rfl ?_
  refine l_nil ?_
  refine g_seq ?_
  refine g_region ?_
  refine l_assign rfl rfl ?_
  refine l_nil ?_
  refine g_seq ?_
  refine g_seq ?_
  refine g_region ?_
  refine l_fieldAddr rfl fa_37_0 rfl ?_
  first | refine l_ld rfl Try.isAgg3 rfl rfl ?_ | refine l_ldw rfl Try.isAgg3 rfl (by omega) ?_
  refine l_nil ?_
  refine g_block ?_
  refine g_seq ?_
  refine g_region ?_
  refine l_eql rfl rfl rfl ?_
  refine l_assign rfl rfl ?_
  refine l_nil ?_
  refine g_cond rfl ?_ ?_
  · intro hbr
    have hbr := of_decide_eq_true hbr
    (exfalso; omega)
  intro hbr
  have hbr := of_decide_eq_false hbr
  refine g_seq ?_
  refine g_region ?_
  refine l_eql rfl rfl rfl ?_
  refine l_assign rfl rfl ?_
  refine l_nil ?_
  refine g_cond rfl ?_ ?_
  · intro hbr
    have hbr := of_decide_eq_true hbr
    (exfalso; omega)
  intro hbr
  have hbr := of_decide_eq_false hbr
  refine g_region ?_
  refine l_move rfl rfl ?_
  refine l_fieldAddr rfl fa_37_1 rfl ?_
  first | refine l_ld rfl Try.isAgg3 rfl rfl ?_ | refine l_ldw rfl Try.isAgg3 rfl (by omega) ?_
  refine l_fieldAddr rfl fa_37_2 rfl ?_
  first | refine l_ld rfl Try.isAgg3 rfl rfl ?_ | refine l_ldw rfl Try.isAgg3 rfl (by omega) ?_
  refine l_fronto g ?_
  refine l_frontb b ?_
  refine l_call rfl Try.call15 rfl (open_out _ _ b g n c W hW hc hn _ (by omega) (by omega) h _ (by omega) (by omega)) ?_; rintro _ _ ⟨rfl, rfl⟩
  refine l_assign rfl rfl ?_
  refine l_nil ?_
  refine g_inBlock ?_
  refine g_seq ?_
  refine g_region ?_
  refine l_move rfl rfl ?_
  refine l_fronto g2 ?_
  refine l_frontb b2 ?_
  refine l_call rfl Try.call16 rfl (words_ok _ _ b2 g2 n c2 W hW hc2 hn) ?_; rintro _ _ ⟨qa, ca, rfl, hca, rfl⟩
  refine l_move rfl rfl ?_
  refine l_fronto g ?_
  refine l_frontb b ?_
  refine l_call rfl Try.call16 rfl (words_ok _ _ b g n c W hW hc hn) ?_; rintro _ _ ⟨qb, cb, rfl, hcb, rfl⟩
  refine l_assign rfl rfl ?_
  refine l_assign rfl rfl ?_
  refine l_nil ?_
  refine g_seq ?_
  refine g_seq ?_
  refine g_region ?_
  refine l_move rfl rfl ?_
  refine l_len rfl Try.underlying26 rfl ?_
  refine l_move rfl rfl ?_
  refine l_len rfl Try.underlying26 rfl ?_
  refine l_neq rfl rfl rfl ?_
  refine l_nil ?_
  refine g_cond rfl ?_ ?_
  · intro hbr
    have hbr := of_decide_eq_true hbr
    (exfalso; omega)
  intro hbr
  have hbr := of_decide_eq_false hbr
  refine g_skip ?_
  refine g_seq ?_
  refine g_region ?_
  refine l_assign rfl rfl ?_
  refine l_nil ?_
  refine g_seq ?_
  refine g_seq ?_
  refine g_region ?_
  refine l_assign rfl rfl ?_
  refine l_nil ?_
  refine g_block ?_
  refine g_loop (X := Int × Int) (fun z => 0 ≤ z.1 ∧ z.1 ≤ n ∧ 0 ≤ z.2 ∧ z.2 ≤ z.1) (fun z => (n - z.1).toNat) (fun z => [(3, .pointer (some ⟨b3, 0, none⟩)), (8, .int .i64 51), (13, .slice (some ⟨qa, 0, none⟩) n ca), (14, .slice (some ⟨qb, 0, none⟩) n cb), (15, .int .i64 z.2), (16, .int .i64 z.1)]) (fun z => Own 23 1 (.slice (some ⟨qa, 0, none⟩) n ca) n (ints .u32 W) :: Own 23 1 (.slice (some ⟨qb, 0, none⟩) n cb) n (ints .u32 W) :: Blk b3 (.cells [Value.int .i64 kd, .int .i64 at_, .int .i64 kk, .int .u32 x].toArray 37 (0, 0)) :: F) (0, 0) ⟨by simp only; omega, by simp only; omega, by simp only; omega, by simp only; omega⟩ (.cons rfl (.cons rfl (.cons rfl (.cons rfl (.cons rfl (.cons rfl .nil)))))) (fun w hw => SPI.holds hw) ?_
  clear hr
  rintro ⟨i, q⟩ ⟨i0, i1, q0, q1⟩ ih
  dsimp only
  simp only at i0 i1 q0 q1
  refine g_seq ?_
  refine g_seq ?_
  refine g_region ?_
  refine l_move rfl rfl ?_
  refine l_move rfl rfl ?_
  refine l_len rfl Try.underlying26 rfl ?_
  refine l_lss rfl rfl rfl ?_
  refine l_nil ?_
  refine g_cond rfl ?_ ?_
  · intro hbr
    have hbr := of_decide_eq_true hbr
    refine g_skip ?_
    refine g_seq ?_
    refine g_block ?_
    refine g_seq ?_
    refine g_seq ?_
    refine gp_start mo (by kernel_rfl) (by kernel_rfl) ?_
    refine gp_quiet 0 rfl rfl rfl rfl rfl rfl (q_move rfl) ?_
    refine gp_quiet 1 rfl rfl rfl rfl rfl rfl (q_move rfl) ?_
    refine gp_quiet 2 rfl rfl rfl rfl rfl rfl (q_ixs Try.underlying26 Try.sizeOf23 rfl rfl (by omega) (by omega)) ?_
    refine gp_quiet 3 rfl rfl rfl rfl rfl rfl (q_ldw Try.isAgg23 rfl (by first | omega | (simp only [List.length_set]; omega))) ?_
    refine gp_quiet 4 rfl rfl rfl rfl rfl rfl (q_move rfl) ?_
    refine gp_quiet 5 rfl rfl rfl rfl rfl rfl (q_move rfl) ?_
    refine gp_quiet 6 rfl rfl rfl rfl rfl rfl (q_ixs Try.underlying26 Try.sizeOf23 rfl rfl (by omega) (by omega)) ?_
    refine gp_quiet 7 rfl rfl rfl rfl rfl rfl (q_ldw Try.isAgg23 rfl (by first | omega | (simp only [List.length_set]; omega))) ?_
    refine gp_quiet 8 rfl rfl rfl rfl rfl rfl (q_eql rfl rfl) ?_
    refine gp_end rfl rfl ?_
    refine g_cond rfl ?_ ?_
    · intro hbr
      have hbr := of_decide_eq_true hbr
      refine g_exit rfl ?_
      refine g_region ?_
      refine l_move rfl rfl ?_
      first | refine l_add rfl rfl rfl (w_i64 (by omega) (by omega)) ?_ | refine l_addw rfl rfl rfl ?_
      refine l_assign rfl rfl ?_
      refine l_nil ?_
      (first | exact g_againi (ih (i + 1, q + 1) ⟨by simp only; omega, by simp only; omega, by simp only; omega, by simp only; omega⟩ (by simp only; omega)) (.cons rfl (.cons rfl (.cons rfl (.cons rfl (.cons rfl (.cons rfl .nil)))))) | exact g_againi (ih (i + 1, q) ⟨by simp only; omega, by simp only; omega, by simp only; omega, by simp only; omega⟩ (by simp only; omega)) (.cons rfl (.cons rfl (.cons rfl (.cons rfl (.cons rfl (.cons rfl .nil)))))))
    · intro hbr
      have hbr := of_decide_eq_false hbr
      (exfalso; omega)
  intro hbr
  have hbr := of_decide_eq_false hbr
  refine g_exit rfl ?_
  refine g_seq ?_
  refine g_seq ?_
  refine g_region ?_
  refine l_move rfl rfl ?_
  refine l_eql rfl rfl rfl ?_
  refine l_move rfl rfl ?_
  refine l_split 109 rfl ?_ ?_
  · intro hbr
    have hbr := of_decide_eq_true hbr
    (exfalso; omega)
  intro hbr
  have hbr := of_decide_eq_false hbr
  refine l_guard_no rfl rfl rfl ?_
  refine l_guard_no rfl rfl rfl ?_
  refine l_guard_no rfl rfl rfl ?_
  refine l_pick_f rfl rfl rfl ?_
  refine l_move rfl rfl ?_
  refine l_guard_no rfl rfl rfl ?_
  refine l_guard_no rfl rfl rfl ?_
  refine l_pick_f rfl rfl rfl ?_
  refine l_nil ?_
  refine g_cond_f rfl ?_
  refine g_skip ?_
  refine g_seq ?_
  refine g_region ?_
  refine l_call rfl Try.call7 rfl (meets_ok _ _ _ _ _ (by omega) (by omega) (by omega)) ?_; rintro _ _ ⟨rfl, rfl⟩
  refine l_assign rfl rfl ?_
  refine l_nil ?_
  refine g_ret Try.func6 rfl (.tmp rfl .nil) ?_
  exact Gives.mki ⟨rfl, rfl⟩
set_option maxHeartbeats 4000000 in
theorem oth_open_bad (w0 : World) (F : List Atom) (bw ow n cw : Nat) (W : List Int) (hW : W.length = n) (hcw : n ≤ cw) (hr : RowAt w0 F bw ow (ints .u32 W)) (hU : U32s W) (h1 : n ≤ 16384) (h2 : 0 < n) (h3 : n % 16 = 0) (kd at_ kk x : Int) (a0 : -9223372036854775808 ≤ at_) (a1 : at_ ≤ 9223372036854775807) (k0 : -9223372036854775808 ≤ kk) (k1 : kk ≤ 9223372036854775807) (x0 : 0 ≤ x) (x1 : x ≤ 4294967295) (hk : kd ≠ 0 ∧ kd ≠ 1) (h : inR n at_ 2) (hq : ¬ (1 ≤ kk ∧ kk ≤ 4)) :
    CallK Try.prog 6 [.slice (some ⟨bw, ow, none⟩) n cw, .agg [Value.int .i64 kd, .int .i64 at_, .int .i64 kk, .int .u32 x].toArray] w0 (F) (Gives w0 fun v F2 => v = .bool true ∧ F2 = F) := by
  have hn : n ≤ 1073741824 := by omega
  have hlen2 : (W).length = n := hW
  refine c_enter Try.func6 rfl rfl rfl ?_
  refine g_seq ?_
  refine g_region ?_
  refine l_boxs rfl rfl ?_; intro b3
  refine l_assign rfl rfl ?_
  refine l_nil ?_
  refine g_seq ?_
  refine g_region ?_
  refine l_move rfl rfl ?_
  refine l_call rfl Try.call8 rfl (of_ok _ _ bw ow n cw W hW hcw hr.there h1 h2 h3) ?_; rintro _ _ ⟨b, g, c, rfl, hc, rfl⟩
  refine l_move rfl rfl ?_
  refine l_extract rfl rfl rfl ?_
  refine l_extract rfl rfl rfl ?_
  refine l_assign rfl rfl ?_
  refine l_assign rfl rfl ?_
  refine l_nil ?_
  refine g_seq ?_
  refine g_seq ?_
  refine g_region ?_
  refine l_move rfl rfl ?_
  refine l_neq rfl rfl rfl ?_
  refine l_move rfl rfl ?_
  refine l_split 24 rfl ?_ ?_
  · intro hbr
    have hbr := of_decide_eq_true hbr
    (exfalso; omega)
  intro hbr
  have hbr := of_decide_eq_false hbr
  refine l_guard_yes rfl rfl ?_
  refine l_move rfl rfl ?_
  refine l_guard_yes rfl rfl ?_
  refine l_eqpn rfl Try.underlying28 rfl rfl ?_
  refine l_pick_f rfl rfl rfl ?_
  refine l_nil ?_
  refine g_cond_f rfl ?_
  refine g_skip ?_
  refine g_seq ?_
  refine g_region ?_
  refine l_move rfl rfl ?_
  refine l_call rfl Try.call12 rfl (clonem_ok _ _ b g n c W hW hc hn) ?_; rintro _ _ ⟨b2, g2, c2, rfl, hc2, rfl⟩
  refine l_assign rfl rfl ?_
  refine l_nil ?_
  refine g_seq ?_
  refine g_region ?_
  refine l_assign rfl rfl ?_
  refine l_nil ?_
  refine g_seq ?_
  refine g_seq ?_
  refine g_region ?_
  refine l_fieldAddr rfl fa_37_0 rfl ?_
  first | refine l_ld rfl Try.isAgg3 rfl rfl ?_ | refine l_ldw rfl Try.isAgg3 rfl (by omega) ?_
  refine l_nil ?_
  refine g_block ?_
  refine g_seq ?_
  refine g_region ?_
  refine l_eql rfl rfl rfl ?_
  refine l_assign rfl rfl ?_
  refine l_nil ?_
  refine g_cond rfl ?_ ?_
  · intro hbr
    have hbr := of_decide_eq_true hbr
    (exfalso; omega)
  intro hbr
  have hbr := of_decide_eq_false hbr
  refine g_seq ?_
  refine g_region ?_
  refine l_eql rfl rfl rfl ?_
  refine l_assign rfl rfl ?_
  refine l_nil ?_
  refine g_cond rfl ?_ ?_
  · intro hbr
    have hbr := of_decide_eq_true hbr
    (exfalso; omega)
  intro hbr
  have hbr := of_decide_eq_false hbr
  refine g_region ?_
  refine l_move rfl rfl ?_
  refine l_fieldAddr rfl fa_37_1 rfl ?_
  first | refine l_ld rfl Try.isAgg3 rfl rfl ?_ | refine l_ldw rfl Try.isAgg3 rfl (by omega) ?_
  refine l_fieldAddr rfl fa_37_2 rfl ?_
  first | refine l_ld rfl Try.isAgg3 rfl rfl ?_ | refine l_ldw rfl Try.isAgg3 rfl (by omega) ?_
  refine l_fronto g ?_
  refine l_frontb b ?_
  refine l_call rfl Try.call15 rfl (open_bad _ _ b g n c W hW hc hn hU _ (by omega) h _ (by omega) (by omega) hq) ?_; rintro _ _ ⟨rfl, rfl⟩
  refine l_assign rfl rfl ?_
  refine l_nil ?_
  refine g_inBlock ?_
  refine g_seq ?_
  refine g_region ?_
  refine l_move rfl rfl ?_
  refine l_fronto g2 ?_
  refine l_frontb b2 ?_
  refine l_call rfl Try.call16 rfl (words_ok _ _ b2 g2 n c2 W hW hc2 hn) ?_; rintro _ _ ⟨qa, ca, rfl, hca, rfl⟩
  refine l_move rfl rfl ?_
  refine l_fronto g ?_
  refine l_frontb b ?_
  refine l_call rfl Try.call16 rfl (words_ok _ _ b g n c W hW hc hn) ?_; rintro _ _ ⟨qb, cb, rfl, hcb, rfl⟩
  refine l_assign rfl rfl ?_
  refine l_assign rfl rfl ?_
  refine l_nil ?_
  refine g_seq ?_
  refine g_seq ?_
  refine g_region ?_
  refine l_move rfl rfl ?_
  refine l_len rfl Try.underlying26 rfl ?_
  refine l_move rfl rfl ?_
  refine l_len rfl Try.underlying26 rfl ?_
  refine l_neq rfl rfl rfl ?_
  refine l_nil ?_
  refine g_cond rfl ?_ ?_
  · intro hbr
    have hbr := of_decide_eq_true hbr
    (exfalso; omega)
  intro hbr
  have hbr := of_decide_eq_false hbr
  refine g_skip ?_
  refine g_seq ?_
  refine g_region ?_
  refine l_assign rfl rfl ?_
  refine l_nil ?_
  refine g_seq ?_
  refine g_seq ?_
  refine g_region ?_
  refine l_assign rfl rfl ?_
  refine l_nil ?_
  refine g_block ?_
  refine g_loop (X := Int × Int) (fun z => 0 ≤ z.1 ∧ z.1 ≤ n ∧ 0 ≤ z.2 ∧ z.2 ≤ z.1) (fun z => (n - z.1).toNat) (fun z => [(3, .pointer (some ⟨b3, 0, none⟩)), (8, .int .i64 180), (13, .slice (some ⟨qa, 0, none⟩) n ca), (14, .slice (some ⟨qb, 0, none⟩) n cb), (15, .int .i64 z.2), (16, .int .i64 z.1)]) (fun z => Own 23 1 (.slice (some ⟨qa, 0, none⟩) n ca) n (ints .u32 W) :: Own 23 1 (.slice (some ⟨qb, 0, none⟩) n cb) n (ints .u32 W) :: Blk b3 (.cells [Value.int .i64 kd, .int .i64 at_, .int .i64 kk, .int .u32 x].toArray 37 (0, 0)) :: F) (0, 0) ⟨by simp only; omega, by simp only; omega, by simp only; omega, by simp only; omega⟩ (.cons rfl (.cons rfl (.cons rfl (.cons rfl (.cons rfl (.cons rfl .nil)))))) (fun w hw => SPI.holds hw) ?_
  clear hr
  rintro ⟨i, q⟩ ⟨i0, i1, q0, q1⟩ ih
  dsimp only
  simp only at i0 i1 q0 q1
  refine g_seq ?_
  refine g_seq ?_
  refine g_region ?_
  refine l_move rfl rfl ?_
  refine l_move rfl rfl ?_
  refine l_len rfl Try.underlying26 rfl ?_
  refine l_lss rfl rfl rfl ?_
  refine l_nil ?_
  refine g_cond rfl ?_ ?_
  · intro hbr
    have hbr := of_decide_eq_true hbr
    refine g_skip ?_
    refine g_seq ?_
    refine g_block ?_
    refine g_seq ?_
    refine g_seq ?_
    refine gp_start mo (by kernel_rfl) (by kernel_rfl) ?_
    refine gp_quiet 0 rfl rfl rfl rfl rfl rfl (q_move rfl) ?_
    refine gp_quiet 1 rfl rfl rfl rfl rfl rfl (q_move rfl) ?_
    refine gp_quiet 2 rfl rfl rfl rfl rfl rfl (q_ixs Try.underlying26 Try.sizeOf23 rfl rfl (by omega) (by omega)) ?_
    refine gp_quiet 3 rfl rfl rfl rfl rfl rfl (q_ldw Try.isAgg23 rfl (by first | omega | (simp only [List.length_set]; omega))) ?_
    refine gp_quiet 4 rfl rfl rfl rfl rfl rfl (q_move rfl) ?_
    refine gp_quiet 5 rfl rfl rfl rfl rfl rfl (q_move rfl) ?_
    refine gp_quiet 6 rfl rfl rfl rfl rfl rfl (q_ixs Try.underlying26 Try.sizeOf23 rfl rfl (by omega) (by omega)) ?_
    refine gp_quiet 7 rfl rfl rfl rfl rfl rfl (q_ldw Try.isAgg23 rfl (by first | omega | (simp only [List.length_set]; omega))) ?_
    refine gp_quiet 8 rfl rfl rfl rfl rfl rfl (q_eql rfl rfl) ?_
    refine gp_end rfl rfl ?_
    refine g_cond rfl ?_ ?_
    · intro hbr
      have hbr := of_decide_eq_true hbr
      refine g_exit rfl ?_
      refine g_region ?_
      refine l_move rfl rfl ?_
      first | refine l_add rfl rfl rfl (w_i64 (by omega) (by omega)) ?_ | refine l_addw rfl rfl rfl ?_
      refine l_assign rfl rfl ?_
      refine l_nil ?_
      (first | exact g_againi (ih (i + 1, q + 1) ⟨by simp only; omega, by simp only; omega, by simp only; omega, by simp only; omega⟩ (by simp only; omega)) (.cons rfl (.cons rfl (.cons rfl (.cons rfl (.cons rfl (.cons rfl .nil)))))) | exact g_againi (ih (i + 1, q) ⟨by simp only; omega, by simp only; omega, by simp only; omega, by simp only; omega⟩ (by simp only; omega)) (.cons rfl (.cons rfl (.cons rfl (.cons rfl (.cons rfl (.cons rfl .nil)))))))
    · intro hbr
      have hbr := of_decide_eq_false hbr
      (exfalso; omega)
  intro hbr
  have hbr := of_decide_eq_false hbr
  refine g_exit rfl ?_
  refine g_seq ?_
  refine g_seq ?_
  refine g_region ?_
  refine l_move rfl rfl ?_
  refine l_eql rfl rfl rfl ?_
  refine l_move rfl rfl ?_
  refine l_split 109 rfl ?_ ?_
  · intro hbr
    have hbr := of_decide_eq_true hbr
    (exfalso; omega)
  intro hbr
  have hbr := of_decide_eq_false hbr
  refine l_guard_no rfl rfl rfl ?_
  refine l_guard_no rfl rfl rfl ?_
  refine l_guard_no rfl rfl rfl ?_
  refine l_pick_f rfl rfl rfl ?_
  refine l_move rfl rfl ?_
  refine l_guard_no rfl rfl rfl ?_
  refine l_guard_no rfl rfl rfl ?_
  refine l_pick_f rfl rfl rfl ?_
  refine l_nil ?_
  refine g_cond_f rfl ?_
  refine g_skip ?_
  refine g_seq ?_
  refine g_region ?_
  refine l_call rfl Try.call7 rfl (meets_ok _ _ _ _ _ (by omega) (by omega) (by omega)) ?_; rintro _ _ ⟨rfl, rfl⟩
  refine l_assign rfl rfl ?_
  refine l_nil ?_
  refine g_ret Try.func6 rfl (.tmp rfl .nil) ?_
  exact Gives.mki ⟨rfl, rfl⟩
set_option maxHeartbeats 4000000 in
theorem oth_open_short (w0 : World) (F : List Atom) (bw ow n cw : Nat) (W : List Int) (hW : W.length = n) (hcw : n ≤ cw) (hr : RowAt w0 F bw ow (ints .u32 W)) (hU : U32s W) (h1 : n ≤ 16384) (h2 : 0 < n) (h3 : n % 16 = 0) (kd at_ kk x : Int) (a0 : -9223372036854775808 ≤ at_) (a1 : at_ ≤ 9223372036854775807) (k0 : -9223372036854775808 ≤ kk) (k1 : kk ≤ 9223372036854775807) (x0 : 0 ≤ x) (x1 : x ≤ 4294967295) (hk : kd ≠ 0 ∧ kd ≠ 1) (h : inR n at_ 2) (hq : 1 ≤ kk ∧ kk ≤ 4) (hf : W.getD at_.toNat 0 < kk) :
    CallK Try.prog 6 [.slice (some ⟨bw, ow, none⟩) n cw, .agg [Value.int .i64 kd, .int .i64 at_, .int .i64 kk, .int .u32 x].toArray] w0 (F) (Gives w0 fun v F2 => v = .bool true ∧ F2 = F) := by
  have hn : n ≤ 1073741824 := by omega
  have hlen2 : (W).length = n := hW
  refine c_enter Try.func6 rfl rfl rfl ?_
  refine g_seq ?_
  refine g_region ?_
  refine l_boxs rfl rfl ?_; intro b3
  refine l_assign rfl rfl ?_
  refine l_nil ?_
  refine g_seq ?_
  refine g_region ?_
  refine l_move rfl rfl ?_
  refine l_call rfl Try.call8 rfl (of_ok _ _ bw ow n cw W hW hcw hr.there h1 h2 h3) ?_; rintro _ _ ⟨b, g, c, rfl, hc, rfl⟩
  refine l_move rfl rfl ?_
  refine l_extract rfl rfl rfl ?_
  refine l_extract rfl rfl rfl ?_
  refine l_assign rfl rfl ?_
  refine l_assign rfl rfl ?_
  refine l_nil ?_
  refine g_seq ?_
  refine g_seq ?_
  refine g_region ?_
  refine l_move rfl rfl ?_
  refine l_neq rfl rfl rfl ?_
  refine l_move rfl rfl ?_
  refine l_split 24 rfl ?_ ?_
  · intro hbr
    have hbr := of_decide_eq_true hbr
    (exfalso; omega)
  intro hbr
  have hbr := of_decide_eq_false hbr
  refine l_guard_yes rfl rfl ?_
  refine l_move rfl rfl ?_
  refine l_guard_yes rfl rfl ?_
  refine l_eqpn rfl Try.underlying28 rfl rfl ?_
  refine l_pick_f rfl rfl rfl ?_
  refine l_nil ?_
  refine g_cond_f rfl ?_
  refine g_skip ?_
  refine g_seq ?_
  refine g_region ?_
  refine l_move rfl rfl ?_
  refine l_call rfl Try.call12 rfl (clonem_ok _ _ b g n c W hW hc hn) ?_; rintro _ _ ⟨b2, g2, c2, rfl, hc2, rfl⟩
  refine l_assign rfl rfl ?_
  refine l_nil ?_
  refine g_seq ?_
  refine g_region ?_
  refine l_assign rfl rfl ?_
  refine l_nil ?_
  refine g_seq ?_
  refine g_seq ?_
  refine g_region ?_
  refine l_fieldAddr rfl fa_37_0 rfl ?_
  first | refine l_ld rfl Try.isAgg3 rfl rfl ?_ | refine l_ldw rfl Try.isAgg3 rfl (by omega) ?_
  refine l_nil ?_
  refine g_block ?_
  refine g_seq ?_
  refine g_region ?_
  refine l_eql rfl rfl rfl ?_
  refine l_assign rfl rfl ?_
  refine l_nil ?_
  refine g_cond rfl ?_ ?_
  · intro hbr
    have hbr := of_decide_eq_true hbr
    (exfalso; omega)
  intro hbr
  have hbr := of_decide_eq_false hbr
  refine g_seq ?_
  refine g_region ?_
  refine l_eql rfl rfl rfl ?_
  refine l_assign rfl rfl ?_
  refine l_nil ?_
  refine g_cond rfl ?_ ?_
  · intro hbr
    have hbr := of_decide_eq_true hbr
    (exfalso; omega)
  intro hbr
  have hbr := of_decide_eq_false hbr
  refine g_region ?_
  refine l_move rfl rfl ?_
  refine l_fieldAddr rfl fa_37_1 rfl ?_
  first | refine l_ld rfl Try.isAgg3 rfl rfl ?_ | refine l_ldw rfl Try.isAgg3 rfl (by omega) ?_
  refine l_fieldAddr rfl fa_37_2 rfl ?_
  first | refine l_ld rfl Try.isAgg3 rfl rfl ?_ | refine l_ldw rfl Try.isAgg3 rfl (by omega) ?_
  refine l_fronto g ?_
  refine l_frontb b ?_
  refine l_call rfl Try.call15 rfl (open_short _ _ b g n c W hW hc hn hU _ (by omega) h _ (by omega) (by omega) hq hf) ?_; rintro _ _ ⟨rfl, rfl⟩
  refine l_assign rfl rfl ?_
  refine l_nil ?_
  refine g_inBlock ?_
  refine g_seq ?_
  refine g_region ?_
  refine l_move rfl rfl ?_
  refine l_fronto g2 ?_
  refine l_frontb b2 ?_
  refine l_call rfl Try.call16 rfl (words_ok _ _ b2 g2 n c2 W hW hc2 hn) ?_; rintro _ _ ⟨qa, ca, rfl, hca, rfl⟩
  refine l_move rfl rfl ?_
  refine l_fronto g ?_
  refine l_frontb b ?_
  refine l_call rfl Try.call16 rfl (words_ok _ _ b g n c W hW hc hn) ?_; rintro _ _ ⟨qb, cb, rfl, hcb, rfl⟩
  refine l_assign rfl rfl ?_
  refine l_assign rfl rfl ?_
  refine l_nil ?_
  refine g_seq ?_
  refine g_seq ?_
  refine g_region ?_
  refine l_move rfl rfl ?_
  refine l_len rfl Try.underlying26 rfl ?_
  refine l_move rfl rfl ?_
  refine l_len rfl Try.underlying26 rfl ?_
  refine l_neq rfl rfl rfl ?_
  refine l_nil ?_
  refine g_cond rfl ?_ ?_
  · intro hbr
    have hbr := of_decide_eq_true hbr
    (exfalso; omega)
  intro hbr
  have hbr := of_decide_eq_false hbr
  refine g_skip ?_
  refine g_seq ?_
  refine g_region ?_
  refine l_assign rfl rfl ?_
  refine l_nil ?_
  refine g_seq ?_
  refine g_seq ?_
  refine g_region ?_
  refine l_assign rfl rfl ?_
  refine l_nil ?_
  refine g_block ?_
  refine g_loop (X := Int × Int) (fun z => 0 ≤ z.1 ∧ z.1 ≤ n ∧ 0 ≤ z.2 ∧ z.2 ≤ z.1) (fun z => (n - z.1).toNat) (fun z => [(3, .pointer (some ⟨b3, 0, none⟩)), (8, .int .i64 182), (13, .slice (some ⟨qa, 0, none⟩) n ca), (14, .slice (some ⟨qb, 0, none⟩) n cb), (15, .int .i64 z.2), (16, .int .i64 z.1)]) (fun z => Own 23 1 (.slice (some ⟨qa, 0, none⟩) n ca) n (ints .u32 W) :: Own 23 1 (.slice (some ⟨qb, 0, none⟩) n cb) n (ints .u32 W) :: Blk b3 (.cells [Value.int .i64 kd, .int .i64 at_, .int .i64 kk, .int .u32 x].toArray 37 (0, 0)) :: F) (0, 0) ⟨by simp only; omega, by simp only; omega, by simp only; omega, by simp only; omega⟩ (.cons rfl (.cons rfl (.cons rfl (.cons rfl (.cons rfl (.cons rfl .nil)))))) (fun w hw => SPI.holds hw) ?_
  clear hr
  rintro ⟨i, q⟩ ⟨i0, i1, q0, q1⟩ ih
  dsimp only
  simp only at i0 i1 q0 q1
  refine g_seq ?_
  refine g_seq ?_
  refine g_region ?_
  refine l_move rfl rfl ?_
  refine l_move rfl rfl ?_
  refine l_len rfl Try.underlying26 rfl ?_
  refine l_lss rfl rfl rfl ?_
  refine l_nil ?_
  refine g_cond rfl ?_ ?_
  · intro hbr
    have hbr := of_decide_eq_true hbr
    refine g_skip ?_
    refine g_seq ?_
    refine g_block ?_
    refine g_seq ?_
    refine g_seq ?_
    refine gp_start mo (by kernel_rfl) (by kernel_rfl) ?_
    refine gp_quiet 0 rfl rfl rfl rfl rfl rfl (q_move rfl) ?_
    refine gp_quiet 1 rfl rfl rfl rfl rfl rfl (q_move rfl) ?_
    refine gp_quiet 2 rfl rfl rfl rfl rfl rfl (q_ixs Try.underlying26 Try.sizeOf23 rfl rfl (by omega) (by omega)) ?_
    refine gp_quiet 3 rfl rfl rfl rfl rfl rfl (q_ldw Try.isAgg23 rfl (by first | omega | (simp only [List.length_set]; omega))) ?_
    refine gp_quiet 4 rfl rfl rfl rfl rfl rfl (q_move rfl) ?_
    refine gp_quiet 5 rfl rfl rfl rfl rfl rfl (q_move rfl) ?_
    refine gp_quiet 6 rfl rfl rfl rfl rfl rfl (q_ixs Try.underlying26 Try.sizeOf23 rfl rfl (by omega) (by omega)) ?_
    refine gp_quiet 7 rfl rfl rfl rfl rfl rfl (q_ldw Try.isAgg23 rfl (by first | omega | (simp only [List.length_set]; omega))) ?_
    refine gp_quiet 8 rfl rfl rfl rfl rfl rfl (q_eql rfl rfl) ?_
    refine gp_end rfl rfl ?_
    refine g_cond rfl ?_ ?_
    · intro hbr
      have hbr := of_decide_eq_true hbr
      refine g_exit rfl ?_
      refine g_region ?_
      refine l_move rfl rfl ?_
      first | refine l_add rfl rfl rfl (w_i64 (by omega) (by omega)) ?_ | refine l_addw rfl rfl rfl ?_
      refine l_assign rfl rfl ?_
      refine l_nil ?_
      (first | exact g_againi (ih (i + 1, q + 1) ⟨by simp only; omega, by simp only; omega, by simp only; omega, by simp only; omega⟩ (by simp only; omega)) (.cons rfl (.cons rfl (.cons rfl (.cons rfl (.cons rfl (.cons rfl .nil)))))) | exact g_againi (ih (i + 1, q) ⟨by simp only; omega, by simp only; omega, by simp only; omega, by simp only; omega⟩ (by simp only; omega)) (.cons rfl (.cons rfl (.cons rfl (.cons rfl (.cons rfl (.cons rfl .nil)))))))
    · intro hbr
      have hbr := of_decide_eq_false hbr
      (exfalso; omega)
  intro hbr
  have hbr := of_decide_eq_false hbr
  refine g_exit rfl ?_
  refine g_seq ?_
  refine g_seq ?_
  refine g_region ?_
  refine l_move rfl rfl ?_
  refine l_eql rfl rfl rfl ?_
  refine l_move rfl rfl ?_
  refine l_split 109 rfl ?_ ?_
  · intro hbr
    have hbr := of_decide_eq_true hbr
    (exfalso; omega)
  intro hbr
  have hbr := of_decide_eq_false hbr
  refine l_guard_no rfl rfl rfl ?_
  refine l_guard_no rfl rfl rfl ?_
  refine l_guard_no rfl rfl rfl ?_
  refine l_pick_f rfl rfl rfl ?_
  refine l_move rfl rfl ?_
  refine l_guard_no rfl rfl rfl ?_
  refine l_guard_no rfl rfl rfl ?_
  refine l_pick_f rfl rfl rfl ?_
  refine l_nil ?_
  refine g_cond_f rfl ?_
  refine g_skip ?_
  refine g_seq ?_
  refine g_region ?_
  refine l_call rfl Try.call7 rfl (meets_ok _ _ _ _ _ (by omega) (by omega) (by omega)) ?_; rintro _ _ ⟨rfl, rfl⟩
  refine l_assign rfl rfl ?_
  refine l_nil ?_
  refine g_ret Try.func6 rfl (.tmp rfl .nil) ?_
  exact Gives.mki ⟨rfl, rfl⟩
set_option maxHeartbeats 4000000 in
theorem oth_open_full (w0 : World) (F : List Atom) (bw ow n cw : Nat) (W : List Int) (hW : W.length = n) (hcw : n ≤ cw) (hr : RowAt w0 F bw ow (ints .u32 W)) (hU : U32s W) (h1 : n ≤ 16384) (h2 : 0 < n) (h3 : n % 16 = 0) (kd at_ kk x : Int) (a0 : -9223372036854775808 ≤ at_) (a1 : at_ ≤ 9223372036854775807) (k0 : -9223372036854775808 ≤ kk) (k1 : kk ≤ 9223372036854775807) (x0 : 0 ≤ x) (x1 : x ≤ 4294967295) (hk : kd ≠ 0 ∧ kd ≠ 1) (h : inR n at_ 2) (hq : 1 ≤ kk ∧ kk ≤ 4) (hf : kk < W.getD at_.toNat 0) :
    CallK Try.prog 6 [.slice (some ⟨bw, ow, none⟩) n cw, .agg [Value.int .i64 kd, .int .i64 at_, .int .i64 kk, .int .u32 x].toArray] w0 (F) (Gives w0 fun v F2 => v = .bool true ∧ F2 = F) := by
  have hn : n ≤ 1073741824 := by omega
  have hlen2 : (W).length = n := hW
  refine c_enter Try.func6 rfl rfl rfl ?_
  refine g_seq ?_
  refine g_region ?_
  refine l_boxs rfl rfl ?_; intro b3
  refine l_assign rfl rfl ?_
  refine l_nil ?_
  refine g_seq ?_
  refine g_region ?_
  refine l_move rfl rfl ?_
  refine l_call rfl Try.call8 rfl (of_ok _ _ bw ow n cw W hW hcw hr.there h1 h2 h3) ?_; rintro _ _ ⟨b, g, c, rfl, hc, rfl⟩
  refine l_move rfl rfl ?_
  refine l_extract rfl rfl rfl ?_
  refine l_extract rfl rfl rfl ?_
  refine l_assign rfl rfl ?_
  refine l_assign rfl rfl ?_
  refine l_nil ?_
  refine g_seq ?_
  refine g_seq ?_
  refine g_region ?_
  refine l_move rfl rfl ?_
  refine l_neq rfl rfl rfl ?_
  refine l_move rfl rfl ?_
  refine l_split 24 rfl ?_ ?_
  · intro hbr
    have hbr := of_decide_eq_true hbr
    (exfalso; omega)
  intro hbr
  have hbr := of_decide_eq_false hbr
  refine l_guard_yes rfl rfl ?_
  refine l_move rfl rfl ?_
  refine l_guard_yes rfl rfl ?_
  refine l_eqpn rfl Try.underlying28 rfl rfl ?_
  refine l_pick_f rfl rfl rfl ?_
  refine l_nil ?_
  refine g_cond_f rfl ?_
  refine g_skip ?_
  refine g_seq ?_
  refine g_region ?_
  refine l_move rfl rfl ?_
  refine l_call rfl Try.call12 rfl (clonem_ok _ _ b g n c W hW hc hn) ?_; rintro _ _ ⟨b2, g2, c2, rfl, hc2, rfl⟩
  refine l_assign rfl rfl ?_
  refine l_nil ?_
  refine g_seq ?_
  refine g_region ?_
  refine l_assign rfl rfl ?_
  refine l_nil ?_
  refine g_seq ?_
  refine g_seq ?_
  refine g_region ?_
  refine l_fieldAddr rfl fa_37_0 rfl ?_
  first | refine l_ld rfl Try.isAgg3 rfl rfl ?_ | refine l_ldw rfl Try.isAgg3 rfl (by omega) ?_
  refine l_nil ?_
  refine g_block ?_
  refine g_seq ?_
  refine g_region ?_
  refine l_eql rfl rfl rfl ?_
  refine l_assign rfl rfl ?_
  refine l_nil ?_
  refine g_cond rfl ?_ ?_
  · intro hbr
    have hbr := of_decide_eq_true hbr
    (exfalso; omega)
  intro hbr
  have hbr := of_decide_eq_false hbr
  refine g_seq ?_
  refine g_region ?_
  refine l_eql rfl rfl rfl ?_
  refine l_assign rfl rfl ?_
  refine l_nil ?_
  refine g_cond rfl ?_ ?_
  · intro hbr
    have hbr := of_decide_eq_true hbr
    (exfalso; omega)
  intro hbr
  have hbr := of_decide_eq_false hbr
  refine g_region ?_
  refine l_move rfl rfl ?_
  refine l_fieldAddr rfl fa_37_1 rfl ?_
  first | refine l_ld rfl Try.isAgg3 rfl rfl ?_ | refine l_ldw rfl Try.isAgg3 rfl (by omega) ?_
  refine l_fieldAddr rfl fa_37_2 rfl ?_
  first | refine l_ld rfl Try.isAgg3 rfl rfl ?_ | refine l_ldw rfl Try.isAgg3 rfl (by omega) ?_
  refine l_fronto g ?_
  refine l_frontb b ?_
  refine l_call rfl Try.call15 rfl (open_full _ _ b g n c W hW hc hn hU _ (by omega) h _ (by omega) (by omega) hq hf) ?_; rintro _ _ ⟨rfl, rfl⟩
  refine l_assign rfl rfl ?_
  refine l_nil ?_
  refine g_inBlock ?_
  refine g_seq ?_
  refine g_region ?_
  refine l_move rfl rfl ?_
  refine l_fronto g2 ?_
  refine l_frontb b2 ?_
  refine l_call rfl Try.call16 rfl (words_ok _ _ b2 g2 n c2 W hW hc2 hn) ?_; rintro _ _ ⟨qa, ca, rfl, hca, rfl⟩
  refine l_move rfl rfl ?_
  refine l_fronto g ?_
  refine l_frontb b ?_
  refine l_call rfl Try.call16 rfl (words_ok _ _ b g n c W hW hc hn) ?_; rintro _ _ ⟨qb, cb, rfl, hcb, rfl⟩
  refine l_assign rfl rfl ?_
  refine l_assign rfl rfl ?_
  refine l_nil ?_
  refine g_seq ?_
  refine g_seq ?_
  refine g_region ?_
  refine l_move rfl rfl ?_
  refine l_len rfl Try.underlying26 rfl ?_
  refine l_move rfl rfl ?_
  refine l_len rfl Try.underlying26 rfl ?_
  refine l_neq rfl rfl rfl ?_
  refine l_nil ?_
  refine g_cond rfl ?_ ?_
  · intro hbr
    have hbr := of_decide_eq_true hbr
    (exfalso; omega)
  intro hbr
  have hbr := of_decide_eq_false hbr
  refine g_skip ?_
  refine g_seq ?_
  refine g_region ?_
  refine l_assign rfl rfl ?_
  refine l_nil ?_
  refine g_seq ?_
  refine g_seq ?_
  refine g_region ?_
  refine l_assign rfl rfl ?_
  refine l_nil ?_
  refine g_block ?_
  refine g_loop (X := Int × Int) (fun z => 0 ≤ z.1 ∧ z.1 ≤ n ∧ 0 ≤ z.2 ∧ z.2 ≤ z.1) (fun z => (n - z.1).toNat) (fun z => [(3, .pointer (some ⟨b3, 0, none⟩)), (8, .int .i64 181), (13, .slice (some ⟨qa, 0, none⟩) n ca), (14, .slice (some ⟨qb, 0, none⟩) n cb), (15, .int .i64 z.2), (16, .int .i64 z.1)]) (fun z => Own 23 1 (.slice (some ⟨qa, 0, none⟩) n ca) n (ints .u32 W) :: Own 23 1 (.slice (some ⟨qb, 0, none⟩) n cb) n (ints .u32 W) :: Blk b3 (.cells [Value.int .i64 kd, .int .i64 at_, .int .i64 kk, .int .u32 x].toArray 37 (0, 0)) :: F) (0, 0) ⟨by simp only; omega, by simp only; omega, by simp only; omega, by simp only; omega⟩ (.cons rfl (.cons rfl (.cons rfl (.cons rfl (.cons rfl (.cons rfl .nil)))))) (fun w hw => SPI.holds hw) ?_
  clear hr
  rintro ⟨i, q⟩ ⟨i0, i1, q0, q1⟩ ih
  dsimp only
  simp only at i0 i1 q0 q1
  refine g_seq ?_
  refine g_seq ?_
  refine g_region ?_
  refine l_move rfl rfl ?_
  refine l_move rfl rfl ?_
  refine l_len rfl Try.underlying26 rfl ?_
  refine l_lss rfl rfl rfl ?_
  refine l_nil ?_
  refine g_cond rfl ?_ ?_
  · intro hbr
    have hbr := of_decide_eq_true hbr
    refine g_skip ?_
    refine g_seq ?_
    refine g_block ?_
    refine g_seq ?_
    refine g_seq ?_
    refine gp_start mo (by kernel_rfl) (by kernel_rfl) ?_
    refine gp_quiet 0 rfl rfl rfl rfl rfl rfl (q_move rfl) ?_
    refine gp_quiet 1 rfl rfl rfl rfl rfl rfl (q_move rfl) ?_
    refine gp_quiet 2 rfl rfl rfl rfl rfl rfl (q_ixs Try.underlying26 Try.sizeOf23 rfl rfl (by omega) (by omega)) ?_
    refine gp_quiet 3 rfl rfl rfl rfl rfl rfl (q_ldw Try.isAgg23 rfl (by first | omega | (simp only [List.length_set]; omega))) ?_
    refine gp_quiet 4 rfl rfl rfl rfl rfl rfl (q_move rfl) ?_
    refine gp_quiet 5 rfl rfl rfl rfl rfl rfl (q_move rfl) ?_
    refine gp_quiet 6 rfl rfl rfl rfl rfl rfl (q_ixs Try.underlying26 Try.sizeOf23 rfl rfl (by omega) (by omega)) ?_
    refine gp_quiet 7 rfl rfl rfl rfl rfl rfl (q_ldw Try.isAgg23 rfl (by first | omega | (simp only [List.length_set]; omega))) ?_
    refine gp_quiet 8 rfl rfl rfl rfl rfl rfl (q_eql rfl rfl) ?_
    refine gp_end rfl rfl ?_
    refine g_cond rfl ?_ ?_
    · intro hbr
      have hbr := of_decide_eq_true hbr
      refine g_exit rfl ?_
      refine g_region ?_
      refine l_move rfl rfl ?_
      first | refine l_add rfl rfl rfl (w_i64 (by omega) (by omega)) ?_ | refine l_addw rfl rfl rfl ?_
      refine l_assign rfl rfl ?_
      refine l_nil ?_
      (first | exact g_againi (ih (i + 1, q + 1) ⟨by simp only; omega, by simp only; omega, by simp only; omega, by simp only; omega⟩ (by simp only; omega)) (.cons rfl (.cons rfl (.cons rfl (.cons rfl (.cons rfl (.cons rfl .nil)))))) | exact g_againi (ih (i + 1, q) ⟨by simp only; omega, by simp only; omega, by simp only; omega, by simp only; omega⟩ (by simp only; omega)) (.cons rfl (.cons rfl (.cons rfl (.cons rfl (.cons rfl (.cons rfl .nil)))))))
    · intro hbr
      have hbr := of_decide_eq_false hbr
      (exfalso; omega)
  intro hbr
  have hbr := of_decide_eq_false hbr
  refine g_exit rfl ?_
  refine g_seq ?_
  refine g_seq ?_
  refine g_region ?_
  refine l_move rfl rfl ?_
  refine l_eql rfl rfl rfl ?_
  refine l_move rfl rfl ?_
  refine l_split 109 rfl ?_ ?_
  · intro hbr
    have hbr := of_decide_eq_true hbr
    (exfalso; omega)
  intro hbr
  have hbr := of_decide_eq_false hbr
  refine l_guard_no rfl rfl rfl ?_
  refine l_guard_no rfl rfl rfl ?_
  refine l_guard_no rfl rfl rfl ?_
  refine l_pick_f rfl rfl rfl ?_
  refine l_move rfl rfl ?_
  refine l_guard_no rfl rfl rfl ?_
  refine l_guard_no rfl rfl rfl ?_
  refine l_pick_f rfl rfl rfl ?_
  refine l_nil ?_
  refine g_cond_f rfl ?_
  refine g_skip ?_
  refine g_seq ?_
  refine g_region ?_
  refine l_call rfl Try.call7 rfl (meets_ok _ _ _ _ _ (by omega) (by omega) (by omega)) ?_; rintro _ _ ⟨rfl, rfl⟩
  refine l_assign rfl rfl ?_
  refine l_nil ?_
  refine g_ret Try.func6 rfl (.tmp rfl .nil) ?_
  exact Gives.mki ⟨rfl, rfl⟩
set_option maxHeartbeats 4000000 in
theorem oth_open_ok (w0 : World) (F : List Atom) (bw ow n cw : Nat) (W : List Int) (hW : W.length = n) (hcw : n ≤ cw) (hr : RowAt w0 F bw ow (ints .u32 W)) (hU : U32s W) (h1 : n ≤ 16384) (h2 : 0 < n) (h3 : n % 16 = 0) (kd at_ kk x : Int) (a0 : -9223372036854775808 ≤ at_) (a1 : at_ ≤ 9223372036854775807) (k0 : -9223372036854775808 ≤ kk) (k1 : kk ≤ 9223372036854775807) (x0 : 0 ≤ x) (x1 : x ≤ 4294967295) (hk : kd ≠ 0 ∧ kd ≠ 1) (h : inR n at_ 2) (hq : 1 ≤ kk ∧ kk ≤ 4) (hf : W.getD at_.toNat 0 = kk) :
    CallK Try.prog 6 [.slice (some ⟨bw, ow, none⟩) n cw, .agg [Value.int .i64 kd, .int .i64 at_, .int .i64 kk, .int .u32 x].toArray] w0 (F) (Gives w0 fun v F2 => v = .bool true ∧ F2 = F) := by
  have hn : n ≤ 1073741824 := by omega
  obtain ⟨h0, _, h4, h5⟩ := (show 0 ≤ at_ ∧ (0:Int) ≤ 2 ∧ at_ ≤ n ∧ (2:Int) ≤ n - at_ from h)
  obtain ⟨u0, u1⟩ := hU at_.toNat
  obtain ⟨u2, u3⟩ := hU (at_.toNat + 1)
  have hlen2 : (((W.set at_.toNat 0).set (at_.toNat + 1) ((W.getD (at_.toNat + 1) 0 + 1) % 4294967296))).length = n := (by simpa using hW)
  have hd : ∀ j : Nat, W.getD j 0 ≠ (((W.set at_.toNat 0).set (at_.toNat + 1) ((W.getD (at_.toNat + 1) 0 + 1) % 4294967296))).getD j 0 → (j : Int) = at_ ∨ (j : Int) = at_ + 1 := by
    intro j hj
    (first | exact set_other hj (by omega) | exact set_other2 hj (by omega))
  have hp : ∀ j : Nat, (j : Int) = at_ + 1 → W.getD j 0 ≠ (((W.set at_.toNat 0).set (at_.toNat + 1) ((W.getD (at_.toNat + 1) 0 + 1) % 4294967296))).getD j 0 := by
    intro j hj
    obtain rfl : j = (at_ + 1).toNat := by omega
    (first | (rw [getD_set1 (by omega)]; omega) | (rw [show (at_ + 1).toNat = at_.toNat + 1 by omega, getD_set1 (by simp; omega)]; omega))
  refine c_enter Try.func6 rfl rfl rfl ?_
  refine g_seq ?_
  refine g_region ?_
  refine l_boxs rfl rfl ?_; intro b3
  refine l_assign rfl rfl ?_
  refine l_nil ?_
  refine g_seq ?_
  refine g_region ?_
  refine l_move rfl rfl ?_
  refine l_call rfl Try.call8 rfl (of_ok _ _ bw ow n cw W hW hcw hr.there h1 h2 h3) ?_; rintro _ _ ⟨b, g, c, rfl, hc, rfl⟩
  refine l_move rfl rfl ?_
  refine l_extract rfl rfl rfl ?_
  refine l_extract rfl rfl rfl ?_
  refine l_assign rfl rfl ?_
  refine l_assign rfl rfl ?_
  refine l_nil ?_
  refine g_seq ?_
  refine g_seq ?_
  refine g_region ?_
  refine l_move rfl rfl ?_
  refine l_neq rfl rfl rfl ?_
  refine l_move rfl rfl ?_
  refine l_split 24 rfl ?_ ?_
  · intro hbr
    have hbr := of_decide_eq_true hbr
    (exfalso; omega)
  intro hbr
  have hbr := of_decide_eq_false hbr
  refine l_guard_yes rfl rfl ?_
  refine l_move rfl rfl ?_
  refine l_guard_yes rfl rfl ?_
  refine l_eqpn rfl Try.underlying28 rfl rfl ?_
  refine l_pick_f rfl rfl rfl ?_
  refine l_nil ?_
  refine g_cond_f rfl ?_
  refine g_skip ?_
  refine g_seq ?_
  refine g_region ?_
  refine l_move rfl rfl ?_
  refine l_call rfl Try.call12 rfl (clonem_ok _ _ b g n c W hW hc hn) ?_; rintro _ _ ⟨b2, g2, c2, rfl, hc2, rfl⟩
  refine l_assign rfl rfl ?_
  refine l_nil ?_
  refine g_seq ?_
  refine g_region ?_
  refine l_assign rfl rfl ?_
  refine l_nil ?_
  refine g_seq ?_
  refine g_seq ?_
  refine g_region ?_
  refine l_fieldAddr rfl fa_37_0 rfl ?_
  first | refine l_ld rfl Try.isAgg3 rfl rfl ?_ | refine l_ldw rfl Try.isAgg3 rfl (by omega) ?_
  refine l_nil ?_
  refine g_block ?_
  refine g_seq ?_
  refine g_region ?_
  refine l_eql rfl rfl rfl ?_
  refine l_assign rfl rfl ?_
  refine l_nil ?_
  refine g_cond rfl ?_ ?_
  · intro hbr
    have hbr := of_decide_eq_true hbr
    (exfalso; omega)
  intro hbr
  have hbr := of_decide_eq_false hbr
  refine g_seq ?_
  refine g_region ?_
  refine l_eql rfl rfl rfl ?_
  refine l_assign rfl rfl ?_
  refine l_nil ?_
  refine g_cond rfl ?_ ?_
  · intro hbr
    have hbr := of_decide_eq_true hbr
    (exfalso; omega)
  intro hbr
  have hbr := of_decide_eq_false hbr
  refine g_region ?_
  refine l_move rfl rfl ?_
  refine l_fieldAddr rfl fa_37_1 rfl ?_
  first | refine l_ld rfl Try.isAgg3 rfl rfl ?_ | refine l_ldw rfl Try.isAgg3 rfl (by omega) ?_
  refine l_fieldAddr rfl fa_37_2 rfl ?_
  first | refine l_ld rfl Try.isAgg3 rfl rfl ?_ | refine l_ldw rfl Try.isAgg3 rfl (by omega) ?_
  refine l_fronto g ?_
  refine l_frontb b ?_
  refine l_call rfl Try.call15 rfl (open_ok _ _ b g n c W hW hc hn hU _ (by omega) h _ (by omega) (by omega) hq hf) ?_; rintro _ _ ⟨rfl, rfl⟩
  refine l_assign rfl rfl ?_
  refine l_nil ?_
  refine g_inBlock ?_
  refine g_seq ?_
  refine g_region ?_
  refine l_move rfl rfl ?_
  refine l_fronto g2 ?_
  refine l_frontb b2 ?_
  refine l_call rfl Try.call16 rfl (words_ok _ _ b2 g2 n c2 W hW hc2 hn) ?_; rintro _ _ ⟨qa, ca, rfl, hca, rfl⟩
  refine l_move rfl rfl ?_
  refine l_fronto g ?_
  refine l_frontb b ?_
  refine l_call rfl Try.call16 rfl (words_ok _ _ b g n c ((W.set at_.toNat 0).set (at_.toNat + 1) ((W.getD (at_.toNat + 1) 0 + 1) % 4294967296)) (by simpa using hW) hc hn) ?_; rintro _ _ ⟨qb, cb, rfl, hcb, rfl⟩
  refine l_assign rfl rfl ?_
  refine l_assign rfl rfl ?_
  refine l_nil ?_
  refine g_seq ?_
  refine g_seq ?_
  refine g_region ?_
  refine l_move rfl rfl ?_
  refine l_len rfl Try.underlying26 rfl ?_
  refine l_move rfl rfl ?_
  refine l_len rfl Try.underlying26 rfl ?_
  refine l_neq rfl rfl rfl ?_
  refine l_nil ?_
  refine g_cond rfl ?_ ?_
  · intro hbr
    have hbr := of_decide_eq_true hbr
    (exfalso; omega)
  intro hbr
  have hbr := of_decide_eq_false hbr
  refine g_skip ?_
  refine g_seq ?_
  refine g_region ?_
  refine l_assign rfl rfl ?_
  refine l_nil ?_
  refine g_seq ?_
  refine g_seq ?_
  refine g_region ?_
  refine l_assign rfl rfl ?_
  refine l_nil ?_
  refine g_block ?_
  refine g_loop (X := Int × Int) (fun z => 0 ≤ z.1 ∧ z.1 ≤ n ∧ 0 ≤ z.2 ∧ z.2 ≤ z.1 ∧ (at_ + 1 < z.1 → 1 ≤ z.2)) (fun z => (n - z.1).toNat) (fun z => [(3, .pointer (some ⟨b3, 0, none⟩)), (8, .int .i64 0), (13, .slice (some ⟨qa, 0, none⟩) n ca), (14, .slice (some ⟨qb, 0, none⟩) n cb), (15, .int .i64 z.2), (16, .int .i64 z.1)]) (fun z => Own 23 1 (.slice (some ⟨qa, 0, none⟩) n ca) n (ints .u32 W) :: Own 23 1 (.slice (some ⟨qb, 0, none⟩) n cb) n (ints .u32 ((W.set at_.toNat 0).set (at_.toNat + 1) ((W.getD (at_.toNat + 1) 0 + 1) % 4294967296))) :: Blk b3 (.cells [Value.int .i64 kd, .int .i64 at_, .int .i64 kk, .int .u32 x].toArray 37 (0, 0)) :: F) (0, 0) ⟨by simp only; omega, by simp only; omega, by simp only; omega, by simp only; omega, by simp only; omega⟩ (.cons rfl (.cons rfl (.cons rfl (.cons rfl (.cons rfl (.cons rfl .nil)))))) (fun w hw => SPI.holds hw) ?_
  clear hr
  rintro ⟨i, q⟩ ⟨i0, i1, q0, q1, q2⟩ ih
  dsimp only
  simp only at i0 i1 q0 q1 q2
  have hdi := hd i.toNat
  have hpi := hp i.toNat
  refine g_seq ?_
  refine g_seq ?_
  refine g_region ?_
  refine l_move rfl rfl ?_
  refine l_move rfl rfl ?_
  refine l_len rfl Try.underlying26 rfl ?_
  refine l_lss rfl rfl rfl ?_
  refine l_nil ?_
  refine g_cond rfl ?_ ?_
  · intro hbr
    have hbr := of_decide_eq_true hbr
    refine g_skip ?_
    refine g_seq ?_
    refine g_block ?_
    refine g_seq ?_
    refine g_seq ?_
    refine gp_start mo (by kernel_rfl) (by kernel_rfl) ?_
    refine gp_quiet 0 rfl rfl rfl rfl rfl rfl (q_move rfl) ?_
    refine gp_quiet 1 rfl rfl rfl rfl rfl rfl (q_move rfl) ?_
    refine gp_quiet 2 rfl rfl rfl rfl rfl rfl (q_ixs Try.underlying26 Try.sizeOf23 rfl rfl (by omega) (by omega)) ?_
    refine gp_quiet 3 rfl rfl rfl rfl rfl rfl (q_ldw Try.isAgg23 rfl (by first | omega | (simp only [List.length_set]; omega))) ?_
    refine gp_quiet 4 rfl rfl rfl rfl rfl rfl (q_move rfl) ?_
    refine gp_quiet 5 rfl rfl rfl rfl rfl rfl (q_move rfl) ?_
    refine gp_quiet 6 rfl rfl rfl rfl rfl rfl (q_ixs Try.underlying26 Try.sizeOf23 rfl rfl (by omega) (by omega)) ?_
    refine gp_quiet 7 rfl rfl rfl rfl rfl rfl (q_ldw Try.isAgg23 rfl (by first | omega | (simp only [List.length_set]; omega))) ?_
    refine gp_quiet 8 rfl rfl rfl rfl rfl rfl (q_eql rfl rfl) ?_
    refine gp_end rfl rfl ?_
    refine g_cond rfl ?_ ?_
    · intro hbr
      have hbr := of_decide_eq_true hbr
      refine g_exit rfl ?_
      refine g_region ?_
      refine l_move rfl rfl ?_
      first | refine l_add rfl rfl rfl (w_i64 (by omega) (by omega)) ?_ | refine l_addw rfl rfl rfl ?_
      refine l_assign rfl rfl ?_
      refine l_nil ?_
      (first | exact g_againi (ih (i + 1, q + 1) ⟨by simp only; omega, by simp only; omega, by simp only; omega, by simp only; omega, by simp only; omega⟩ (by simp only; omega)) (.cons rfl (.cons rfl (.cons rfl (.cons rfl (.cons rfl (.cons rfl .nil)))))) | exact g_againi (ih (i + 1, q) ⟨by simp only; omega, by simp only; omega, by simp only; omega, by simp only; omega, by simp only; omega⟩ (by simp only; omega)) (.cons rfl (.cons rfl (.cons rfl (.cons rfl (.cons rfl (.cons rfl .nil)))))))
    intro hbr
    have hbr := of_decide_eq_false hbr
    refine g_skip ?_
    refine g_seq ?_
    refine g_seq ?_
    refine g_region ?_
    refine l_move rfl rfl ?_
    refine l_neq rfl rfl rfl ?_
    refine l_move rfl rfl ?_
    refine l_split 87 rfl ?_ ?_
    · intro hbr
      have hbr := of_decide_eq_true hbr
      (exfalso; omega)
    intro hbr
    have hbr := of_decide_eq_false hbr
    refine l_guard_yes rfl rfl ?_
    refine l_fieldAddr rfl fa_37_0 rfl ?_
    refine l_guard_yes rfl rfl ?_
    first | refine l_ld rfl Try.isAgg3 rfl rfl ?_ | refine l_ldw rfl Try.isAgg3 rfl (by omega) ?_
    refine l_guard_yes rfl rfl ?_
    refine l_eql rfl rfl rfl ?_
    refine l_pick_f rfl rfl rfl ?_
    refine l_move rfl rfl ?_
    refine l_split 92 rfl ?_ ?_
    · intro hbr
      have hbr := of_decide_eq_true hbr
      (exfalso; omega)
    intro hbr
    have hbr := of_decide_eq_false hbr
    refine l_guard_yes rfl rfl ?_
    refine l_move rfl rfl ?_
    refine l_guard_yes rfl rfl ?_
    refine l_fieldAddr rfl fa_37_1 rfl ?_
    refine l_guard_yes rfl rfl ?_
    first | refine l_ld rfl Try.isAgg3 rfl rfl ?_ | refine l_ldw rfl Try.isAgg3 rfl (by omega) ?_
    refine l_guard_yes rfl rfl ?_
    refine l_neq rfl rfl rfl ?_
    refine l_guard_yes rfl rfl ?_
    refine l_move rfl rfl ?_
    refine l_split 97 rfl ?_ ?_
    · intro hbr
      have hbr := of_decide_eq_true hbr
      refine l_guard_yes rfl rfl ?_
      refine l_move rfl rfl ?_
      refine l_guard_yes rfl rfl ?_
      refine l_fieldAddr rfl fa_37_1 rfl ?_
      refine l_guard_yes rfl rfl ?_
      first | refine l_ld rfl Try.isAgg3 rfl rfl ?_ | refine l_ldw rfl Try.isAgg3 rfl (by omega) ?_
      refine l_guard_yes rfl rfl ?_
      first | refine l_add rfl rfl rfl (w_i64 (by omega) (by omega)) ?_ | refine l_addw rfl rfl rfl ?_
      refine l_guard_yes rfl rfl ?_
      refine l_neq rfl rfl rfl ?_
      refine l_guard_yes rfl rfl ?_
      refine l_pick_t rfl rfl rfl ?_
      refine l_pick_f rfl rfl rfl ?_
      refine l_nil ?_
      refine g_cond rfl ?_ ?_
      · intro hbr
        have hbr := of_decide_eq_true hbr
        (exfalso; omega)
      intro hbr
      have hbr := of_decide_eq_false hbr
      refine g_skip ?_
      refine g_region ?_
      refine l_move rfl rfl ?_
      first | refine l_add rfl rfl rfl (w_i64 (by omega) (by omega)) ?_ | refine l_addw rfl rfl rfl ?_
      refine l_assign rfl rfl ?_
      refine l_nil ?_
      refine g_inBlock ?_
      refine g_region ?_
      refine l_move rfl rfl ?_
      first | refine l_add rfl rfl rfl (w_i64 (by omega) (by omega)) ?_ | refine l_addw rfl rfl rfl ?_
      refine l_assign rfl rfl ?_
      refine l_nil ?_
      (first | exact g_againi (ih (i + 1, q + 1) ⟨by simp only; omega, by simp only; omega, by simp only; omega, by simp only; omega, by simp only; omega⟩ (by simp only; omega)) (.cons rfl (.cons rfl (.cons rfl (.cons rfl (.cons rfl (.cons rfl .nil)))))) | exact g_againi (ih (i + 1, q) ⟨by simp only; omega, by simp only; omega, by simp only; omega, by simp only; omega, by simp only; omega⟩ (by simp only; omega)) (.cons rfl (.cons rfl (.cons rfl (.cons rfl (.cons rfl (.cons rfl .nil)))))))
    intro hbr
    have hbr := of_decide_eq_false hbr
    refine l_guard_no rfl rfl rfl ?_
    refine l_guard_no rfl rfl rfl ?_
    refine l_guard_no rfl rfl rfl ?_
    refine l_guard_no rfl rfl rfl ?_
    refine l_guard_no rfl rfl rfl ?_
    refine l_guard_yes rfl rfl ?_
    refine l_pick_f rfl rfl rfl ?_
    refine l_pick_f rfl rfl rfl ?_
    refine l_nil ?_
    refine g_cond_f rfl ?_
    refine g_skip ?_
    refine g_region ?_
    refine l_move rfl rfl ?_
    first | refine l_add rfl rfl rfl (w_i64 (by omega) (by omega)) ?_ | refine l_addw rfl rfl rfl ?_
    refine l_assign rfl rfl ?_
    refine l_nil ?_
    refine g_inBlock ?_
    refine g_region ?_
    refine l_move rfl rfl ?_
    first | refine l_add rfl rfl rfl (w_i64 (by omega) (by omega)) ?_ | refine l_addw rfl rfl rfl ?_
    refine l_assign rfl rfl ?_
    refine l_nil ?_
    (first | exact g_againi (ih (i + 1, q + 1) ⟨by simp only; omega, by simp only; omega, by simp only; omega, by simp only; omega, by simp only; omega⟩ (by simp only; omega)) (.cons rfl (.cons rfl (.cons rfl (.cons rfl (.cons rfl (.cons rfl .nil)))))) | exact g_againi (ih (i + 1, q) ⟨by simp only; omega, by simp only; omega, by simp only; omega, by simp only; omega, by simp only; omega⟩ (by simp only; omega)) (.cons rfl (.cons rfl (.cons rfl (.cons rfl (.cons rfl (.cons rfl .nil)))))))
  intro hbr
  have hbr := of_decide_eq_false hbr
  refine g_exit rfl ?_
  refine g_seq ?_
  refine g_seq ?_
  refine g_region ?_
  refine l_move rfl rfl ?_
  refine l_eql rfl rfl rfl ?_
  refine l_move rfl rfl ?_
  refine l_split 109 rfl ?_ ?_
  · intro hbr
    have hbr := of_decide_eq_true hbr
    refine l_guard_yes rfl rfl ?_
    refine l_fieldAddr rfl fa_37_0 rfl ?_
    refine l_guard_yes rfl rfl ?_
    first | refine l_ld rfl Try.isAgg3 rfl rfl ?_ | refine l_ldw rfl Try.isAgg3 rfl (by omega) ?_
    refine l_guard_yes rfl rfl ?_
    refine l_neq rfl rfl rfl ?_
    refine l_pick_t rfl rfl rfl ?_
    refine l_move rfl rfl ?_
    refine l_split 114 rfl ?_ ?_
    · intro hbr
      have hbr := of_decide_eq_true hbr
      refine l_guard_yes rfl rfl ?_
      refine l_move rfl rfl ?_
      refine l_guard_yes rfl rfl ?_
      refine l_eql rfl rfl rfl ?_
      refine l_pick_t rfl rfl rfl ?_
      refine l_nil ?_
      refine g_cond rfl ?_ ?_
      · intro hbr
        have hbr := of_decide_eq_true hbr
        (exfalso; omega)
      intro hbr
      have hbr := of_decide_eq_false hbr
      refine g_skip ?_
      refine g_seq ?_
      refine g_region ?_
      refine l_call rfl Try.call7 rfl (meets_ok _ _ _ _ _ (by omega) (by omega) (by omega)) ?_; rintro _ _ ⟨rfl, rfl⟩
      refine l_assign rfl rfl ?_
      refine l_nil ?_
      refine g_ret Try.func6 rfl (.tmp rfl .nil) ?_
      exact Gives.mki ⟨rfl, rfl⟩
    · intro hbr
      have hbr := of_decide_eq_false hbr
      (exfalso; omega)
  · intro hbr
    have hbr := of_decide_eq_false hbr
    (exfalso; omega)
theorem oth_long (w0 : World) (F : List Atom) (wa : Option Addr) (n cw : Nat) (hn : n ≤ 9223372036854775807) (h1 : 16384 < n) (l : List Value) :
    CallK Try.prog 6 [.slice wa n cw, .agg l.toArray] w0 (F) (Gives w0 fun v F2 => v = .bool true ∧ F2 = F) := by
  refine c_enter Try.func6 rfl rfl rfl ?_
  refine g_seq ?_
  refine g_region ?_
  refine l_boxs rfl rfl ?_; intro b3
  refine l_assign rfl rfl ?_
  refine l_nil ?_
  refine g_seq ?_
  refine g_region ?_
  refine l_move rfl rfl ?_
  refine l_call rfl Try.call8 rfl (of_long _ _ wa n cw hn h1) ?_; rintro _ _ ⟨rfl, rfl⟩
  refine l_move rfl rfl ?_
  refine l_extract rfl rfl rfl ?_
  refine l_extract rfl rfl rfl ?_
  refine l_assign rfl rfl ?_
  refine l_assign rfl rfl ?_
  refine l_nil ?_
  refine g_seq ?_
  refine g_seq ?_
  refine g_region ?_
  refine l_move rfl rfl ?_
  refine l_neq rfl rfl rfl ?_
  refine l_move rfl rfl ?_
  refine l_split 24 rfl ?_ ?_
  · intro hbr
    have hbr := of_decide_eq_true hbr
    refine l_guard_no rfl rfl rfl ?_
    refine l_guard_no rfl rfl rfl ?_
    refine l_pick_t rfl rfl rfl ?_
    refine l_nil ?_
    refine g_cond_t rfl ?_
    refine g_seq ?_
    refine g_region ?_
    refine l_call rfl Try.call7 rfl (meets_ok _ _ _ _ _ (by omega) (by omega) (by omega)) ?_; rintro _ _ ⟨rfl, rfl⟩
    refine l_assign rfl rfl ?_
    refine l_nil ?_
    refine g_ret Try.func6 rfl (.tmp rfl .nil) ?_
    exact Gives.mki ⟨rfl, rfl⟩
  · intro hbr
    have hbr := of_decide_eq_false hbr
    (exfalso; omega)
theorem oth_nobad (w0 : World) (F : List Atom) (wa : Option Addr) (n cw : Nat) (hn : n ≤ 9223372036854775807) (h1 : n ≤ 16384) (h2 : n = 0 ∨ n % 16 ≠ 0) (l : List Value) :
    CallK Try.prog 6 [.slice wa n cw, .agg l.toArray] w0 (F) (Gives w0 fun v F2 => v = .bool true ∧ F2 = F) := by
  refine c_enter Try.func6 rfl rfl rfl ?_
  refine g_seq ?_
  refine g_region ?_
  refine l_boxs rfl rfl ?_; intro b3
  refine l_assign rfl rfl ?_
  refine l_nil ?_
  refine g_seq ?_
  refine g_region ?_
  refine l_move rfl rfl ?_
  refine l_call rfl Try.call8 rfl (of_bad _ _ wa n cw hn h1 h2) ?_; rintro _ _ ⟨rfl, rfl⟩
  refine l_move rfl rfl ?_
  refine l_extract rfl rfl rfl ?_
  refine l_extract rfl rfl rfl ?_
  refine l_assign rfl rfl ?_
  refine l_assign rfl rfl ?_
  refine l_nil ?_
  refine g_seq ?_
  refine g_seq ?_
  refine g_region ?_
  refine l_move rfl rfl ?_
  refine l_neq rfl rfl rfl ?_
  refine l_move rfl rfl ?_
  refine l_split 24 rfl ?_ ?_
  · intro hbr
    have hbr := of_decide_eq_true hbr
    refine l_guard_no rfl rfl rfl ?_
    refine l_guard_no rfl rfl rfl ?_
    refine l_pick_t rfl rfl rfl ?_
    refine l_nil ?_
    refine g_cond_t rfl ?_
    refine g_seq ?_
    refine g_region ?_
    refine l_call rfl Try.call7 rfl (meets_ok _ _ _ _ _ (by omega) (by omega) (by omega)) ?_; rintro _ _ ⟨rfl, rfl⟩
    refine l_assign rfl rfl ?_
    refine l_nil ?_
    refine g_ret Try.func6 rfl (.tmp rfl .nil) ?_
    exact Gives.mki ⟨rfl, rfl⟩
  · intro hbr
    have hbr := of_decide_eq_false hbr
    (exfalso; omega)
end Go.Proofs.Ytoflbmjdpngdiaa.Fw
