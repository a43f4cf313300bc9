import Derived.Test.YtnkmhhjldfapdaaBack
namespace Go.Proofs.Ytnkmhhjldfapdaa.Fw
open Go Go.Proofs
set_option linter.unusedVariables false
set_option linter.unusedSimpArgs false
set_option maxRecDepth 10000

theorem pack_ok (w0 : World) (F : List Atom) (a : Option Addr) (n c : Nat) (W : List Int) (hI : IR w0 F .u32 a n W) (hU : W32s W) (hn : n ≤ 536870911) :
    CallK Try.prog 37 [.slice a n c] w0 (F) (Gives w0 fun v F2 => ∃ g, v = .slice (some ⟨g, 0, none⟩) (4 * n) (4 * n) ∧ F2 = Own 5 1 (.slice (some ⟨g, 0, none⟩) (4 * n) (4 * n)) (4 * n) (ints .u8 (packB W n)) :: F) := by
  have hl := hI.1
  refine c_enter Try.func37 rfl rfl rfl ?_
  refine g_seq ?_
  refine g_region ?_
  refine l_assign rfl rfl ?_
  refine l_nil ?_
  refine g_seq ?_
  refine g_region ?_
  refine l_call rfl Try.call25 rfl (neww_ok _ _) ?_; rintro _ _ ⟨bw, br, rfl, hF9⟩; rw [hF9]; clear hF9
  refine l_assign rfl rfl ?_
  refine l_nil ?_
  refine g_seq ?_
  refine g_seq ?_
  refine g_region ?_
  refine l_move rfl rfl ?_
  refine l_len rfl Try.underlying54 rfl ?_
  refine l_move rfl rfl ?_
  refine l_nil ?_
  refine g_block ?_
  refine g_loopk (X := Int × Option Addr × Nat) [(2, _), (3, _), (7, _), (8, _)] (.cons rfl (.cons rfl (.cons rfl (.cons rfl (.nil))))) (fun z => 0 ≤ z.1 ∧ z.1 ≤ n ∧ (4 * z.1.toNat = 0 ∨ ∃ g, z.2.1 = some ⟨g, 0, none⟩)) (fun z => (n - z.1).toNat) (fun z => [(9, .int .i64 z.1)]) (fun z => Blk bw (.cells [Value.pointer (some ⟨br, 0, none⟩)].toArray 111 (0, 0)) :: Blk br (.cells [Value.slice z.2.1 (4 * z.1.toNat) z.2.2, .int .i64 0].toArray 109 (0, 0)) :: Own 5 1 (.slice z.2.1 (4 * z.1.toNat) z.2.2) (4 * z.1.toNat) (ints .u8 (packB W z.1.toNat)) :: F) ((0, none, 0)) (⟨by simp only; omega, by simp only; omega, .inl rfl⟩) (.cons rfl .nil) ((fun w hw => hw)) ?_
  rintro ⟨i, a1, c1⟩ ⟨i0, i1, ha1⟩ ih
  dsimp only [List.cons_append, List.nil_append] at ih ⊢
  simp only at i0 i1 ha1
  have hbi := hU i.toNat
  refine g_seq ?_
  refine g_region ?_
  refine l_lss rfl rfl rfl ?_
  refine l_nil ?_
  refine g_seq ?_
  refine g_cond rfl ?_ ?_
  · intro hbr
    have hbr := of_decide_eq_true hbr
    refine g_skip ?_
    refine g_seq ?_
    refine g_block ?_
    refine g_seq ?_
    refine g_region ?_
    obtain ⟨b9, o9, rfl, hr9⟩ := hI.some (i := i.toNat) (by omega)
    refine l_ixs rfl Try.underlying54 Try.sizeOf23 rfl rfl (by omega) (by omega) ?_
    refine l_loadc rfl Try.isAgg23 rfl (word_any hr9 (by omega)) ?_
    refine l_assign rfl rfl ?_
    refine l_nil ?_
    refine g_region ?_
    refine l_move rfl rfl ?_
    refine l_move rfl rfl ?_
    refine l_call rfl Try.call45 rfl (u32_ok _ _ bw br a1 _ c1 _ (packB_len W i.toNat) ha1 (by omega) _ (by omega) (by omega) (packB W (i + 1).toNat) (by rw [show (i + 1).toNat = i.toNat + 1 by omega]; rfl)) ?_; rintro _ _ ⟨a2, c2, ha2, rfl⟩
    refine l_nil ?_
    refine g_inBlock ?_
    refine g_region ?_
    first | refine l_add rfl rfl rfl (w_i64 (by omega) (by omega)) ?_ | refine l_addw rfl rfl rfl ?_
    refine l_move rfl rfl ?_
    refine l_nil ?_
    rw [show 4 * i.toNat + 4 = 4 * (i + 1).toNat by omega] at ha2 ⊢
    exact g_againi (ih (i + 1, a2, c2) ⟨by simp only; omega, by simp only; omega, ha2⟩ (by simp only; omega)) (.cons rfl (.cons rfl (.cons rfl (.cons rfl (.cons rfl (.nil))))))
  intro hbr
  have hbr := of_decide_eq_false hbr
  refine g_exit rfl ?_
  obtain rfl : i = n := by omega
  rw [Int.toNat_natCast] at ha1 ⊢
  refine g_seq ?_
  refine g_region ?_
  refine l_move rfl rfl ?_
  refine l_call rfl Try.call28 rfl (out_ok _ _ bw br a1 (4 * n) c1 (packB W n) (packB_len W n) ha1 (by omega)) ?_; rintro _ _ ⟨go, rfl, rfl⟩
  refine l_assign rfl rfl ?_
  refine l_nil ?_
  refine g_ret Try.func37 rfl (.tmp rfl .nil) ?_
  exact Gives.mki ⟨go, rfl, rfl⟩
theorem unpack_ok (w0 : World) (F : List Atom) (a : Option Addr) (nb n c : Nat) (W : List Int) (hnb : nb = 4 * n) (hr : Reads w0 F (.slice a nb c) nb 1 (ints .u8 (packB W n))) (hW : W.length = n) (hU : W32s W) (hn : n ≤ 536870911) :
    CallK Try.prog 38 [.slice a nb c] w0 (F) (Gives w0 fun v F2 => ∃ a2 c2, v = .tuple #[.slice a2 n c2, .int .i64 0] ∧ (n = 0 ∨ ∃ g, a2 = some ⟨g, 0, none⟩) ∧ F2 = Own 23 1 (.slice a2 n c2) n (ints .u32 W) :: F) := by
  have hpl := packB_len W n
  have hpu := U8s.of (packB_bd W n)
  refine c_enter Try.func38 rfl rfl rfl ?_
  refine g_seq ?_
  refine g_region ?_
  refine l_assign rfl rfl ?_
  refine l_assign rfl rfl ?_
  refine l_nil ?_
  refine g_seq ?_
  refine g_seq ?_
  refine g_region ?_
  refine l_move rfl rfl ?_
  refine l_len rfl Try.underlying36 rfl ?_
  refine l_rem rfl rfl rfl (by omega) (by omega) (w_i64 (by omega) (by omega)) ?_
  refine l_neq rfl rfl rfl ?_
  refine l_nil ?_
  refine g_cond rfl ?_ ?_
  · intro hbr
    have hbr := of_decide_eq_true hbr
    (exfalso; omega)
  intro hbr
  have hbr := of_decide_eq_false hbr
  refine g_skip ?_
  refine g_seq ?_
  refine g_region ?_
  refine l_assign rfl rfl ?_
  refine l_nil ?_
  refine g_seq ?_
  refine g_seq ?_
  refine g_region ?_
  refine l_move rfl rfl ?_
  refine l_call rfl Try.call29 rfl (newr_ok _ _ a nb c (packB W n) (by omega) (by omega) hr) ?_; rintro _ _ ⟨bq, bs, g, rfl, hF9⟩; rw [hF9]; clear hF9
  refine l_assign rfl rfl ?_
  refine l_nil ?_
  refine g_block ?_
  refine g_own_nil 23 1 ?_
  refine g_fronto g ?_
  refine g_frontb bs ?_
  refine g_frontb bq ?_
  refine g_loopk (X := Int × Option Addr × Nat) [(2, _), (3, _), (5, _)] (.cons rfl (.cons rfl (.cons rfl (.nil)))) (fun z => 0 ≤ z.1 ∧ z.1 ≤ n ∧ (z.1.toNat = 0 ∨ ∃ g, z.2.1 = some ⟨g, 0, none⟩)) (fun z => (n - z.1).toNat) (fun z => [(4, .slice z.2.1 z.1.toNat z.2.2)]) (fun z => Blk bq (.cells [Value.pointer (some ⟨bs, 0, none⟩), .int .i64 0].toArray 113 (0, 0)) :: Blk bs (.cells [Value.slice (some ⟨g, 0, none⟩) nb nb, .int .i64 ((4 * z.1.toNat : Nat) : Int)].toArray 109 (0, 0)) :: Own 5 1 (.slice (some ⟨g, 0, none⟩) nb nb) nb (ints .u8 (packB W n)) :: Own 23 1 (.slice z.2.1 z.1.toNat z.2.2) z.1.toNat (ints .u32 (W.take z.1.toNat)) :: F) ((0, none, 0)) (⟨by simp only; omega, by simp only; omega, .inl rfl⟩) (.cons rfl .nil) ((fun w hw => hw)) ?_
  rintro ⟨i, a1, c1⟩ ⟨i0, i1, ha1⟩ ih
  dsimp only [List.cons_append, List.nil_append] at ih ⊢
  simp only at i0 i1 ha1
  have hbi := hU i.toNat
  refine g_seq ?_
  refine g_seq ?_
  refine g_region ?_
  refine l_move rfl rfl ?_
  refine l_inl rfl Try.call33 rfl ?_
  refine c_enter Try.func33 rfl rfl rfl ?_
  refine g_seq ?_
  refine g_region ?_
  refine l_assign rfl rfl ?_
  refine l_nil ?_
  refine g_seq ?_
  refine g_seq ?_
  refine g_region ?_
  refine l_move rfl rfl ?_
  refine l_eqpn rfl Try.underlying69 rfl rfl ?_
  refine l_nil ?_
  first | refine g_cond_f rfl ?_ | refine g_cond_f (congrArg (fun b => some (Value.bool b)) (decide_eq_false hbr)) ?_
  refine g_skip ?_
  refine g_seq ?_
  refine g_region ?_
  refine l_move rfl rfl ?_
  refine l_nilCheck rfl rfl ?_
  refine l_fieldAddr rfl fa_113_0 rfl ?_
  refine l_ld rfl Try.isAgg107 rfl rfl ?_
  refine l_inl rfl Try.call74 rfl ?_
  refine c_enter Try.func74 rfl rfl rfl ?_
  refine g_seq ?_
  refine g_region ?_
  refine l_assign rfl rfl ?_
  refine l_nil ?_
  refine g_seq ?_
  refine g_seq ?_
  refine g_region ?_
  refine l_move rfl rfl ?_
  refine l_eqpn rfl Try.underlying107 rfl rfl ?_
  refine l_nil ?_
  first | refine g_cond_f rfl ?_ | refine g_cond_f (congrArg (fun b => some (Value.bool b)) (decide_eq_false hbr)) ?_
  refine g_skip ?_
  refine g_seq ?_
  refine gp_start mo (by kernel_rfl) (by kernel_rfl) ?_
  refine gp_quiet 0 rfl rfl rfl rfl rfl rfl (q_move rfl) ?_
  refine gp_quiet 1 rfl rfl rfl rfl rfl rfl (q_nilCheck rfl) ?_
  refine gp_quiet 2 rfl rfl rfl rfl rfl rfl (q_fieldAddr fa_109_0 rfl) ?_
  refine gp_quiet 3 rfl rfl rfl rfl rfl rfl (q_ld Try.isAgg36 rfl rfl) ?_
  refine gp_quiet 4 rfl rfl rfl rfl rfl rfl (q_len Try.underlying36 rfl) ?_
  refine gp_quiet 5 rfl rfl rfl rfl rfl rfl (q_move rfl) ?_
  refine gp_quiet 6 rfl rfl rfl rfl rfl rfl (q_nilCheck rfl) ?_
  refine gp_quiet 7 rfl rfl rfl rfl rfl rfl (q_fieldAddr fa_109_1 rfl) ?_
  first | refine gp_quiet 8 rfl rfl rfl rfl rfl rfl (q_ld Try.isAgg3 rfl rfl) ?_ | refine gp_quiet 8 rfl rfl rfl rfl rfl rfl (q_ldw Try.isAgg3 rfl (by omega)) ?_
  first | refine gp_quiet 9 rfl rfl rfl rfl rfl rfl (q_sub_ rfl rfl (w_i64 (by omega) (by omega))) ?_ | refine gp_quiet 9 rfl rfl rfl rfl rfl rfl (q_subw rfl rfl) ?_
  refine gp_quiet 10 rfl rfl rfl rfl rfl rfl (q_assign rfl) ?_
  refine gp_end rfl rfl ?_
  refine g_ret Try.func74 rfl (.tmp rfl .nil) ?_
  first | refine ⟨.int _ _, rfl, ?_⟩ | refine ⟨_, rfl, ?_⟩
  refine l_assign rfl rfl ?_
  refine l_nil ?_
  refine g_ret Try.func33 rfl (.tmp rfl .nil) ?_
  first | refine ⟨.int _ _, rfl, ?_⟩ | refine ⟨_, rfl, ?_⟩
  refine l_gtr rfl rfl rfl ?_
  refine l_nil ?_
  refine g_cond rfl ?_ ?_
  · intro hbr
    have hbr := of_decide_eq_true hbr
    refine g_skip ?_
    refine g_block ?_
    refine g_region ?_
    refine l_move rfl rfl ?_
    refine l_move rfl rfl ?_
    refine l_call rfl Try.call47 rfl (r32_ok _ _ bq bs g nb _ (by omega) hpu (by omega) ((4 * i.toNat : Nat) : Int) 0 (by omega) (by omega) (by omega) (by omega)) ?_; rintro _ _ ⟨m, p2, q2, hR, rfl, rfl⟩
    rw [packB_rd (by omega) hbi.1 hbi.2] at hR
    injection hR with hR1 hR2
    injection hR2 with hR2 hR3
    subst hR1 hR2 hR3
    refine l_buildSlice rfl Try.underlying54 Try.sizeOf23 Try.zeroValue23 rfl rfl rfl rfl rfl rfl ?_; intro b18
    refine l_does rfl (does_apps 4 (by_ := 4) (kd := .u32) (V := W.take i.toNat) (W := [W.getD i.toNat 0]) (m := i.toNat) (m2 := 1) (m3 := (i + 1).toNat) (V3 := W.take (i + 1).toNat) Try.underlying54 Try.type23 rfl rfl rfl rfl rfl rfl rfl ⟨rfl, .inl ⟨_, _, _, rfl, .own (mem_getO 0 rfl)⟩⟩ (by omega) (by simp only [maxLen]; omega) (by omega) (by rw [show (i + 1).toNat = i.toNat + 1 by omega]; exact take_snoc (by omega)) (fun _ _ => rfl)) ?_
    rintro _ _ ⟨a19, c19, ha19, hn19, rfl, rfl⟩
    refine l_assign rfl rfl ?_
    refine l_nil ?_
    refine g_inBlock ?_
    rw [show ((4 * i.toNat : Nat) : Int) + 4 = ((4 * (i + 1).toNat : Nat) : Int) by omega]
    exact g_againi (ih (i + 1, a19, c19) ⟨by simp only; omega, by simp only; omega, ha19⟩ (by simp only; omega)) (.cons rfl (.cons rfl (.cons rfl (.cons rfl (.nil)))))
  intro hbr
  have hbr := of_decide_eq_false hbr
  refine g_exit rfl ?_
  obtain rfl : i = n := by omega
  rw [Int.toNat_natCast] at ha1 ⊢
  rw [List.take_of_length_le (by omega)]
  refine g_seq ?_
  refine g_region ?_
  refine l_move rfl rfl ?_
  refine l_assign rfl rfl ?_
  refine l_assign rfl rfl ?_
  refine l_nil ?_
  refine g_ret Try.func38 rfl (.tmp rfl (.tmp rfl .nil)) ?_
  exact Gives.mki ⟨a1, c1, rfl, ha1, rfl⟩
theorem same_words (w0 : World) (F : List Atom) (a1 a2 : Option Addr) (n c1 c2 : Nat) (W : List Int) (h1 : IR w0 F .u32 a1 n W) (h2 : IR w0 F .u32 a2 n W) (hb : W32s W) (hn : n ≤ 9223372036854775807) :
    CallK Try.prog 39 [.slice a1 n c1, .slice a2 n c2] w0 (F) (Gives w0 fun v F2 => v = .bool true ∧ F2 = F) := by
  have hl := h1.1
  refine c_enter Try.func39 rfl rfl rfl ?_
  refine g_seq ?_
  refine g_region ?_
  refine l_assign rfl rfl ?_
  refine l_nil ?_
  refine g_seq ?_
  refine g_seq ?_
  refine g_region ?_
  refine l_move rfl rfl ?_
  refine l_len rfl Try.underlying54 rfl ?_
  refine l_move rfl rfl ?_
  refine l_len rfl Try.underlying54 rfl ?_
  refine l_neq rfl rfl rfl ?_
  refine l_nil ?_
  refine g_cond rfl ?_ ?_
  · intro hbr
    have hbr := of_decide_eq_true hbr
    (exfalso; omega)
  intro hbr
  have hbr := of_decide_eq_false hbr
  refine g_skip ?_
  refine g_seq ?_
  refine g_seq ?_
  refine g_region ?_
  refine l_assign rfl rfl ?_
  refine l_nil ?_
  refine g_block ?_
  refine g_loopc (X := Int) [(0, _), (1, _)] (.cons rfl (.cons rfl (.nil))) (fun i => 0 ≤ i ∧ i ≤ n) (fun i => (n - i).toNat) (fun i => [(5, .int .i64 i)]) (0) (by omega) (.cons rfl .nil) ?_
  rintro i ⟨i0, i1⟩ ih
  dsimp only [List.cons_append, List.nil_append] at ih ⊢
  refine g_seq ?_
  refine g_seq ?_
  refine g_region ?_
  refine l_move rfl rfl ?_
  refine l_move rfl rfl ?_
  refine l_len rfl Try.underlying54 rfl ?_
  refine l_lss rfl rfl rfl ?_
  refine l_nil ?_
  refine g_cond rfl ?_ ?_
  · intro hbr
    have hbr := of_decide_eq_true hbr
    refine g_skip ?_
    refine g_seq ?_
    refine g_block ?_
    refine g_seq ?_
    refine gp_start mo (by kernel_rfl) (by kernel_rfl) ?_
    refine gp_quiet 0 rfl rfl rfl rfl rfl rfl (q_move rfl) ?_
    refine gp_quiet 1 rfl rfl rfl rfl rfl rfl (q_move rfl) ?_
    obtain ⟨b1, o1, rfl, hr1⟩ := h1.some (i := i.toNat) (by omega)
    refine gp_quiet 2 rfl rfl rfl rfl rfl rfl (q_ixs Try.underlying54 Try.sizeOf23 rfl rfl (by omega) (by omega)) ?_
    refine gp_quiet 3 rfl rfl rfl rfl rfl rfl (q_loadc Try.isAgg23 rfl (word_any hr1 (by omega))) ?_
    refine gp_quiet 4 rfl rfl rfl rfl rfl rfl (q_move rfl) ?_
    refine gp_quiet 5 rfl rfl rfl rfl rfl rfl (q_move rfl) ?_
    obtain ⟨b2, o2, rfl, hr2⟩ := h2.some (i := i.toNat) (by omega)
    refine gp_quiet 6 rfl rfl rfl rfl rfl rfl (q_ixs Try.underlying54 Try.sizeOf23 rfl rfl (by omega) (by omega)) ?_
    refine gp_quiet 7 rfl rfl rfl rfl rfl rfl (q_loadc Try.isAgg23 rfl (word_any hr2 (by omega))) ?_
    refine gp_quiet 8 rfl rfl rfl rfl rfl rfl (q_neq rfl rfl) ?_
    refine gp_end rfl rfl ?_
    refine g_cond rfl ?_ ?_
    · intro hbr
      have hbr := of_decide_eq_true hbr
      (exfalso; omega)
    intro hbr
    have hbr := of_decide_eq_false hbr
    refine g_skip ?_
    refine g_inBlock ?_
    refine g_region ?_
    refine l_move rfl rfl ?_
    first | refine l_add rfl rfl rfl (w_i64 (by omega) (by omega)) ?_ | refine l_addw rfl rfl rfl ?_
    refine l_assign rfl rfl ?_
    refine l_nil ?_
    exact g_againi (ih (i + 1) (by omega) (by omega)) (.cons rfl (.cons rfl (.cons rfl (.nil))))
  intro hbr
  have hbr := of_decide_eq_false hbr
  refine g_exit rfl ?_
  refine g_seq ?_
  refine g_region ?_
  refine l_assign rfl rfl ?_
  refine l_nil ?_
  refine g_ret Try.func39 rfl (.tmp rfl .nil) ?_
  exact Gives.mki ⟨rfl, rfl⟩
end Go.Proofs.Ytnkmhhjldfapdaa.Fw
