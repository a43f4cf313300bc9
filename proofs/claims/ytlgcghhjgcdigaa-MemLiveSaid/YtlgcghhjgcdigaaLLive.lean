import Derived.Test.YtlgcghhjgcdigaaThru
namespace Go.Proofs.Ytlgcghhjgcdigaa.Fw
open Go Go.Proofs
set_option linter.unusedVariables false
set_option linter.unusedSimpArgs false
set_option maxRecDepth 10000
theorem bd_42_z  (w : World) : (Instr.build 42 #[]).run Try.prog w = .ok (.agg #[.pointer none, .pointer none, .slice none 0 0, .slice none 0 0]) w := by kernel_rfl
set_option maxHeartbeats 4000000 in
theorem made_ok (w0 : World) (F : List Atom) (a : Option Addr) (n cc : Nat) (Y : List Int) (hI : IR w0 F .u32 a n Y) (hn : n ≤ 35184372087808) :
    CallK Try.prog 14 [.slice a n cc] w0 (F) (Gives w0 fun v F2 => ∃ b g c x N X, v = .tuple #[.pointer (some ⟨b, 0, none⟩), .slice (some ⟨x, 0, none⟩) N N] ∧ N ≤ c ∧ N ≤ 48 ∧ X.length = N ∧ F2 = Blk b (.cells [Value.slice (some ⟨g, 0, none⟩) N c].toArray 77 (0, 0)) :: Own 30 1 (.slice (some ⟨g, 0, none⟩) N c) N (ints .u32 X) :: Own 30 1 (.slice (some ⟨x, 0, none⟩) N N) N (ints .u32 X) :: F) := by
  have hl := hI.1
  refine c_enter Try.func14 rfl rfl rfl ?_
  refine g_seq ?_
  refine g_region ?_
  refine l_assign rfl rfl ?_
  refine l_assign rfl rfl ?_
  refine l_nil ?_
  refine g_seq ?_
  refine g_region ?_
  refine l_move rfl rfl ?_
  refine l_len rfl Try.underlying23 rfl ?_
  refine l_rem rfl rfl rfl (by omega) (by omega) (w_i64 (by omega) (by omega)) ?_
  first | refine l_add rfl rfl rfl (w_i64 (by omega) (by omega)) ?_ | refine l_addw rfl rfl rfl ?_
  first | refine l_mul rfl rfl rfl (w_i64 (by omega) (by omega)) ?_ | refine l_mulw rfl rfl rfl ?_
  obtain ⟨N, hN⟩ : ∃ N : Nat, 16 * (1 + (n : Int) % 3) = N := ⟨(16 * (1 + (n : Int) % 3)).toNat, by omega⟩
  rw [hN]
  have hN1 : 16 ≤ N ∧ N ≤ 48 ∧ N % 16 = 0 := by omega
  refine l_makew rfl Try.underlying23 Try.type30 rfl rfl rfl rfl (by omega) (by show (4 : Int) * _ ≤ _; omega) (by omega) ?_; intro b13; rw [Int.toNat_natCast]
  refine l_assign rfl rfl ?_
  refine l_nil ?_
  refine g_seq ?_
  refine g_seq ?_
  refine g_region ?_
  refine l_assign rfl rfl ?_
  refine l_nil ?_
  refine g_block ?_
  refine g_loopk (X := Int × List Int) [(0, _), (2, _), (3, _), (4, _)] (.cons rfl (.cons rfl (.cons rfl (.cons rfl (.nil))))) (fun z => 0 ≤ z.1 ∧ z.1 ≤ n ∧ z.2.length = N) (fun z => ((n : Int) - z.1).toNat) (fun z => [(5, .int .i64 z.1)]) (fun z => Own 30 1 (.slice (some ⟨b13, 0, none⟩) N N) N (ints .u32 z.2) :: F) ((0, List.replicate N 0)) (⟨by simp only; omega, by simp only; omega, List.length_replicate ..⟩) (.cons rfl .nil) (fun w hw => SPI.holds hw) ?_
  rintro ⟨i, X⟩ ⟨i0, i1, hX⟩ ih
  dsimp only [List.cons_append, List.nil_append] at ih ⊢
  simp only at i0 i1 hX
  refine g_seq ?_
  refine g_seq ?_
  refine g_region ?_
  refine l_move rfl rfl ?_
  refine l_move rfl rfl ?_
  refine l_len rfl Try.underlying23 rfl ?_
  refine l_lss rfl rfl rfl ?_
  refine l_move rfl rfl ?_
  refine l_split 18 rfl ?_ ?_
  · intro hbr
    have hbr := of_decide_eq_true hbr
    refine l_guard_yes rfl rfl ?_
    refine l_move rfl rfl ?_
    refine l_guard_yes rfl rfl ?_
    refine l_move rfl rfl ?_
    refine l_guard_yes rfl rfl ?_
    refine l_len rfl Try.underlying23 rfl ?_
    refine l_guard_yes rfl rfl ?_
    refine l_lss rfl rfl rfl ?_
    refine l_pick_t rfl rfl rfl ?_
    refine l_nil ?_
    refine g_cond rfl ?_ ?_
    · intro hbr
      have hbr := of_decide_eq_true hbr
      refine g_skip ?_
      refine g_seq ?_
      refine g_block ?_
      refine g_region ?_
      refine l_move rfl rfl ?_
      refine l_move rfl rfl ?_
      refine l_move rfl rfl ?_
      refine l_move rfl rfl ?_
      obtain ⟨b9, o9, rfl, hr9⟩ := hI.some (i := i.toNat) (by omega)
      refine l_ixs rfl Try.underlying23 Try.sizeOf30 rfl rfl (by omega) (by omega) ?_
      refine l_loadc rfl Try.isAgg30 rfl (word_any hr9 (by omega)) ?_
      refine l_ixs rfl Try.underlying23 Try.sizeOf30 rfl rfl (by omega) (by omega) ?_
      refine l_storew 0 Try.sizeOf30 rfl rfl rfl (by omega) rfl ?_
      refine l_nil ?_
      refine g_inBlock ?_
      refine g_region ?_
      refine l_move rfl rfl ?_
      first | refine l_add rfl rfl rfl (w_i64 (by omega) (by omega)) ?_ | refine l_addw rfl rfl rfl ?_
      refine l_assign rfl rfl ?_
      refine l_nil ?_
      exact g_againi (ih (i + 1, X.set i.toNat (Y.getD i.toNat 0)) ⟨by simp only; omega, by simp only; omega, by simp only [List.length_set]; exact hX⟩ (by simp only; omega)) (.cons rfl (.cons rfl (.cons rfl (.cons rfl (.cons rfl (.nil))))))
    intro hbr
    have hbr := of_decide_eq_false hbr
    refine g_exit rfl ?_
    refine g_seq ?_
    refine g_region ?_
    refine l_move rfl rfl ?_
    refine l_call rfl Try.call32 rfl (of_ok _ _ b13 0 N N X hX (by omega) (.own (mem_getO 0 rfl)) (by omega) (by omega) (by omega)) ?_; rintro _ _ ⟨b, g, c, rfl, hc, rfl⟩
    refine l_move rfl rfl ?_
    refine l_extract rfl rfl rfl ?_
    refine l_extract rfl rfl rfl ?_
    refine l_assign rfl rfl ?_
    refine l_assign rfl rfl ?_
    refine l_nil ?_
    refine g_seq ?_
    refine g_seq ?_
    refine g_region ?_
    refine l_move rfl rfl ?_
    refine l_neq rfl rfl rfl ?_
    refine l_nil ?_
    refine g_cond rfl ?_ ?_
    · intro hbr
      have hbr := of_decide_eq_true hbr
      (exfalso; omega)
    intro hbr
    have hbr := of_decide_eq_false hbr
    refine g_skip ?_
    refine g_seq ?_
    refine g_region ?_
    refine l_move rfl rfl ?_
    refine l_move rfl rfl ?_
    refine l_assign rfl rfl ?_
    refine l_assign rfl rfl ?_
    refine l_nil ?_
    refine g_ret Try.func14 rfl (.tmp rfl (.tmp rfl .nil)) ?_
    exact Gives.mki ⟨b, g, c, b13, N, X, rfl, hc, by omega, hX, rfl⟩
  intro hbr
  have hbr := of_decide_eq_false hbr
  refine l_guard_no rfl rfl rfl ?_
  refine l_guard_no rfl rfl rfl ?_
  refine l_guard_no rfl rfl rfl ?_
  refine l_guard_no rfl rfl rfl ?_
  refine l_pick_f rfl rfl rfl ?_
  refine l_nil ?_
  refine g_cond_f rfl ?_
  refine g_exit rfl ?_
  refine g_seq ?_
  refine g_region ?_
  refine l_move rfl rfl ?_
  refine l_call rfl Try.call32 rfl (of_ok _ _ b13 0 N N X hX (by omega) (.own (mem_getO 0 rfl)) (by omega) (by omega) (by omega)) ?_; rintro _ _ ⟨b, g, c, rfl, hc, rfl⟩
  refine l_move rfl rfl ?_
  refine l_extract rfl rfl rfl ?_
  refine l_extract rfl rfl rfl ?_
  refine l_assign rfl rfl ?_
  refine l_assign rfl rfl ?_
  refine l_nil ?_
  refine g_seq ?_
  refine g_seq ?_
  refine g_region ?_
  refine l_move rfl rfl ?_
  refine l_neq rfl rfl rfl ?_
  refine l_nil ?_
  refine g_cond rfl ?_ ?_
  · intro hbr
    have hbr := of_decide_eq_true hbr
    (exfalso; omega)
  intro hbr
  have hbr := of_decide_eq_false hbr
  refine g_skip ?_
  refine g_seq ?_
  refine g_region ?_
  refine l_move rfl rfl ?_
  refine l_move rfl rfl ?_
  refine l_assign rfl rfl ?_
  refine l_assign rfl rfl ?_
  refine l_nil ?_
  refine g_ret Try.func14 rfl (.tmp rfl (.tmp rfl .nil)) ?_
  exact Gives.mki ⟨b, g, c, b13, N, X, rfl, hc, by omega, hX, rfl⟩
set_option maxHeartbeats 8000000 in
theorem live_ok (w0 : World) (F : List Atom) (aw : Option Addr) (n1_ cw : Nat) (Y1 : List Int) (hI1 : IR w0 F .u32 aw n1_ Y1) (hw1 : n1_ ≤ 35184372087808) (aq : Option Addr) (n2_ cq : Nat) (Y2 : List Int) (hI2 : IR w0 F .u32 aq n2_ Y2) (hw2 : n2_ ≤ 35184372087808) (wa : Option Addr) (wn wc : Nat) (L : List WkV) (hLl : L.length = wn) (hs : wn = 0 ∨ ∃ b o, wa = some ⟨b, o, none⟩ ∧ RowAt w0 F b o (L.map wkV).flatten) (hok : ∀ o ∈ L, WkOk o) (hwn : wn ≤ 9223372036854775806) :
    CallK Try.prog 5 [.slice aw n1_ cw, .slice aq n2_ cq, .slice wa wn wc] w0 (F) (Gives w0 fun v F2 => v = .bool true ∧ F2 = F) := by
  refine c_enter Try.func5 rfl rfl rfl ?_
  refine g_seq ?_
  refine g_region ?_
  refine l_assign rfl rfl ?_
  refine l_nil ?_
  refine g_seq ?_
  refine g_region ?_
  refine l_build rfl rfl (fun w => bd_42_z w) ?_
  refine l_boxs rfl rfl ?_; intro b15
  refine l_assign rfl rfl ?_
  refine l_nil ?_
  refine g_seq ?_
  refine g_region ?_
  refine l_move rfl rfl ?_
  refine l_move rfl rfl ?_
  refine l_move rfl rfl ?_
  refine l_call rfl Try.call14 rfl (made_ok _ _ aw n1_ cw Y1 hI1.ex hw1) ?_; rintro _ _ ⟨b1, g1, c1, x1, n1, A, rfl, hc1, hn1, hA, rfl⟩
  refine l_move rfl rfl ?_
  refine l_extract (v := .pointer (some ⟨b1, 0, none⟩)) rfl rfl rfl ?_
  refine l_extract (v := .slice (some ⟨x1, 0, none⟩) n1 n1) rfl rfl rfl ?_
  refine l_nilCheck rfl rfl ?_
  refine l_fieldAddr rfl fa_42_0 rfl ?_
  refine l_st Try.sizeOf25 rfl rfl rfl rfl ?_
  refine l_nilCheck rfl rfl ?_
  refine l_fieldAddr rfl fa_42_2 rfl ?_
  refine l_st Try.sizeOf23 rfl rfl rfl rfl ?_
  refine l_nil ?_
  refine g_seq ?_
  refine g_region ?_
  refine l_move rfl rfl ?_
  refine l_move rfl rfl ?_
  refine l_move rfl rfl ?_
  refine l_call rfl Try.call14 rfl (made_ok _ _ aq n2_ cq Y2 hI2.ex hw2) ?_; rintro _ _ ⟨b2, g2, c2, x2, n2, B, rfl, hc2, hn2, hB, rfl⟩
  refine l_move rfl rfl ?_
  refine l_extract (v := .pointer (some ⟨b2, 0, none⟩)) rfl rfl rfl ?_
  refine l_extract (v := .slice (some ⟨x2, 0, none⟩) n2 n2) rfl rfl rfl ?_
  refine l_nilCheck rfl rfl ?_
  refine l_fieldAddr rfl fa_42_1 rfl ?_
  refine l_st Try.sizeOf25 rfl rfl rfl rfl ?_
  refine l_nilCheck rfl rfl ?_
  refine l_fieldAddr rfl fa_42_3 rfl ?_
  refine l_st Try.sizeOf23 rfl rfl rfl rfl ?_
  refine l_nil ?_
  refine g_seq ?_
  refine g_seq ?_
  refine g_region ?_
  refine l_move rfl rfl ?_
  refine l_nilCheck rfl rfl ?_
  refine l_fieldAddr rfl fa_42_0 rfl ?_
  refine l_ld rfl Try.isAgg25 rfl rfl ?_
  refine l_eqpn rfl Try.underlying25 rfl rfl ?_
  refine l_move rfl rfl ?_
  refine l_guard_yes rfl rfl ?_
  refine l_move rfl rfl ?_
  refine l_guard_yes rfl rfl ?_
  refine l_nilCheck rfl rfl ?_
  refine l_guard_yes rfl rfl ?_
  refine l_fieldAddr rfl fa_42_1 rfl ?_
  refine l_guard_yes rfl rfl ?_
  refine l_ld rfl Try.isAgg25 rfl rfl ?_
  refine l_guard_yes rfl rfl ?_
  refine l_eqpn rfl Try.underlying25 rfl rfl ?_
  refine l_pick_f rfl rfl rfl ?_
  refine l_nil ?_
  refine g_cond_f rfl ?_
  refine g_skip ?_
  refine g_seq ?_
  refine gp_start mo (by kernel_rfl) (by kernel_rfl) ?_
  refine gp_quiet 0 rfl rfl rfl rfl rfl rfl (q_move rfl) ?_
  refine gp_quiet 1 rfl rfl rfl rfl rfl rfl (q_nilCheck rfl) ?_
  refine gp_quiet 2 rfl rfl rfl rfl rfl rfl (q_fieldAddr fa_42_0 rfl) ?_
  refine gp_quiet 3 rfl rfl rfl rfl rfl rfl (q_ld Try.isAgg25 rfl rfl) ?_
  refine gp_quiet 4 rfl rfl rfl rfl rfl rfl (q_move rfl) ?_
  refine gp_quiet 5 rfl rfl rfl rfl rfl rfl (q_nilCheck rfl) ?_
  refine gp_quiet 6 rfl rfl rfl rfl rfl rfl (q_fieldAddr fa_42_1 rfl) ?_
  refine gp_quiet 7 rfl rfl rfl rfl rfl rfl (q_ld Try.isAgg25 rfl rfl) ?_
  refine gp_effa 8 [3, 7] [6, 5, 4, 2, 1, 0] rfl rfl rfl rfl rfl rfl rfl (does_call Try.call11 rfl (differ_c _ _ _ _)) ?_
  rintro _ _ ⟨bm, bo, rfl, rfl⟩
  refine ⟨?_, ?_⟩
  · refine .cons rfl rfl rfl rfl rfl (q_fieldAddr fa_42_1 rfl) ?_
    refine .cons rfl rfl rfl rfl rfl (q_nilCheck rfl) ?_
    refine .cons rfl rfl rfl rfl rfl (q_move rfl) ?_
    refine .cons rfl rfl rfl rfl rfl (q_fieldAddr fa_42_0 rfl) ?_
    refine .cons rfl rfl rfl rfl rfl (q_nilCheck rfl) ?_
    refine .cons rfl rfl rfl rfl rfl (q_move rfl) ?_
    exact .nil
  refine gp_quiet 9 rfl rfl rfl rfl rfl rfl (q_assign rfl) ?_
  refine gp_end rfl rfl ?_
  refine g_seq ?_
  refine g_seq ?_
  refine g_region ?_
  refine l_move rfl rfl ?_
  refine l_eqfn rfl Try.underlying32 rfl rfl ?_
  refine l_nil ?_
  refine g_cond_f rfl ?_
  refine g_skip ?_
  refine g_seq ?_
  refine g_region ?_
  refine l_assign rfl rfl ?_
  refine l_nil ?_
  refine g_seq ?_
  refine g_seq ?_
  refine g_region ?_
  refine l_assign rfl rfl ?_
  refine l_nil ?_
  refine g_block ?_
  refine g_loopk (X := Int × Int × List Int × List Int) [(2, _), (7, _), (8, _)] (.cons rfl (.cons rfl (.cons rfl (.nil)))) (fun z => (0 ≤ z.1 ∧ z.1 ≤ 3) ∧ (0 ≤ z.2.1 ∧ z.2.1 ≤ wn) ∧ z.2.2.1.length = n1 ∧ z.2.2.2.length = n2) (fun z => (3 - z.1).toNat) (fun z => [(9, .int .i64 z.2.1), (10, .int .i64 z.1)]) (fun z => Blk b15 (.cells [Value.pointer (some ⟨b1, 0, none⟩), .pointer (some ⟨b2, 0, none⟩), .slice (some ⟨x1, 0, none⟩) n1 n1, .slice (some ⟨x2, 0, none⟩) n2 n2].toArray 42 (0, 0)) :: Blk b1 (.cells [Value.slice (some ⟨g1, 0, none⟩) n1 c1].toArray 77 (0, 0)) :: Own 30 1 (.slice (some ⟨g1, 0, none⟩) n1 c1) n1 (ints .u32 z.2.2.1) :: Blk b2 (.cells [Value.slice (some ⟨g2, 0, none⟩) n2 c2].toArray 77 (0, 0)) :: Own 30 1 (.slice (some ⟨g2, 0, none⟩) n2 c2) n2 (ints .u32 z.2.2.2) :: Own 30 1 (.slice (some ⟨x1, 0, none⟩) n1 n1) n1 (ints .u32 z.2.2.1) :: Own 30 1 (.slice (some ⟨x2, 0, none⟩) n2 n2) n2 (ints .u32 z.2.2.2) :: Blk bm (.cells [Value.pointer (some ⟨b1, 0, none⟩)].toArray 25 (0, 0)) :: Blk bo (.cells [Value.pointer (some ⟨b2, 0, none⟩)].toArray 25 (0, 0)) :: F) ((0, 0, A, B)) (⟨⟨by simp only; omega, by simp only; omega⟩, ⟨by simp only; omega, by simp only; omega⟩, hA, hB⟩) (.cons rfl (.cons rfl .nil)) (fun w hw => SPI.holds hw) ?_
  rintro ⟨rd, dn, A, B⟩ ⟨⟨r0, r1⟩, ⟨dn0, dn1⟩, hA, hB⟩ ih
  dsimp only [List.cons_append, List.nil_append] at ih ⊢
  simp only at r0 r1 dn0 dn1 hA hB
  refine g_seq ?_
  refine g_seq ?_
  refine g_region ?_
  refine l_move rfl rfl ?_
  refine l_lss rfl rfl rfl ?_
  refine l_nil ?_
  refine g_cond rfl ?_ ?_
  · intro hbr
    have hbr := of_decide_eq_true hbr
    refine g_skip ?_
    refine g_seq ?_
    refine g_block ?_
    refine g_seq ?_
    refine g_seq ?_
    refine g_region ?_
    refine l_move rfl rfl ?_
    refine l_move rfl rfl ?_
    refine l_len rfl Try.underlying39 rfl ?_
    refine l_lss rfl rfl rfl ?_
    refine l_nil ?_
    refine g_cond rfl ?_ ?_
    · intro hbr
      have hbr := of_decide_eq_true hbr
      refine g_seq ?_
      refine g_region ?_
      refine l_move rfl rfl ?_
      refine l_move rfl rfl ?_
      refine l_move rfl rfl ?_
      obtain ⟨b9w, q9, rfl, hr9⟩ := hs.resolve_left (show ¬ wn = 0 by omega)
      obtain ⟨⟨sec, wat, wx⟩, hrow, ok⟩ := wk_at hok (show dn.toNat < L.length by omega)
      unfold WkOk at ok
      simp only at ok
      have hre := row_elem hr9 (wkV_len L) hrow
      refine l_ixs rfl Try.underlying39 Try.sizeOf47 rfl rfl (by omega) (by omega) ?_
      refine l_loadr (l := [Value.bool sec, .int .i64 wat, .int .u32 wx]) rfl Try.isAgg47 Try.sizeOf47 rfl rfl hre.ex ?_
      refine l_fronto x2 ?_
      refine l_fronto x1 ?_
      refine l_fronto g2 ?_
      refine l_frontb b2 ?_
      refine l_fronto g1 ?_
      refine l_frontb b1 ?_
      refine l_frontb b15 ?_
      refine l_call rfl Try.call15 rfl (twr_any _ _ b15 b1 g1 n1 c1 b2 g2 n2 c2 x1 x2 hc1 (by omega) hc2 (by omega) A B hA hB sec wat wx ok.1 ok.2) ?_; rintro _ _ ⟨A, B, rfl, hA, hB, rfl⟩
      refine l_assign rfl rfl ?_
      refine l_nil ?_
      refine g_seq ?_
      refine g_region ?_
      refine l_move rfl rfl ?_
      first | refine l_add rfl rfl rfl (w_i64 (by omega) (by omega)) ?_ | refine l_addw rfl rfl rfl ?_
      refine l_assign rfl rfl ?_
      refine l_nil ?_
      refine g_seq ?_
      refine g_region ?_
      obtain ⟨dn, hdn⟩ : ∃ d, dn + 1 = d := ⟨_, rfl⟩
      rw [hdn]
      have dn0 : 0 ≤ dn := by omega
      have dn1 : dn ≤ wn := by omega
      refine l_move rfl rfl ?_
      refine l_not rfl rfl ?_
      refine l_nil ?_
      refine g_cond_f rfl ?_
      refine g_skip ?_
      refine g_seq ?_
      refine g_region ?_
      refine l_move rfl rfl ?_
      refine l_move rfl rfl ?_
      refine l_move rfl rfl ?_
      refine l_move rfl rfl ?_
      refine l_frontb bo ?_
      refine l_frontb bm ?_
      refine l_fronto x2 ?_
      refine l_fronto x1 ?_
      refine l_fronto g2 ?_
      refine l_frontb b2 ?_
      refine l_fronto g1 ?_
      refine l_frontb b1 ?_
      refine l_frontb b15 ?_
      refine l_call rfl Try.call16 rfl (through_ok _ _ b15 b1 g1 n1 c1 b2 g2 n2 c2 x1 x2 hc1 (by omega) hc2 (by omega) A B hA hB _ wn wc L hLl hs hok (by omega) bm bo dn dn0 dn1) ?_; rintro _ _ ⟨d2, A2, B2, rfl, d20, d21, hA2, hB2, rfl⟩
      refine l_move rfl rfl ?_
      refine l_extract (v := .int .i64 d2) rfl rfl rfl ?_
      refine l_extract (v := .bool true) rfl rfl rfl ?_
      refine l_assign rfl rfl ?_
      refine l_assign rfl rfl ?_
      refine l_nil ?_
      refine g_seq ?_
      refine g_seq ?_
      refine g_region ?_
      refine l_move rfl rfl ?_
      refine l_not rfl rfl ?_
      refine l_nil ?_
      refine g_cond_f rfl ?_
      refine g_skip ?_
      refine g_region ?_
      refine l_move rfl rfl ?_
      refine l_assign rfl rfl ?_
      refine l_nil ?_
      refine g_inBlock ?_
      refine g_region ?_
      refine l_move rfl rfl ?_
      first | refine l_add rfl rfl rfl (w_i64 (by omega) (by omega)) ?_ | refine l_addw rfl rfl rfl ?_
      refine l_assign rfl rfl ?_
      refine l_nil ?_
      exact g_againi (ih (rd + 1, d2, A2, B2) ⟨⟨by simp only; omega, by simp only; omega⟩, ⟨by simp only; omega, by simp only; omega⟩, hA2, hB2⟩ (by simp only; omega)) (.cons rfl (.cons rfl (.cons rfl (.cons rfl (.cons rfl (.nil))))))
    intro hbr
    have hbr := of_decide_eq_false hbr
    refine g_skip ?_
    refine g_seq ?_
    refine g_region ?_
    refine l_move rfl rfl ?_
    refine l_move rfl rfl ?_
    refine l_move rfl rfl ?_
    refine l_move rfl rfl ?_
    refine l_frontb bo ?_
    refine l_frontb bm ?_
    refine l_fronto x2 ?_
    refine l_fronto x1 ?_
    refine l_fronto g2 ?_
    refine l_frontb b2 ?_
    refine l_fronto g1 ?_
    refine l_frontb b1 ?_
    refine l_frontb b15 ?_
    refine l_call rfl Try.call16 rfl (through_ok _ _ b15 b1 g1 n1 c1 b2 g2 n2 c2 x1 x2 hc1 (by omega) hc2 (by omega) A B hA hB _ wn wc L hLl hs hok (by omega) bm bo dn dn0 dn1) ?_; rintro _ _ ⟨d2, A2, B2, rfl, d20, d21, hA2, hB2, rfl⟩
    refine l_move rfl rfl ?_
    refine l_extract (v := .int .i64 d2) rfl rfl rfl ?_
    refine l_extract (v := .bool true) rfl rfl rfl ?_
    refine l_assign rfl rfl ?_
    refine l_assign rfl rfl ?_
    refine l_nil ?_
    refine g_seq ?_
    refine g_seq ?_
    refine g_region ?_
    refine l_move rfl rfl ?_
    refine l_not rfl rfl ?_
    refine l_nil ?_
    refine g_cond_f rfl ?_
    refine g_skip ?_
    refine g_region ?_
    refine l_move rfl rfl ?_
    refine l_assign rfl rfl ?_
    refine l_nil ?_
    refine g_inBlock ?_
    refine g_region ?_
    refine l_move rfl rfl ?_
    first | refine l_add rfl rfl rfl (w_i64 (by omega) (by omega)) ?_ | refine l_addw rfl rfl rfl ?_
    refine l_assign rfl rfl ?_
    refine l_nil ?_
    exact g_againi (ih (rd + 1, d2, A2, B2) ⟨⟨by simp only; omega, by simp only; omega⟩, ⟨by simp only; omega, by simp only; omega⟩, hA2, hB2⟩ (by simp only; omega)) (.cons rfl (.cons rfl (.cons rfl (.cons rfl (.cons rfl (.nil))))))
  intro hbr
  have hbr := of_decide_eq_false hbr
  refine g_exit rfl ?_
  refine g_seq ?_
  refine g_region ?_
  refine l_assign rfl rfl ?_
  refine l_nil ?_
  refine g_ret Try.func5 rfl (.tmp rfl .nil) ?_
  exact Gives.mki ⟨rfl, rfl⟩
end Go.Proofs.Ytlgcghhjgcdigaa.Fw
