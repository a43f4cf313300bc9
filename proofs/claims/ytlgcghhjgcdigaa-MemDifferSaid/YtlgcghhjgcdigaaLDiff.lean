import Derived.Test.YtlgcghhjgcdigaaAlong
namespace Go.Proofs.Ytlgcghhjgcdigaa.Fw
open Go Go.Proofs
set_option linter.unusedVariables false
set_option linter.unusedSimpArgs false
set_option maxRecDepth 10000

theorem dif_set_getD {X : List Int} {i j : Nat} {x : Int} (hi : i < X.length) : (X.set i x).getD j 0 = if i = j then x else X.getD j 0 := by
  simp only [List.getD_eq_getElem?_getD, List.getElem?_set]
  by_cases h : i = j
  · subst h; simp [hi]
  · simp [h]
theorem difs_one {W : List Int} {p : Nat} (hp : p < W.length) : ∀ k, difs (W.set p 5) (W.set p 6) k = if p < k then [(p : Int)] else []
  | 0 => by simp [difs]
  | k + 1 => by
    simp only [difs]
    rw [difs_one hp k, dif_set_getD hp, dif_set_getD hp]
    by_cases h : p = k
    · subst h; simp
    · rw [if_neg h, if_neg h, if_neg (fun h2 => h2 rfl)]
      by_cases h3 : p < k
      · rw [if_pos h3, if_pos (by omega)]
      · rw [if_neg h3, if_neg (by omega)]
theorem dif_ext {X Y : List Int} {n : Nat} (h1 : X.length = n) (h2 : Y.length = n) (h : ∀ j : Nat, j < n → X.getD j 0 = Y.getD j 0) : X = Y := by
  apply List.ext_getElem (by omega)
  intro i hi hj
  have := h i (by omega)
  simpa [List.getD_eq_getElem?_getD, hi, hj] using this
set_option maxHeartbeats 8000000 in
theorem diff_ok (w0 : World) (F : List Atom) (a1 : Option Addr) (n1 c1 : Nat) (Y1 : List Int) (hI1 : IR w0 F .u32 a1 n1 Y1) (hn1 : n1 ≤ 35184372087808) (a2 : Option Addr) (n2 c2_ : Nat) (Y2 : List Int) (hI2 : IR w0 F .u32 a2 n2 Y2) (hn2 : n2 ≤ 35184372087808) :
    CallK Try.prog 4 [.slice a1 n1 c1, .slice a2 n2 c2_] w0 (F) (Gives w0 fun v F2 => v = .bool true ∧ F2 = F) := by
  have hp7 := pk_lt ((n1 : Int) + n2) (show (0:Int) < 7 by omega)
  have hl1 := hI1.1
  have hl2 := hI2.1
  refine c_enter Try.func4 rfl rfl rfl ?_
  refine g_seq ?_
  refine g_region ?_
  refine l_alloc rfl Try.zeroValue4 rfl ?_; intro b4
  refine l_nil ?_
  refine g_seq ?_
  refine g_region ?_
  refine l_move rfl rfl ?_
  refine l_len rfl Try.underlying23 rfl ?_
  refine l_move rfl rfl ?_
  refine l_len rfl Try.underlying23 rfl ?_
  first | refine l_add rfl rfl rfl (w_i64 (by omega) (by omega)) ?_ | refine l_addw rfl rfl rfl ?_
  refine l_call rfl Try.call8 rfl (pick_ok _ _ _ _ (by omega) (by omega) (by omega) (by omega)) ?_; rintro _ F9 ⟨rfl, hF9⟩; rw [hF9]; clear hF9 F9
  first | refine l_add rfl rfl rfl (w_i64 (by omega) (by omega)) ?_ | refine l_addw rfl rfl rfl ?_
  obtain ⟨fr, hfr⟩ : ∃ fr, 1 + pk ((n1 : Int) + n2) 7 = fr := ⟨_, rfl⟩
  rw [hfr]
  have hfr1 : 1 ≤ fr ∧ fr ≤ 8 := by omega
  obtain ⟨n, hN⟩ : ∃ n : Nat, (fr * 16).toNat = n := ⟨_, rfl⟩
  have hn : n ≤ 1073741824 := by omega
  have hpn := pk_lt n1 (show (0:Int) < n by omega)
  refine l_assign rfl rfl ?_
  refine l_nil ?_
  refine g_seq ?_
  refine g_region ?_
  refine l_move rfl rfl ?_
  refine l_call rfl Try.call9 rfl (new_ok _ _ fr (by omega) (by omega)) ?_; rintro _ _ ⟨b, g, c, rfl, hc, hF9⟩; rw [hF9]; clear hF9
  rw [hN] at hc ⊢
  obtain ⟨W, hW, hW0⟩ : ∃ W : List Int, W.length = n ∧ List.replicate n 0 = W := ⟨_, List.length_replicate, rfl⟩
  rw [hW0]
  clear hW0
  refine l_move rfl rfl ?_
  refine l_extract (v := .pointer (some ⟨b, 0, none⟩)) rfl rfl rfl ?_
  refine l_extract rfl rfl rfl ?_
  refine l_alloc rfl Try.zeroValue25 rfl ?_; intro b6
  refine l_st Try.sizeOf25 rfl rfl rfl rfl ?_
  refine l_assign rfl rfl ?_
  refine l_nil ?_
  refine g_seq ?_
  refine g_region ?_
  refine l_move rfl rfl ?_
  refine l_call rfl Try.call9 rfl (new_ok _ _ fr (by omega) (by omega)) ?_; rintro _ _ ⟨b2, g2, c2, rfl, hc2, hF9⟩; rw [hF9]; clear hF9
  rw [hN] at hc2 ⊢
  obtain ⟨W2, hW2, hW0⟩ : ∃ W : List Int, W.length = n ∧ List.replicate n 0 = W := ⟨_, List.length_replicate, rfl⟩
  rw [hW0]
  clear hW0
  refine l_move rfl rfl ?_
  refine l_extract (v := .pointer (some ⟨b2, 0, none⟩)) rfl rfl rfl ?_
  refine l_extract rfl rfl rfl ?_
  refine l_alloc rfl Try.zeroValue25 rfl ?_; intro b8
  refine l_st Try.sizeOf25 rfl rfl rfl rfl ?_
  refine l_assign rfl rfl ?_
  refine l_nil ?_
  refine g_seq ?_
  refine g_seq ?_
  refine g_region ?_
  refine l_move rfl rfl ?_
  refine l_neq rfl rfl rfl ?_
  refine l_move rfl rfl ?_
  refine l_split 42 rfl ?_ ?_
  · intro hbr
    have hbr := of_decide_eq_true hbr
    (exfalso; first | omega | (simp at hbr; done))
  intro hbr
  have hbr := of_decide_eq_false hbr
  refine l_guard_yes rfl rfl ?_
  refine l_move rfl rfl ?_
  refine l_guard_yes rfl rfl ?_
  refine l_neq rfl rfl rfl ?_
  refine l_pick_f rfl rfl rfl ?_
  refine l_move rfl rfl ?_
  refine l_split 46 rfl ?_ ?_
  · intro hbr
    have hbr := of_decide_eq_true hbr
    (exfalso; first | omega | (simp at hbr; done))
  intro hbr
  have hbr := of_decide_eq_false hbr
  refine l_guard_yes rfl rfl ?_
  refine l_ld rfl Try.isAgg25 rfl rfl ?_
  refine l_guard_yes rfl rfl ?_
  refine l_eqpn rfl Try.underlying25 rfl rfl ?_
  refine l_pick_f rfl rfl rfl ?_
  refine l_move rfl rfl ?_
  refine l_guard_yes rfl rfl ?_
  refine l_ld rfl Try.isAgg25 rfl rfl ?_
  refine l_guard_yes rfl rfl ?_
  refine l_eqpn rfl Try.underlying25 rfl rfl ?_
  refine l_pick_f rfl rfl rfl ?_
  refine l_nil ?_
  refine g_cond_f rfl ?_
  refine g_skip ?_
  refine g_seq ?_
  refine g_region ?_
  refine l_move rfl rfl ?_
  first | refine l_mul rfl rfl rfl (w_i64 (by omega) (by omega)) ?_ | refine l_mulw rfl rfl rfl ?_
  rw [show 16 * fr = (n : Int) by omega]
  refine l_assign rfl rfl ?_
  refine l_nil ?_
  refine g_seq ?_
  refine g_seq ?_
  refine g_region ?_
  refine l_assign rfl rfl ?_
  refine l_nil ?_
  refine g_block ?_
  refine g_loopk (X := Int × List Int) [(0, _), (1, _), (4, _), (6, _), (8, _), (10, _)] (.cons rfl (.cons rfl (.cons rfl (.cons rfl (.cons rfl (.cons rfl (.nil))))))) (fun z => 0 ≤ z.1 ∧ z.1 ≤ n1 ∧ z.2.length = n) (fun z => ((n1 : Int) - z.1).toNat) (fun z => [(11, .int .i64 z.1)]) (fun z => Blk b (.cells [.slice (some ⟨g, 0, none⟩) n c].toArray 77 (0, 0)) :: Own 30 1 (.slice (some ⟨g, 0, none⟩) n c) n (ints .u32 z.2) :: Blk b2 (.cells [.slice (some ⟨g2, 0, none⟩) n c2].toArray 77 (0, 0)) :: Own 30 1 (.slice (some ⟨g2, 0, none⟩) n c2) n (ints .u32 W2) :: Blk b6 (.cells [Value.pointer (some ⟨b, 0, none⟩)].toArray 25 (0, 0)) :: Blk b8 (.cells [Value.pointer (some ⟨b2, 0, none⟩)].toArray 25 (0, 0)) :: Blk b4 (.cells [Value.bool false].toArray 4 (0, 0)) :: F) ((0, W)) (⟨by simp only; omega, by simp only; omega, hW⟩) (.cons rfl .nil) (fun w hw => SPI.holds hw) ?_
  rintro ⟨i, W⟩ ⟨i0, i1, hW⟩ ih
  dsimp only [List.cons_append, List.nil_append] at ih ⊢
  simp only at i0 i1 hW
  refine g_seq ?_
  refine g_seq ?_
  refine g_region ?_
  refine l_move rfl rfl ?_
  refine l_move rfl rfl ?_
  refine l_len rfl Try.underlying23 rfl ?_
  refine l_lss rfl rfl rfl ?_
  refine l_move rfl rfl ?_
  refine l_split 60 rfl ?_ ?_
  · intro hbr
    have hbr := of_decide_eq_true hbr
    refine l_guard_yes rfl rfl ?_
    refine l_move rfl rfl ?_
    refine l_guard_yes rfl rfl ?_
    refine l_move rfl rfl ?_
    refine l_guard_yes rfl rfl ?_
    refine l_lss rfl rfl rfl ?_
    refine l_pick_t rfl rfl rfl ?_
    refine l_nil ?_
    refine g_cond rfl ?_ ?_
    · intro hbr
      have hbr := of_decide_eq_true hbr
      refine g_skip ?_
      refine g_seq ?_
      refine g_block ?_
      refine gp_start mo (by kernel_rfl) (by kernel_rfl) ?_
      refine gp_quiet 0 rfl rfl rfl rfl rfl rfl (q_ld Try.isAgg25 rfl rfl) ?_
      refine gp_quiet 1 rfl rfl rfl rfl rfl rfl (q_move rfl) ?_
      refine gp_quiet 2 rfl rfl rfl rfl rfl rfl (q_move rfl) ?_
      refine gp_quiet 3 rfl rfl rfl rfl rfl rfl (q_move rfl) ?_
      obtain ⟨bY, oY, rfl, hrY⟩ := hI1.some (i := i.toNat) (by omega)
      refine gp_quiet 4 rfl rfl rfl rfl rfl rfl (q_ixs Try.underlying23 Try.sizeOf30 rfl rfl (by omega) (by omega)) ?_
      refine gp_quiet 5 rfl rfl rfl rfl rfl rfl (q_loadc Try.isAgg30 rfl (word_any hrY (by omega))) ?_
      refine gp_fronto g ?_
      refine gp_frontb b ?_
      refine gp_effa 6 [0, 1, 5] [4, 3, 2] rfl rfl rfl rfl rfl rfl rfl (does_call Try.call10 rfl (write_ok _ _ b g n c W hW hc hn i (Y1.getD i.toNat 0) (by omega) (by unfold inR; omega))) ?_
      rintro _ _ ⟨rfl, rfl⟩
      refine ⟨?_, ?_⟩
      · refine .cons rfl rfl rfl rfl rfl (q_ixs Try.underlying23 Try.sizeOf30 rfl rfl (by omega) (by omega)) ?_
        refine .cons rfl rfl rfl rfl rfl (q_move rfl) ?_
        refine .cons rfl rfl rfl rfl rfl (q_move rfl) ?_
        exact .nil
      refine gp_end rfl rfl ?_
      refine g_inBlock ?_
      refine g_region ?_
      refine l_move rfl rfl ?_
      first | refine l_add rfl rfl rfl (w_i64 (by omega) (by omega)) ?_ | refine l_addw rfl rfl rfl ?_
      refine l_assign rfl rfl ?_
      refine l_nil ?_
      exact g_againi (ih (i + 1, W.set i.toNat (Y1.getD i.toNat 0)) ⟨by simp only; omega, by simp only; omega, by simp only [List.length_set]; exact hW⟩ (by simp only; omega)) (.cons rfl (.cons rfl (.cons rfl (.cons rfl (.cons rfl (.cons rfl (.cons rfl (.nil))))))))
    intro hbr
    have hbr := of_decide_eq_false hbr
    refine g_exit rfl ?_
    refine g_seq ?_
    refine g_seq ?_
    refine g_region ?_
    refine l_assign rfl rfl ?_
    refine l_nil ?_
    refine g_block ?_
    refine g_loopk (X := Int × List Int) [(0, _), (1, _), (4, _), (6, _), (8, _), (10, _)] (.cons rfl (.cons rfl (.cons rfl (.cons rfl (.cons rfl (.cons rfl (.nil))))))) (fun z => 0 ≤ z.1 ∧ z.1 ≤ n2 ∧ z.2.length = n) (fun z => ((n2 : Int) - z.1).toNat) (fun z => [(12, .int .i64 z.1)]) (fun z => Blk b (.cells [.slice (some ⟨g, 0, none⟩) n c].toArray 77 (0, 0)) :: Own 30 1 (.slice (some ⟨g, 0, none⟩) n c) n (ints .u32 W) :: Blk b2 (.cells [.slice (some ⟨g2, 0, none⟩) n c2].toArray 77 (0, 0)) :: Own 30 1 (.slice (some ⟨g2, 0, none⟩) n c2) n (ints .u32 z.2) :: Blk b6 (.cells [Value.pointer (some ⟨b, 0, none⟩)].toArray 25 (0, 0)) :: Blk b8 (.cells [Value.pointer (some ⟨b2, 0, none⟩)].toArray 25 (0, 0)) :: Blk b4 (.cells [Value.bool false].toArray 4 (0, 0)) :: F) ((0, W2)) (⟨by simp only; omega, by simp only; omega, hW2⟩) (.cons rfl .nil) (fun w hw => SPI.holds hw) ?_
    rintro ⟨i, W2⟩ ⟨i0, i1, hW2⟩ ihk
    dsimp only [List.cons_append, List.nil_append] at ihk ⊢
    simp only at i0 i1 hW2
    refine g_seq ?_
    refine g_seq ?_
    refine g_region ?_
    refine l_move rfl rfl ?_
    refine l_move rfl rfl ?_
    refine l_len rfl Try.underlying23 rfl ?_
    refine l_lss rfl rfl rfl ?_
    refine l_move rfl rfl ?_
    refine l_split 78 rfl ?_ ?_
    · intro hbr
      have hbr := of_decide_eq_true hbr
      refine l_guard_yes rfl rfl ?_
      refine l_move rfl rfl ?_
      refine l_guard_yes rfl rfl ?_
      refine l_move rfl rfl ?_
      refine l_guard_yes rfl rfl ?_
      refine l_lss rfl rfl rfl ?_
      refine l_pick_t rfl rfl rfl ?_
      refine l_nil ?_
      refine g_cond rfl ?_ ?_
      · intro hbr
        have hbr := of_decide_eq_true hbr
        refine g_skip ?_
        refine g_seq ?_
        refine g_block ?_
        refine gp_start mo (by kernel_rfl) (by kernel_rfl) ?_
        refine gp_quiet 0 rfl rfl rfl rfl rfl rfl (q_ld Try.isAgg25 rfl rfl) ?_
        refine gp_quiet 1 rfl rfl rfl rfl rfl rfl (q_move rfl) ?_
        first | refine gp_quiet 2 rfl rfl rfl rfl rfl rfl (q_sub_ rfl rfl (w_i64 (by omega) (by omega))) ?_ | refine gp_quiet 2 rfl rfl rfl rfl rfl rfl (q_subw rfl rfl) ?_
        refine gp_quiet 3 rfl rfl rfl rfl rfl rfl (q_move rfl) ?_
        first | refine gp_quiet 4 rfl rfl rfl rfl rfl rfl (q_sub_ rfl rfl (w_i64 (by omega) (by omega))) ?_ | refine gp_quiet 4 rfl rfl rfl rfl rfl rfl (q_subw rfl rfl) ?_
        refine gp_quiet 5 rfl rfl rfl rfl rfl rfl (q_move rfl) ?_
        refine gp_quiet 6 rfl rfl rfl rfl rfl rfl (q_move rfl) ?_
        obtain ⟨bY, oY, rfl, hrY⟩ := hI2.some (i := i.toNat) (by omega)
        refine gp_quiet 7 rfl rfl rfl rfl rfl rfl (q_ixs Try.underlying23 Try.sizeOf30 rfl rfl (by omega) (by omega)) ?_
        refine gp_quiet 8 rfl rfl rfl rfl rfl rfl (q_loadc Try.isAgg30 rfl (word_any hrY (by omega))) ?_
        refine gp_fronto g2 ?_
        refine gp_frontb b2 ?_
        refine gp_effa 9 [0, 4, 8] [7, 6, 5, 3, 2, 1] rfl rfl rfl rfl rfl rfl rfl (does_call Try.call10 rfl (write_ok _ _ b2 g2 n c2 W2 hW2 hc2 hn ((n : Int) - 1 - i) (Y2.getD i.toNat 0) (by omega) (by unfold inR; omega))) ?_
        rintro _ _ ⟨rfl, rfl⟩
        refine ⟨?_, ?_⟩
        · refine .cons rfl rfl rfl rfl rfl (q_ixs Try.underlying23 Try.sizeOf30 rfl rfl (by omega) (by omega)) ?_
          refine .cons rfl rfl rfl rfl rfl (q_move rfl) ?_
          refine .cons rfl rfl rfl rfl rfl (q_move rfl) ?_
          refine .cons rfl rfl rfl rfl rfl (q_move rfl) ?_
          first | refine .cons rfl rfl rfl rfl rfl (q_sub_ rfl rfl (w_i64 (by omega) (by omega))) ?_ | refine .cons rfl rfl rfl rfl rfl (q_subw rfl rfl) ?_
          refine .cons rfl rfl rfl rfl rfl (q_move rfl) ?_
          exact .nil
        refine gp_end rfl rfl ?_
        refine g_inBlock ?_
        refine g_region ?_
        refine l_move rfl rfl ?_
        first | refine l_add rfl rfl rfl (w_i64 (by omega) (by omega)) ?_ | refine l_addw rfl rfl rfl ?_
        refine l_assign rfl rfl ?_
        refine l_nil ?_
        exact g_againi (ihk (i + 1, W2.set ((n : Int) - 1 - i).toNat (Y2.getD i.toNat 0)) ⟨by simp only; omega, by simp only; omega, by simp only [List.length_set]; exact hW2⟩ (by simp only; omega)) (.cons rfl (.cons rfl (.cons rfl (.cons rfl (.cons rfl (.cons rfl (.cons rfl (.nil))))))))
      intro hbr
      have hbr := of_decide_eq_false hbr
      refine g_exit rfl ?_
      refine g_seq ?_
      refine g_region ?_
      refine l_alloc rfl Try.zeroValue3 rfl ?_; intro b13
      first | refine l_st Try.sizeOf3 rfl rfl rfl rfl ?_ | refine l_stw Try.sizeOf3 rfl rfl (by omega) ?_
      refine l_nil ?_
      refine g_seq ?_
      refine g_region ?_
      refine l_alloc rfl Try.zeroValue3 rfl ?_; intro b14
      first | refine l_st Try.sizeOf3 rfl rfl rfl rfl ?_ | refine l_stw Try.sizeOf3 rfl rfl (by omega) ?_
      refine l_nil ?_
      refine g_seq ?_
      refine g_region ?_
      refine l_ld rfl Try.isAgg25 rfl rfl ?_
      refine l_ld rfl Try.isAgg25 rfl rfl ?_
      refine l_call rfl Try.call11 rfl (differ_c _ _ _ _) ?_; rintro _ _ ⟨bm, bo, rfl, rfl⟩
      refine l_assign rfl rfl ?_
      refine l_nil ?_
      refine g_seq ?_
      refine g_region ?_
      refine l_ld rfl Try.isAgg25 rfl rfl ?_
      refine l_ld rfl Try.isAgg25 rfl rfl ?_
      refine l_call rfl Try.call11 rfl (differ_c _ _ _ _) ?_; rintro _ _ ⟨bm2, bo2, rfl, rfl⟩
      refine l_assign rfl rfl ?_
      refine l_nil ?_
      refine g_seq ?_
      refine g_seq ?_
      refine g_region ?_
      refine l_move rfl rfl ?_
      refine l_eqfn rfl Try.underlying32 rfl rfl ?_
      refine l_move rfl rfl ?_
      refine l_guard_yes rfl rfl ?_
      refine l_move rfl rfl ?_
      refine l_guard_yes rfl rfl ?_
      refine l_eqfn rfl Try.underlying32 rfl rfl ?_
      refine l_pick_f rfl rfl rfl ?_
      refine l_nil ?_
      refine g_cond_f rfl ?_
      refine g_skip ?_
      refine g_seq ?_
      refine g_seq ?_
      refine g_region ?_
      refine l_move rfl rfl ?_
      refine l_nil ?_
      refine g_block ?_
      refine g_rangeR rfl Try.call30 rfl ?_
      rintro r0 l0 RC0 hRC0
      refine CallK.heap (F2 := RC0 .ready none :: Blk b (.cells [.slice (some ⟨g, 0, none⟩) n c].toArray 77 (0, 0)) :: Own 30 1 (.slice (some ⟨g, 0, none⟩) n c) n (ints .u32 W) :: Blk b2 (.cells [.slice (some ⟨g2, 0, none⟩) n c2].toArray 77 (0, 0)) :: Own 30 1 (.slice (some ⟨g2, 0, none⟩) n c2) n (ints .u32 W2) :: Blk b13 (.cells [Value.int .i64 (-1)].toArray 3 (0, 0)) :: Blk b14 (.cells [Value.int .i64 0].toArray 3 (0, 0)) :: Blk bm (.cells [Value.pointer (some ⟨b, 0, none⟩)].toArray 25 (0, 0)) :: Blk bo (.cells [Value.pointer (some ⟨b2, 0, none⟩)].toArray 25 (0, 0)) :: Blk bm2 (.cells [Value.pointer (some ⟨b2, 0, none⟩)].toArray 25 (0, 0)) :: Blk bo2 (.cells [Value.pointer (some ⟨b, 0, none⟩)].toArray 25 (0, 0)) :: Blk b6 (.cells [Value.pointer (some ⟨b, 0, none⟩)].toArray 25 (0, 0)) :: Blk b8 (.cells [Value.pointer (some ⟨b2, 0, none⟩)].toArray 25 (0, 0)) :: Blk b4 (.cells [Value.bool false].toArray 4 (0, 0)) :: Dfr r0 :: F) (CallK.mono (seq_r w0 [] (fun x : Int × Int × List Int => RC0 .ready none :: Blk b (.cells [.slice (some ⟨g, 0, none⟩) n c].toArray 77 (0, 0)) :: Own 30 1 (.slice (some ⟨g, 0, none⟩) n c) n (ints .u32 W) :: Blk b2 (.cells [.slice (some ⟨g2, 0, none⟩) n c2].toArray 77 (0, 0)) :: Own 30 1 (.slice (some ⟨g2, 0, none⟩) n c2) n (ints .u32 x.2.2) :: Blk b13 (.cells [Value.int .i64 x.1].toArray 3 (0, 0)) :: Blk b14 (.cells [Value.int .i64 x.2.1].toArray 3 (0, 0)) :: Blk bm (.cells [Value.pointer (some ⟨b, 0, none⟩)].toArray 25 (0, 0)) :: Blk bo (.cells [Value.pointer (some ⟨b2, 0, none⟩)].toArray 25 (0, 0)) :: Blk bm2 (.cells [Value.pointer (some ⟨b2, 0, none⟩)].toArray 25 (0, 0)) :: Blk bo2 (.cells [Value.pointer (some ⟨b, 0, none⟩)].toArray 25 (0, 0)) :: Blk b6 (.cells [Value.pointer (some ⟨b, 0, none⟩)].toArray 25 (0, 0)) :: Blk b8 (.cells [Value.pointer (some ⟨b2, 0, none⟩)].toArray 25 (0, 0)) :: Blk b4 (.cells [Value.bool false].toArray 4 (0, 0)) :: Dfr r0 :: F) (fun k x => -1 ≤ x.1 ∧ x.1 < k ∧ 0 ≤ x.2.1 ∧ x.2.1 ≤ k ∧ x.2.2.length = n ∧ ∀ j : Nat, j < k → W.getD j 0 = x.2.2.getD j 0) (fun _ => W) (fun x => x.2.2) (fun _ => False) l0 bm bo b g c b2 g2 c2 n hn (fun k x _ => ⟨mem_rd (b := b) (g := g) (c := c) (W := W) (by first | exact mem_getO 0 rfl | exact mem_getO 1 rfl | exact mem_getO 2 rfl | exact mem_getO 3 rfl | exact mem_getO 4 rfl | exact mem_getO 5 rfl | exact mem_getO 6 rfl | exact mem_getO 7 rfl) (by first | exact mem_getO 0 rfl | exact mem_getO 1 rfl | exact mem_getO 2 rfl | exact mem_getO 3 rfl | exact mem_getO 4 rfl | exact mem_getO 5 rfl | exact mem_getO 6 rfl | exact mem_getO 7 rfl), hW⟩) (fun k x hx => ⟨mem_rd (b := b2) (g := g2) (c := c2) (W := x.2.2) (by first | exact mem_getO 0 rfl | exact mem_getO 1 rfl | exact mem_getO 2 rfl | exact mem_getO 3 rfl | exact mem_getO 4 rfl | exact mem_getO 5 rfl | exact mem_getO 6 rfl | exact mem_getO 7 rfl) (by first | exact mem_getO 0 rfl | exact mem_getO 1 rfl | exact mem_getO 2 rfl | exact mem_getO 3 rfl | exact mem_getO 4 rfl | exact mem_getO 5 rfl | exact mem_getO 6 rfl | exact mem_getO 7 rfl), hx.2.2.2.2.1⟩) (fun k x _ => ⟨(fun w hw => by have h := hw.ok (Blk bm (.cells [Value.pointer (some ⟨b, 0, none⟩)].toArray 25 (0, 0))) (by first | exact mem_getO 0 rfl | exact mem_getO 1 rfl | exact mem_getO 2 rfl | exact mem_getO 3 rfl | exact mem_getO 4 rfl | exact mem_getO 5 rfl | exact mem_getO 6 rfl | exact mem_getO 7 rfl | exact mem_getO 8 rfl | exact mem_getO 9 rfl | exact mem_getO 10 rfl | exact mem_getO 11 rfl); exact cell_of_has (c := [Value.pointer (some ⟨b, 0, none⟩)]) (b := bm) (o := 0) h rfl), (fun w hw => by have h := hw.ok (Blk bo (.cells [Value.pointer (some ⟨b2, 0, none⟩)].toArray 25 (0, 0))) (by first | exact mem_getO 0 rfl | exact mem_getO 1 rfl | exact mem_getO 2 rfl | exact mem_getO 3 rfl | exact mem_getO 4 rfl | exact mem_getO 5 rfl | exact mem_getO 6 rfl | exact mem_getO 7 rfl | exact mem_getO 8 rfl | exact mem_getO 9 rfl | exact mem_getO 10 rfl | exact mem_getO 11 rfl); exact cell_of_has (c := [Value.pointer (some ⟨b2, 0, none⟩)]) (b := bo) (o := 0) h rfl)⟩) (fun k x k0 k1 hI he => ⟨hI.1, by have := hI.2.1; omega, hI.2.2.1, by have := hI.2.2.2.1; omega, hI.2.2.2.2.1, fun j hj => by rcases (show (j : Int) < k ∨ j = k.toNat by omega) with h | rfl; (exact hI.2.2.2.2.2 j h); exact he⟩) (fun k x k0 k1 hI hne => ?_) (-1, 0, W2) ⟨by simp only; omega, by simp only; omega, by simp only; omega, by simp only; omega, hW2, fun j hj => by omega⟩) (fun en F2 hG => ?_)) (fun w hw => SPI.holds hw)
      · obtain ⟨la, cn, X⟩ := x
        obtain ⟨la0, la1, cn0, cn1, hX, hE⟩ := hI
        simp only at la0 la1 cn0 cn1 hX hE hne
        dsimp only
        refine c_roundR hRC0 rfl rfl ?_
        dsimp only [putL]
        refine g_region ?_
        refine l_assign rfl rfl ?_
        refine l_nil ?_
        refine g_beginR hRC0 ?_
        refine g_block ?_
        refine g_seq ?_
        refine g_region ?_
        refine l_ld rfl Try.isAgg25 rfl rfl ?_
        refine l_move rfl rfl ?_
        refine l_fronto g ?_
        refine l_frontb b ?_
        refine l_call rfl Try.call12 rfl (read_ok _ _ b g n c W hW hc hn k (by omega) (by unfold inR; omega)) ?_; rintro _ _ ⟨rfl, rfl⟩
        refine l_move rfl rfl ?_
        refine l_extract rfl rfl rfl ?_
        refine l_extract rfl rfl rfl ?_
        refine l_assign rfl rfl ?_
        refine l_assign rfl rfl ?_
        refine l_nil ?_
        refine g_seq ?_
        refine g_region ?_
        refine l_ld rfl Try.isAgg25 rfl rfl ?_
        refine l_move rfl rfl ?_
        refine l_fronto g2 ?_
        refine l_frontb b2 ?_
        refine l_call rfl Try.call12 rfl (read_ok _ _ b2 g2 n c2 X hX hc2 hn k (by omega) (by unfold inR; omega)) ?_; rintro _ _ ⟨rfl, rfl⟩
        refine l_move rfl rfl ?_
        refine l_extract rfl rfl rfl ?_
        refine l_extract rfl rfl rfl ?_
        refine l_assign rfl rfl ?_
        refine l_assign rfl rfl ?_
        refine l_nil ?_
        refine g_seq ?_
        refine g_seq ?_
        refine g_region ?_
        refine l_move rfl rfl ?_
        first | refine l_ld rfl Try.isAgg3 rfl rfl ?_ | refine l_ldw rfl Try.isAgg3 rfl (by omega) ?_
        refine l_leq rfl rfl rfl ?_
        refine l_move rfl rfl ?_
        refine l_split 124 rfl ?_ ?_
        · intro hbr
          have hbr := of_decide_eq_true hbr
          (exfalso; first | omega | (simp at hbr; done))
        intro hbr
        have hbr := of_decide_eq_false hbr
        refine l_guard_yes rfl rfl ?_
        refine l_move rfl rfl ?_
        refine l_guard_yes rfl rfl ?_
        refine l_neq rfl rfl rfl ?_
        refine l_pick_f rfl rfl rfl ?_
        refine l_move rfl rfl ?_
        refine l_split 128 rfl ?_ ?_
        · intro hbr
          have hbr := of_decide_eq_true hbr
          (exfalso; first | omega | (simp at hbr; done))
        intro hbr
        have hbr := of_decide_eq_false hbr
        refine l_guard_yes rfl rfl ?_
        refine l_move rfl rfl ?_
        refine l_guard_yes rfl rfl ?_
        refine l_neq rfl rfl rfl ?_
        refine l_pick_f rfl rfl rfl ?_
        refine l_move rfl rfl ?_
        refine l_split 132 rfl ?_ ?_
        · intro hbr
          have hbr := of_decide_eq_true hbr
          (exfalso; first | omega | (simp at hbr; done))
        intro hbr
        have hbr := of_decide_eq_false hbr
        refine l_guard_yes rfl rfl ?_
        refine l_move rfl rfl ?_
        refine l_guard_yes rfl rfl ?_
        refine l_move rfl rfl ?_
        refine l_guard_yes rfl rfl ?_
        refine l_eql rfl rfl rfl ?_
        refine l_pick_f rfl rfl rfl ?_
        refine l_nil ?_
        refine g_cond rfl ?_ ?_
        · intro hbr
          have hbr := of_decide_eq_true hbr
          (exfalso; first | omega | (simp at hbr; done))
        intro hbr
        have hbr := of_decide_eq_false hbr
        refine g_skip ?_
        refine g_seq ?_
        refine g_region ?_
        refine l_move rfl rfl ?_
        first | refine l_st Try.sizeOf3 rfl rfl rfl rfl ?_ | refine l_stw Try.sizeOf3 rfl rfl (by omega) ?_
        refine l_nil ?_
        refine g_seq ?_
        refine g_region ?_
        first | refine l_ld rfl Try.isAgg3 rfl rfl ?_ | refine l_ldw rfl Try.isAgg3 rfl (by omega) ?_
        first | refine l_add rfl rfl rfl (w_i64 (by omega) (by omega)) ?_ | refine l_addw rfl rfl rfl ?_
        first | refine l_st Try.sizeOf3 rfl rfl rfl rfl ?_ | refine l_stw Try.sizeOf3 rfl rfl (by omega) ?_
        refine l_nil ?_
        refine g_region ?_
        refine l_ld rfl Try.isAgg25 rfl rfl ?_
        refine l_move rfl rfl ?_
        refine l_move rfl rfl ?_
        refine l_fronto g2 ?_
        refine l_frontb b2 ?_
        refine l_call rfl Try.call10 rfl (write_ok _ _ b2 g2 n c2 X hX hc2 hn k (W.getD k.toNat 0) (by omega) (by unfold inR; omega)) ?_; rintro _ _ ⟨rfl, rfl⟩
        refine l_nil ?_
        refine g_inBlock ?_
        refine g_roundE (p := none) (F := Blk b (.cells [.slice (some ⟨g, 0, none⟩) n c].toArray 77 (0, 0)) :: Own 30 1 (.slice (some ⟨g, 0, none⟩) n c) n (ints .u32 W) :: Blk b2 (.cells [.slice (some ⟨g2, 0, none⟩) n c2].toArray 77 (0, 0)) :: Own 30 1 (.slice (some ⟨g2, 0, none⟩) n c2) n (ints .u32 (X.set k.toNat (W.getD k.toNat 0))) :: Blk b13 (.cells [Value.int .i64 k].toArray 3 (0, 0)) :: Blk b14 (.cells [Value.int .i64 (cn + 1)].toArray 3 (0, 0)) :: Blk bm (.cells [Value.pointer (some ⟨b, 0, none⟩)].toArray 25 (0, 0)) :: Blk bo (.cells [Value.pointer (some ⟨b2, 0, none⟩)].toArray 25 (0, 0)) :: Blk bm2 (.cells [Value.pointer (some ⟨b2, 0, none⟩)].toArray 25 (0, 0)) :: Blk bo2 (.cells [Value.pointer (some ⟨b, 0, none⟩)].toArray 25 (0, 0)) :: Blk b6 (.cells [Value.pointer (some ⟨b, 0, none⟩)].toArray 25 (0, 0)) :: Blk b8 (.cells [Value.pointer (some ⟨b2, 0, none⟩)].toArray 25 (0, 0)) :: Blk b4 (.cells [Value.bool false].toArray 4 (0, 0)) :: Dfr r0 :: F) hRC0 (fun w hw => SPI.holds hw) ?_
        exact ⟨_, rfl, true, rfl, fun _ => ⟨(k, cn + 1, X.set k.toNat (W.getD k.toNat 0)), ⟨by simp only; omega, by simp only; omega, by simp only; omega, by simp only; omega, by simp only; rw [List.length_set]; exact hX, fun j hj => by simp only; rw [dif_set_getD (by omega)]; split; (rename_i h9; rw [h9]); exact hE j (by omega)⟩, fun w hw => hw⟩, fun h => (by cases h)⟩
      obtain ⟨v9, F9, rfl, hR9, hF9⟩ := hG
      refine ⟨⟨_, rfl⟩, ?_⟩
      obtain ⟨⟨la, cn, X⟩, ⟨_, _, cn0, cn1, hX, hE⟩, rfl⟩ := hR9.resolve_right (fun h => h)
      simp only at cn0 cn1 hX hE
      obtain rfl : W = X := dif_ext hW hX fun j hj => hE j (by omega)
      refine ⟨.ready, none, Blk b (.cells [.slice (some ⟨g, 0, none⟩) n c].toArray 77 (0, 0)) :: Own 30 1 (.slice (some ⟨g, 0, none⟩) n c) n (ints .u32 W) :: Blk b2 (.cells [.slice (some ⟨g2, 0, none⟩) n c2].toArray 77 (0, 0)) :: Own 30 1 (.slice (some ⟨g2, 0, none⟩) n c2) n (ints .u32 W) :: Blk b14 (.cells [Value.int .i64 cn].toArray 3 (0, 0)) :: Blk bm2 (.cells [Value.pointer (some ⟨b2, 0, none⟩)].toArray 25 (0, 0)) :: Blk bo2 (.cells [Value.pointer (some ⟨b, 0, none⟩)].toArray 25 (0, 0)) :: Blk b6 (.cells [Value.pointer (some ⟨b, 0, none⟩)].toArray 25 (0, 0)) :: Blk b8 (.cells [Value.pointer (some ⟨b2, 0, none⟩)].toArray 25 (0, 0)) :: Blk b4 (.cells [Value.bool false].toArray 4 (0, 0)) :: Dfr r0 :: F, (by intro h; cases h), fun w hw => SPI.holds (hF9 w hw), ?_⟩
      dsimp only [jumpK]
      refine g_inBlock ?_
      refine g_seq ?_
      refine g_seq ?_
      refine g_region ?_
      refine l_move rfl rfl ?_
      refine l_nil ?_
      refine g_block ?_
      refine g_rangeR rfl Try.call30 rfl ?_
      rintro r1 l1 RC1 hRC1
      refine CallK.heap (F2 := RC1 .ready none :: Blk b (.cells [.slice (some ⟨g, 0, none⟩) n c].toArray 77 (0, 0)) :: Own 30 1 (.slice (some ⟨g, 0, none⟩) n c) n (ints .u32 W) :: Blk b2 (.cells [.slice (some ⟨g2, 0, none⟩) n c2].toArray 77 (0, 0)) :: Own 30 1 (.slice (some ⟨g2, 0, none⟩) n c2) n (ints .u32 W) :: Blk b14 (.cells [Value.int .i64 cn].toArray 3 (0, 0)) :: Blk bm2 (.cells [Value.pointer (some ⟨b2, 0, none⟩)].toArray 25 (0, 0)) :: Blk bo2 (.cells [Value.pointer (some ⟨b, 0, none⟩)].toArray 25 (0, 0)) :: Blk b6 (.cells [Value.pointer (some ⟨b, 0, none⟩)].toArray 25 (0, 0)) :: Blk b8 (.cells [Value.pointer (some ⟨b2, 0, none⟩)].toArray 25 (0, 0)) :: Blk b4 (.cells [Value.bool false].toArray 4 (0, 0)) :: Dfr r1 :: Dfr r0 :: F) (CallK.mono (seq_r w0 [] (fun _ : Unit => RC1 .ready none :: Blk b (.cells [.slice (some ⟨g, 0, none⟩) n c].toArray 77 (0, 0)) :: Own 30 1 (.slice (some ⟨g, 0, none⟩) n c) n (ints .u32 W) :: Blk b2 (.cells [.slice (some ⟨g2, 0, none⟩) n c2].toArray 77 (0, 0)) :: Own 30 1 (.slice (some ⟨g2, 0, none⟩) n c2) n (ints .u32 W) :: Blk b14 (.cells [Value.int .i64 cn].toArray 3 (0, 0)) :: Blk bm2 (.cells [Value.pointer (some ⟨b2, 0, none⟩)].toArray 25 (0, 0)) :: Blk bo2 (.cells [Value.pointer (some ⟨b, 0, none⟩)].toArray 25 (0, 0)) :: Blk b6 (.cells [Value.pointer (some ⟨b, 0, none⟩)].toArray 25 (0, 0)) :: Blk b8 (.cells [Value.pointer (some ⟨b2, 0, none⟩)].toArray 25 (0, 0)) :: Blk b4 (.cells [Value.bool false].toArray 4 (0, 0)) :: Dfr r1 :: Dfr r0 :: F) (fun _ _ => True) (fun _ => W) (fun _ => W) (fun _ => False) l1 bm2 bo2 b2 g2 c2 b g c n hn (fun k x _ => ⟨mem_rd (b := b2) (g := g2) (c := c2) (W := W) (by first | exact mem_getO 0 rfl | exact mem_getO 1 rfl | exact mem_getO 2 rfl | exact mem_getO 3 rfl | exact mem_getO 4 rfl | exact mem_getO 5 rfl | exact mem_getO 6 rfl | exact mem_getO 7 rfl) (by first | exact mem_getO 0 rfl | exact mem_getO 1 rfl | exact mem_getO 2 rfl | exact mem_getO 3 rfl | exact mem_getO 4 rfl | exact mem_getO 5 rfl | exact mem_getO 6 rfl | exact mem_getO 7 rfl), hW⟩) (fun k x hx => ⟨mem_rd (b := b) (g := g) (c := c) (W := W) (by first | exact mem_getO 0 rfl | exact mem_getO 1 rfl | exact mem_getO 2 rfl | exact mem_getO 3 rfl | exact mem_getO 4 rfl | exact mem_getO 5 rfl | exact mem_getO 6 rfl | exact mem_getO 7 rfl) (by first | exact mem_getO 0 rfl | exact mem_getO 1 rfl | exact mem_getO 2 rfl | exact mem_getO 3 rfl | exact mem_getO 4 rfl | exact mem_getO 5 rfl | exact mem_getO 6 rfl | exact mem_getO 7 rfl), hW⟩) (fun k x _ => ⟨(fun w hw => by have h := hw.ok (Blk bm2 (.cells [Value.pointer (some ⟨b2, 0, none⟩)].toArray 25 (0, 0))) (by first | exact mem_getO 0 rfl | exact mem_getO 1 rfl | exact mem_getO 2 rfl | exact mem_getO 3 rfl | exact mem_getO 4 rfl | exact mem_getO 5 rfl | exact mem_getO 6 rfl | exact mem_getO 7 rfl | exact mem_getO 8 rfl | exact mem_getO 9 rfl | exact mem_getO 10 rfl | exact mem_getO 11 rfl); exact cell_of_has (c := [Value.pointer (some ⟨b2, 0, none⟩)]) (b := bm2) (o := 0) h rfl), (fun w hw => by have h := hw.ok (Blk bo2 (.cells [Value.pointer (some ⟨b, 0, none⟩)].toArray 25 (0, 0))) (by first | exact mem_getO 0 rfl | exact mem_getO 1 rfl | exact mem_getO 2 rfl | exact mem_getO 3 rfl | exact mem_getO 4 rfl | exact mem_getO 5 rfl | exact mem_getO 6 rfl | exact mem_getO 7 rfl | exact mem_getO 8 rfl | exact mem_getO 9 rfl | exact mem_getO 10 rfl | exact mem_getO 11 rfl); exact cell_of_has (c := [Value.pointer (some ⟨b, 0, none⟩)]) (b := bo2) (o := 0) h rfl)⟩) (fun _ _ _ _ _ _ => trivial) (fun k x k0 k1 hI hne => absurd rfl hne) () trivial) (fun en F2 hG => ?_)) (fun w hw => SPI.holds hw)
      obtain ⟨v9, F9, rfl, hR9, hF9⟩ := hG
      refine ⟨⟨_, rfl⟩, ?_⟩
      obtain ⟨_, _, rfl⟩ := hR9.resolve_right (fun h => h)
      refine ⟨.ready, none, Blk b (.cells [.slice (some ⟨g, 0, none⟩) n c].toArray 77 (0, 0)) :: Own 30 1 (.slice (some ⟨g, 0, none⟩) n c) n (ints .u32 W) :: Blk b2 (.cells [.slice (some ⟨g2, 0, none⟩) n c2].toArray 77 (0, 0)) :: Own 30 1 (.slice (some ⟨g2, 0, none⟩) n c2) n (ints .u32 W) :: Blk b14 (.cells [Value.int .i64 cn].toArray 3 (0, 0)) :: Blk bm2 (.cells [Value.pointer (some ⟨b2, 0, none⟩)].toArray 25 (0, 0)) :: Blk bo2 (.cells [Value.pointer (some ⟨b, 0, none⟩)].toArray 25 (0, 0)) :: Blk b6 (.cells [Value.pointer (some ⟨b, 0, none⟩)].toArray 25 (0, 0)) :: Blk b8 (.cells [Value.pointer (some ⟨b2, 0, none⟩)].toArray 25 (0, 0)) :: Blk b4 (.cells [Value.bool false].toArray 4 (0, 0)) :: Dfr r1 :: Dfr r0 :: F, (by intro h; cases h), fun w hw => SPI.holds (hF9 w hw), ?_⟩
      dsimp only [jumpK]
      refine g_inBlock ?_
      refine g_seq ?_
      refine gp_start mo (by kernel_rfl) (by kernel_rfl) ?_
      refine gp_quiet 0 rfl rfl rfl rfl rfl rfl (q_ld Try.isAgg25 rfl rfl) ?_
      refine gp_quiet 1 rfl rfl rfl rfl rfl rfl (q_move rfl) ?_
      refine gp_quiet 2 rfl rfl rfl rfl rfl rfl (q_len Try.underlying23 rfl) ?_
      refine gp_quiet 3 rfl rfl rfl rfl rfl rfl (q_move rfl) ?_
      refine gp_effa 4 [2, 3] [1, 0] rfl rfl rfl rfl rfl rfl rfl (does_call Try.call8 rfl (pick_ok _ _ (n1 : Int) (n : Int) (by omega) (by omega) (by omega) (by omega))) ?_
      rintro _ F9 ⟨rfl, hF9⟩; rw [hF9]; clear hF9 F9
      refine ⟨?_, ?_⟩
      · refine .cons rfl rfl rfl rfl rfl (q_move rfl) ?_
        refine .cons rfl rfl rfl rfl rfl (q_ld Try.isAgg25 rfl rfl) ?_
        exact .nil
      refine gp_fronto g ?_
      refine gp_frontb b ?_
      refine gp_effa 5 [0] [1] rfl rfl rfl rfl rfl rfl rfl (does_call Try.call10 rfl (write_ok _ _ b g n c W hW hc hn (pk n1 n) 5 (by omega) (by unfold inR; omega))) ?_
      rintro _ _ ⟨rfl, rfl⟩
      refine ⟨?_, ?_⟩
      · refine .cons rfl rfl rfl rfl rfl (q_move rfl) ?_
        exact .nil
      refine gp_end rfl rfl ?_
      refine g_seq ?_
      refine gp_start mo (by kernel_rfl) (by kernel_rfl) ?_
      refine gp_quiet 0 rfl rfl rfl rfl rfl rfl (q_ld Try.isAgg25 rfl rfl) ?_
      refine gp_quiet 1 rfl rfl rfl rfl rfl rfl (q_move rfl) ?_
      refine gp_quiet 2 rfl rfl rfl rfl rfl rfl (q_len Try.underlying23 rfl) ?_
      refine gp_quiet 3 rfl rfl rfl rfl rfl rfl (q_move rfl) ?_
      refine gp_effa 4 [2, 3] [1, 0] rfl rfl rfl rfl rfl rfl rfl (does_call Try.call8 rfl (pick_ok _ _ (n1 : Int) (n : Int) (by omega) (by omega) (by omega) (by omega))) ?_
      rintro _ F9 ⟨rfl, hF9⟩; rw [hF9]; clear hF9 F9
      refine ⟨?_, ?_⟩
      · refine .cons rfl rfl rfl rfl rfl (q_move rfl) ?_
        refine .cons rfl rfl rfl rfl rfl (q_ld Try.isAgg25 rfl rfl) ?_
        exact .nil
      refine gp_fronto g2 ?_
      refine gp_frontb b2 ?_
      refine gp_effa 5 [0] [1] rfl rfl rfl rfl rfl rfl rfl (does_call Try.call10 rfl (write_ok _ _ b2 g2 n c2 W hW hc2 hn (pk n1 n) 6 (by omega) (by unfold inR; omega))) ?_
      rintro _ _ ⟨rfl, rfl⟩
      refine ⟨?_, ?_⟩
      · refine .cons rfl rfl rfl rfl rfl (q_move rfl) ?_
        exact .nil
      refine gp_end rfl rfl ?_
      refine g_seq ?_
      refine g_region ?_
      refine l_ld rfl Try.isAgg25 rfl rfl ?_
      refine l_ld rfl Try.isAgg25 rfl rfl ?_
      refine l_call rfl Try.call11 rfl (differ_c _ _ _ _) ?_; rintro _ _ ⟨bm3, bo3, rfl, rfl⟩
      refine l_move rfl rfl ?_
      first | refine l_add rfl rfl rfl (w_i64 (by omega) (by omega)) ?_ | refine l_addw rfl rfl rfl ?_
      refine l_call rfl Try.call13 rfl (along_ok _ _ b g c b2 g2 c2 n (W.set (pk n1 n).toNat 5) (W.set (pk n1 n).toNat 6) (mem_rd (b := b) (g := g) (c := c) (W := (W.set (pk n1 n).toNat 5)) (by first | exact mem_getO 0 rfl | exact mem_getO 1 rfl | exact mem_getO 2 rfl | exact mem_getO 3 rfl | exact mem_getO 4 rfl | exact mem_getO 5 rfl | exact mem_getO 6 rfl | exact mem_getO 7 rfl) (by first | exact mem_getO 0 rfl | exact mem_getO 1 rfl | exact mem_getO 2 rfl | exact mem_getO 3 rfl | exact mem_getO 4 rfl | exact mem_getO 5 rfl | exact mem_getO 6 rfl | exact mem_getO 7 rfl)) (by rw [List.length_set]; exact hW) (mem_rd (b := b2) (g := g2) (c := c2) (W := (W.set (pk n1 n).toNat 6)) (by first | exact mem_getO 0 rfl | exact mem_getO 1 rfl | exact mem_getO 2 rfl | exact mem_getO 3 rfl | exact mem_getO 4 rfl | exact mem_getO 5 rfl | exact mem_getO 6 rfl | exact mem_getO 7 rfl) (by first | exact mem_getO 0 rfl | exact mem_getO 1 rfl | exact mem_getO 2 rfl | exact mem_getO 3 rfl | exact mem_getO 4 rfl | exact mem_getO 5 rfl | exact mem_getO 6 rfl | exact mem_getO 7 rfl)) (by rw [List.length_set]; exact hW) hn bm3 bo3 (fun w hw => by have h := hw.ok (Blk bm3 (.cells [Value.pointer (some ⟨b, 0, none⟩)].toArray 25 (0, 0))) (by first | exact mem_getO 0 rfl | exact mem_getO 1 rfl | exact mem_getO 2 rfl | exact mem_getO 3 rfl | exact mem_getO 4 rfl | exact mem_getO 5 rfl | exact mem_getO 6 rfl | exact mem_getO 7 rfl | exact mem_getO 8 rfl | exact mem_getO 9 rfl | exact mem_getO 10 rfl | exact mem_getO 11 rfl); exact cell_of_has (c := [Value.pointer (some ⟨b, 0, none⟩)]) (b := bm3) (o := 0) h rfl) (fun w hw => by have h := hw.ok (Blk bo3 (.cells [Value.pointer (some ⟨b2, 0, none⟩)].toArray 25 (0, 0))) (by first | exact mem_getO 0 rfl | exact mem_getO 1 rfl | exact mem_getO 2 rfl | exact mem_getO 3 rfl | exact mem_getO 4 rfl | exact mem_getO 5 rfl | exact mem_getO 6 rfl | exact mem_getO 7 rfl | exact mem_getO 8 rfl | exact mem_getO 9 rfl | exact mem_getO 10 rfl | exact mem_getO 11 rfl); exact cell_of_has (c := [Value.pointer (some ⟨b2, 0, none⟩)]) (b := bo3) (o := 0) h rfl) (n + 1) (by omega) (by omega)) ?_; rintro _ _ ⟨ar, cr, T, rfl, hT, rfl⟩
      rw [difs_one (by omega), if_pos (by omega), List.take_of_length_le (by simp only [List.length_singleton]; omega), Int.toNat_of_nonneg (by omega)] at hT
      subst hT
      refine l_fact (own_cases (mem_getO 0 rfl)) ?_
      rintro ⟨_, _, hv | ⟨gr, cr2, hv9, _⟩⟩
      · exact absurd hv.2 (by simp)
      obtain ⟨rfl, _, rfl⟩ := Value.slice.inj hv9
      refine l_assign rfl rfl ?_
      refine l_nil ?_
      refine g_seq ?_
      refine gp_start mo (by kernel_rfl) (by kernel_rfl) ?_
      refine gp_quiet 0 rfl rfl rfl rfl rfl rfl (q_move rfl) ?_
      refine gp_quiet 1 rfl rfl rfl rfl rfl rfl (q_len Try.underlying36 rfl) ?_
      refine gp_quiet 2 rfl rfl rfl rfl rfl rfl (q_eql rfl rfl) ?_
      refine gp_quiet 3 rfl rfl rfl rfl rfl rfl (q_move rfl) ?_
      refine gp_split 167 rfl ?_ ?_
      · intro hbr
        have hg167 := hbr
        have hbr := of_decide_eq_true hbr
        refine gp_quietg 4 rfl rfl rfl rfl rfl rfl (.yes rfl rfl (q_move rfl)) ?_
        refine gp_quietg 5 rfl rfl rfl rfl rfl rfl (.yes rfl rfl (q_ixs Try.underlying36 Try.sizeOf3 rfl rfl (by omega) (by simp only [List.length_singleton]; omega))) ?_
        refine gp_quietg 6 rfl rfl rfl rfl rfl rfl (.yes rfl rfl (q_loadc (v := .int .i64 (pk n1 n)) Try.isAgg3 rfl (own_cell (g := gr) (i := 0) rfl))) ?_
        refine gp_quietg 7 rfl rfl rfl rfl rfl rfl (.yes rfl rfl (q_move rfl)) ?_
        refine gp_quietg 8 rfl rfl rfl rfl rfl rfl (.yes rfl rfl (q_len Try.underlying23 rfl)) ?_
        refine gp_quietg 9 rfl rfl rfl rfl rfl rfl (.yes rfl rfl (q_move rfl)) ?_
        refine gp_effg 10 rfl rfl rfl rfl rfl rfl (.yes rfl rfl rfl) (Does.guard (does_call Try.call8 rfl (pick_ok _ _ (n1 : Int) (n : Int) (by omega) (by omega) (by omega) (by omega)))) ?_
        rintro _ F9 ⟨rfl, hF9⟩; rw [hF9]; clear hF9 F9
        refine ⟨?_, ?_⟩
        · refine .consG rfl rfl rfl rfl rfl (.yes rfl rfl (q_move rfl)) ?_
          refine .consG rfl rfl rfl rfl rfl (.yes rfl rfl (q_len Try.underlying23 rfl)) ?_
          refine .consG rfl rfl rfl rfl rfl (.yes rfl rfl (q_move rfl)) ?_
          refine .consG rfl rfl rfl rfl rfl (.yes rfl rfl (q_loadc (v := .int .i64 (pk n1 n)) Try.isAgg3 rfl (own_cell (g := gr) (i := 0) rfl))) ?_
          refine .consG rfl rfl rfl rfl rfl (.yes rfl rfl (q_ixs Try.underlying36 Try.sizeOf3 rfl rfl (by omega) (by simp only [List.length_singleton]; omega))) ?_
          refine .consG rfl rfl rfl rfl rfl (.yes rfl rfl (q_move rfl)) ?_
          refine .cons rfl rfl rfl rfl rfl (QV.as (q_move rfl) (congrArg Value.bool hg167)) ?_
          refine .cons rfl rfl rfl rfl rfl (q_eql rfl rfl) ?_
          refine .cons rfl rfl rfl rfl rfl (q_len Try.underlying36 rfl) ?_
          refine .cons rfl rfl rfl rfl rfl (q_move rfl) ?_
          exact .nil
        refine gp_quietg 11 rfl rfl rfl rfl rfl rfl (.yes rfl rfl (q_eql rfl rfl)) ?_
        refine gp_quiet 12 rfl rfl rfl rfl rfl rfl (q_pick_t rfl rfl) ?_
        refine gp_quiet 13 rfl rfl rfl rfl rfl rfl (q_move rfl) ?_
        refine gp_split 177 rfl ?_ ?_
        · intro hbr
          have hg177 := hbr
          have hbr := of_decide_eq_true hbr
          first | refine gp_quietg 14 rfl rfl rfl rfl rfl rfl (.yes rfl rfl (q_ld Try.isAgg3 rfl rfl)) ?_ | refine gp_quietg 14 rfl rfl rfl rfl rfl rfl (.yes rfl rfl (q_ldw Try.isAgg3 rfl (by omega))) ?_
          refine gp_quietg 15 rfl rfl rfl rfl rfl rfl (.yes rfl rfl (q_move rfl)) ?_
          refine gp_quietg 16 rfl rfl rfl rfl rfl rfl (.yes rfl rfl (q_leq rfl rfl)) ?_
          refine gp_quiet 17 rfl rfl rfl rfl rfl rfl (q_pick_t rfl rfl) ?_
          refine gp_effa 18 [0, 1, 2, 3, 4, 5, 6, 7, 8, 9, 11, 12, 13, 14, 15, 16, 17] [] rfl rfl rfl rfl rfl rfl rfl (does_st Try.sizeOf4 rfl rfl rfl rfl) ?_
          rintro _ _ ⟨rfl, rfl⟩
          refine ⟨?_, ?_⟩
          · exact .nil
          refine gp_end rfl rfl ?_
          refine g_heap (F' := Dfr r1 :: Dfr r0 :: Blk b4 (.cells [Value.bool (decide (cn ≤ (n : Int)))].toArray 4 (0, 0)) :: F) (fun w hw => SPI.holds hw) ?_
          refine g_ret_m (F := Blk b4 (.cells [Value.bool (decide (cn ≤ (n : Int)))].toArray 4 (0, 0)) :: F) [r1, r0] rfl Try.func4 (fun w hw => hw) rfl (.ci rfl Try.isAgg4 rfl .nil) ?_
          exact Gives.mki ⟨by rw [decide_eq_true (show cn ≤ (n : Int) by omega)]; rfl, rfl⟩
        · intro hbr
          have hbr := of_decide_eq_false hbr
          (exfalso; first | omega | (simp at hbr; done))
      · intro hbr
        have hbr := of_decide_eq_false hbr
        (exfalso; first | omega | (simp at hbr; done))
    intro hbr
    have hbr := of_decide_eq_false hbr
    refine l_guard_no rfl rfl rfl ?_
    refine l_guard_no rfl rfl rfl ?_
    refine l_guard_no rfl rfl rfl ?_
    refine l_pick_f rfl rfl rfl ?_
    refine l_nil ?_
    refine g_cond_f rfl ?_
    refine g_exit rfl ?_
    refine g_seq ?_
    refine g_region ?_
    refine l_alloc rfl Try.zeroValue3 rfl ?_; intro b13
    first | refine l_st Try.sizeOf3 rfl rfl rfl rfl ?_ | refine l_stw Try.sizeOf3 rfl rfl (by omega) ?_
    refine l_nil ?_
    refine g_seq ?_
    refine g_region ?_
    refine l_alloc rfl Try.zeroValue3 rfl ?_; intro b14
    first | refine l_st Try.sizeOf3 rfl rfl rfl rfl ?_ | refine l_stw Try.sizeOf3 rfl rfl (by omega) ?_
    refine l_nil ?_
    refine g_seq ?_
    refine g_region ?_
    refine l_ld rfl Try.isAgg25 rfl rfl ?_
    refine l_ld rfl Try.isAgg25 rfl rfl ?_
    refine l_call rfl Try.call11 rfl (differ_c _ _ _ _) ?_; rintro _ _ ⟨bm, bo, rfl, rfl⟩
    refine l_assign rfl rfl ?_
    refine l_nil ?_
    refine g_seq ?_
    refine g_region ?_
    refine l_ld rfl Try.isAgg25 rfl rfl ?_
    refine l_ld rfl Try.isAgg25 rfl rfl ?_
    refine l_call rfl Try.call11 rfl (differ_c _ _ _ _) ?_; rintro _ _ ⟨bm2, bo2, rfl, rfl⟩
    refine l_assign rfl rfl ?_
    refine l_nil ?_
    refine g_seq ?_
    refine g_seq ?_
    refine g_region ?_
    refine l_move rfl rfl ?_
    refine l_eqfn rfl Try.underlying32 rfl rfl ?_
    refine l_move rfl rfl ?_
    refine l_guard_yes rfl rfl ?_
    refine l_move rfl rfl ?_
    refine l_guard_yes rfl rfl ?_
    refine l_eqfn rfl Try.underlying32 rfl rfl ?_
    refine l_pick_f rfl rfl rfl ?_
    refine l_nil ?_
    refine g_cond_f rfl ?_
    refine g_skip ?_
    refine g_seq ?_
    refine g_seq ?_
    refine g_region ?_
    refine l_move rfl rfl ?_
    refine l_nil ?_
    refine g_block ?_
    refine g_rangeR rfl Try.call30 rfl ?_
    rintro r0 l0 RC0 hRC0
    refine CallK.heap (F2 := RC0 .ready none :: Blk b (.cells [.slice (some ⟨g, 0, none⟩) n c].toArray 77 (0, 0)) :: Own 30 1 (.slice (some ⟨g, 0, none⟩) n c) n (ints .u32 W) :: Blk b2 (.cells [.slice (some ⟨g2, 0, none⟩) n c2].toArray 77 (0, 0)) :: Own 30 1 (.slice (some ⟨g2, 0, none⟩) n c2) n (ints .u32 W2) :: Blk b13 (.cells [Value.int .i64 (-1)].toArray 3 (0, 0)) :: Blk b14 (.cells [Value.int .i64 0].toArray 3 (0, 0)) :: Blk bm (.cells [Value.pointer (some ⟨b, 0, none⟩)].toArray 25 (0, 0)) :: Blk bo (.cells [Value.pointer (some ⟨b2, 0, none⟩)].toArray 25 (0, 0)) :: Blk bm2 (.cells [Value.pointer (some ⟨b2, 0, none⟩)].toArray 25 (0, 0)) :: Blk bo2 (.cells [Value.pointer (some ⟨b, 0, none⟩)].toArray 25 (0, 0)) :: Blk b6 (.cells [Value.pointer (some ⟨b, 0, none⟩)].toArray 25 (0, 0)) :: Blk b8 (.cells [Value.pointer (some ⟨b2, 0, none⟩)].toArray 25 (0, 0)) :: Blk b4 (.cells [Value.bool false].toArray 4 (0, 0)) :: Dfr r0 :: F) (CallK.mono (seq_r w0 [] (fun x : Int × Int × List Int => RC0 .ready none :: Blk b (.cells [.slice (some ⟨g, 0, none⟩) n c].toArray 77 (0, 0)) :: Own 30 1 (.slice (some ⟨g, 0, none⟩) n c) n (ints .u32 W) :: Blk b2 (.cells [.slice (some ⟨g2, 0, none⟩) n c2].toArray 77 (0, 0)) :: Own 30 1 (.slice (some ⟨g2, 0, none⟩) n c2) n (ints .u32 x.2.2) :: Blk b13 (.cells [Value.int .i64 x.1].toArray 3 (0, 0)) :: Blk b14 (.cells [Value.int .i64 x.2.1].toArray 3 (0, 0)) :: Blk bm (.cells [Value.pointer (some ⟨b, 0, none⟩)].toArray 25 (0, 0)) :: Blk bo (.cells [Value.pointer (some ⟨b2, 0, none⟩)].toArray 25 (0, 0)) :: Blk bm2 (.cells [Value.pointer (some ⟨b2, 0, none⟩)].toArray 25 (0, 0)) :: Blk bo2 (.cells [Value.pointer (some ⟨b, 0, none⟩)].toArray 25 (0, 0)) :: Blk b6 (.cells [Value.pointer (some ⟨b, 0, none⟩)].toArray 25 (0, 0)) :: Blk b8 (.cells [Value.pointer (some ⟨b2, 0, none⟩)].toArray 25 (0, 0)) :: Blk b4 (.cells [Value.bool false].toArray 4 (0, 0)) :: Dfr r0 :: F) (fun k x => -1 ≤ x.1 ∧ x.1 < k ∧ 0 ≤ x.2.1 ∧ x.2.1 ≤ k ∧ x.2.2.length = n ∧ ∀ j : Nat, j < k → W.getD j 0 = x.2.2.getD j 0) (fun _ => W) (fun x => x.2.2) (fun _ => False) l0 bm bo b g c b2 g2 c2 n hn (fun k x _ => ⟨mem_rd (b := b) (g := g) (c := c) (W := W) (by first | exact mem_getO 0 rfl | exact mem_getO 1 rfl | exact mem_getO 2 rfl | exact mem_getO 3 rfl | exact mem_getO 4 rfl | exact mem_getO 5 rfl | exact mem_getO 6 rfl | exact mem_getO 7 rfl) (by first | exact mem_getO 0 rfl | exact mem_getO 1 rfl | exact mem_getO 2 rfl | exact mem_getO 3 rfl | exact mem_getO 4 rfl | exact mem_getO 5 rfl | exact mem_getO 6 rfl | exact mem_getO 7 rfl), hW⟩) (fun k x hx => ⟨mem_rd (b := b2) (g := g2) (c := c2) (W := x.2.2) (by first | exact mem_getO 0 rfl | exact mem_getO 1 rfl | exact mem_getO 2 rfl | exact mem_getO 3 rfl | exact mem_getO 4 rfl | exact mem_getO 5 rfl | exact mem_getO 6 rfl | exact mem_getO 7 rfl) (by first | exact mem_getO 0 rfl | exact mem_getO 1 rfl | exact mem_getO 2 rfl | exact mem_getO 3 rfl | exact mem_getO 4 rfl | exact mem_getO 5 rfl | exact mem_getO 6 rfl | exact mem_getO 7 rfl), hx.2.2.2.2.1⟩) (fun k x _ => ⟨(fun w hw => by have h := hw.ok (Blk bm (.cells [Value.pointer (some ⟨b, 0, none⟩)].toArray 25 (0, 0))) (by first | exact mem_getO 0 rfl | exact mem_getO 1 rfl | exact mem_getO 2 rfl | exact mem_getO 3 rfl | exact mem_getO 4 rfl | exact mem_getO 5 rfl | exact mem_getO 6 rfl | exact mem_getO 7 rfl | exact mem_getO 8 rfl | exact mem_getO 9 rfl | exact mem_getO 10 rfl | exact mem_getO 11 rfl); exact cell_of_has (c := [Value.pointer (some ⟨b, 0, none⟩)]) (b := bm) (o := 0) h rfl), (fun w hw => by have h := hw.ok (Blk bo (.cells [Value.pointer (some ⟨b2, 0, none⟩)].toArray 25 (0, 0))) (by first | exact mem_getO 0 rfl | exact mem_getO 1 rfl | exact mem_getO 2 rfl | exact mem_getO 3 rfl | exact mem_getO 4 rfl | exact mem_getO 5 rfl | exact mem_getO 6 rfl | exact mem_getO 7 rfl | exact mem_getO 8 rfl | exact mem_getO 9 rfl | exact mem_getO 10 rfl | exact mem_getO 11 rfl); exact cell_of_has (c := [Value.pointer (some ⟨b2, 0, none⟩)]) (b := bo) (o := 0) h rfl)⟩) (fun k x k0 k1 hI he => ⟨hI.1, by have := hI.2.1; omega, hI.2.2.1, by have := hI.2.2.2.1; omega, hI.2.2.2.2.1, fun j hj => by rcases (show (j : Int) < k ∨ j = k.toNat by omega) with h | rfl; (exact hI.2.2.2.2.2 j h); exact he⟩) (fun k x k0 k1 hI hne => ?_) (-1, 0, W2) ⟨by simp only; omega, by simp only; omega, by simp only; omega, by simp only; omega, hW2, fun j hj => by omega⟩) (fun en F2 hG => ?_)) (fun w hw => SPI.holds hw)
    · obtain ⟨la, cn, X⟩ := x
      obtain ⟨la0, la1, cn0, cn1, hX, hE⟩ := hI
      simp only at la0 la1 cn0 cn1 hX hE hne
      dsimp only
      refine c_roundR hRC0 rfl rfl ?_
      dsimp only [putL]
      refine g_region ?_
      refine l_assign rfl rfl ?_
      refine l_nil ?_
      refine g_beginR hRC0 ?_
      refine g_block ?_
      refine g_seq ?_
      refine g_region ?_
      refine l_ld rfl Try.isAgg25 rfl rfl ?_
      refine l_move rfl rfl ?_
      refine l_fronto g ?_
      refine l_frontb b ?_
      refine l_call rfl Try.call12 rfl (read_ok _ _ b g n c W hW hc hn k (by omega) (by unfold inR; omega)) ?_; rintro _ _ ⟨rfl, rfl⟩
      refine l_move rfl rfl ?_
      refine l_extract rfl rfl rfl ?_
      refine l_extract rfl rfl rfl ?_
      refine l_assign rfl rfl ?_
      refine l_assign rfl rfl ?_
      refine l_nil ?_
      refine g_seq ?_
      refine g_region ?_
      refine l_ld rfl Try.isAgg25 rfl rfl ?_
      refine l_move rfl rfl ?_
      refine l_fronto g2 ?_
      refine l_frontb b2 ?_
      refine l_call rfl Try.call12 rfl (read_ok _ _ b2 g2 n c2 X hX hc2 hn k (by omega) (by unfold inR; omega)) ?_; rintro _ _ ⟨rfl, rfl⟩
      refine l_move rfl rfl ?_
      refine l_extract rfl rfl rfl ?_
      refine l_extract rfl rfl rfl ?_
      refine l_assign rfl rfl ?_
      refine l_assign rfl rfl ?_
      refine l_nil ?_
      refine g_seq ?_
      refine g_seq ?_
      refine g_region ?_
      refine l_move rfl rfl ?_
      first | refine l_ld rfl Try.isAgg3 rfl rfl ?_ | refine l_ldw rfl Try.isAgg3 rfl (by omega) ?_
      refine l_leq rfl rfl rfl ?_
      refine l_move rfl rfl ?_
      refine l_split 124 rfl ?_ ?_
      · intro hbr
        have hbr := of_decide_eq_true hbr
        (exfalso; first | omega | (simp at hbr; done))
      intro hbr
      have hbr := of_decide_eq_false hbr
      refine l_guard_yes rfl rfl ?_
      refine l_move rfl rfl ?_
      refine l_guard_yes rfl rfl ?_
      refine l_neq rfl rfl rfl ?_
      refine l_pick_f rfl rfl rfl ?_
      refine l_move rfl rfl ?_
      refine l_split 128 rfl ?_ ?_
      · intro hbr
        have hbr := of_decide_eq_true hbr
        (exfalso; first | omega | (simp at hbr; done))
      intro hbr
      have hbr := of_decide_eq_false hbr
      refine l_guard_yes rfl rfl ?_
      refine l_move rfl rfl ?_
      refine l_guard_yes rfl rfl ?_
      refine l_neq rfl rfl rfl ?_
      refine l_pick_f rfl rfl rfl ?_
      refine l_move rfl rfl ?_
      refine l_split 132 rfl ?_ ?_
      · intro hbr
        have hbr := of_decide_eq_true hbr
        (exfalso; first | omega | (simp at hbr; done))
      intro hbr
      have hbr := of_decide_eq_false hbr
      refine l_guard_yes rfl rfl ?_
      refine l_move rfl rfl ?_
      refine l_guard_yes rfl rfl ?_
      refine l_move rfl rfl ?_
      refine l_guard_yes rfl rfl ?_
      refine l_eql rfl rfl rfl ?_
      refine l_pick_f rfl rfl rfl ?_
      refine l_nil ?_
      refine g_cond rfl ?_ ?_
      · intro hbr
        have hbr := of_decide_eq_true hbr
        (exfalso; first | omega | (simp at hbr; done))
      intro hbr
      have hbr := of_decide_eq_false hbr
      refine g_skip ?_
      refine g_seq ?_
      refine g_region ?_
      refine l_move rfl rfl ?_
      first | refine l_st Try.sizeOf3 rfl rfl rfl rfl ?_ | refine l_stw Try.sizeOf3 rfl rfl (by omega) ?_
      refine l_nil ?_
      refine g_seq ?_
      refine g_region ?_
      first | refine l_ld rfl Try.isAgg3 rfl rfl ?_ | refine l_ldw rfl Try.isAgg3 rfl (by omega) ?_
      first | refine l_add rfl rfl rfl (w_i64 (by omega) (by omega)) ?_ | refine l_addw rfl rfl rfl ?_
      first | refine l_st Try.sizeOf3 rfl rfl rfl rfl ?_ | refine l_stw Try.sizeOf3 rfl rfl (by omega) ?_
      refine l_nil ?_
      refine g_region ?_
      refine l_ld rfl Try.isAgg25 rfl rfl ?_
      refine l_move rfl rfl ?_
      refine l_move rfl rfl ?_
      refine l_fronto g2 ?_
      refine l_frontb b2 ?_
      refine l_call rfl Try.call10 rfl (write_ok _ _ b2 g2 n c2 X hX hc2 hn k (W.getD k.toNat 0) (by omega) (by unfold inR; omega)) ?_; rintro _ _ ⟨rfl, rfl⟩
      refine l_nil ?_
      refine g_inBlock ?_
      refine g_roundE (p := none) (F := Blk b (.cells [.slice (some ⟨g, 0, none⟩) n c].toArray 77 (0, 0)) :: Own 30 1 (.slice (some ⟨g, 0, none⟩) n c) n (ints .u32 W) :: Blk b2 (.cells [.slice (some ⟨g2, 0, none⟩) n c2].toArray 77 (0, 0)) :: Own 30 1 (.slice (some ⟨g2, 0, none⟩) n c2) n (ints .u32 (X.set k.toNat (W.getD k.toNat 0))) :: Blk b13 (.cells [Value.int .i64 k].toArray 3 (0, 0)) :: Blk b14 (.cells [Value.int .i64 (cn + 1)].toArray 3 (0, 0)) :: Blk bm (.cells [Value.pointer (some ⟨b, 0, none⟩)].toArray 25 (0, 0)) :: Blk bo (.cells [Value.pointer (some ⟨b2, 0, none⟩)].toArray 25 (0, 0)) :: Blk bm2 (.cells [Value.pointer (some ⟨b2, 0, none⟩)].toArray 25 (0, 0)) :: Blk bo2 (.cells [Value.pointer (some ⟨b, 0, none⟩)].toArray 25 (0, 0)) :: Blk b6 (.cells [Value.pointer (some ⟨b, 0, none⟩)].toArray 25 (0, 0)) :: Blk b8 (.cells [Value.pointer (some ⟨b2, 0, none⟩)].toArray 25 (0, 0)) :: Blk b4 (.cells [Value.bool false].toArray 4 (0, 0)) :: Dfr r0 :: F) hRC0 (fun w hw => SPI.holds hw) ?_
      exact ⟨_, rfl, true, rfl, fun _ => ⟨(k, cn + 1, X.set k.toNat (W.getD k.toNat 0)), ⟨by simp only; omega, by simp only; omega, by simp only; omega, by simp only; omega, by simp only; rw [List.length_set]; exact hX, fun j hj => by simp only; rw [dif_set_getD (by omega)]; split; (rename_i h9; rw [h9]); exact hE j (by omega)⟩, fun w hw => hw⟩, fun h => (by cases h)⟩
    obtain ⟨v9, F9, rfl, hR9, hF9⟩ := hG
    refine ⟨⟨_, rfl⟩, ?_⟩
    obtain ⟨⟨la, cn, X⟩, ⟨_, _, cn0, cn1, hX, hE⟩, rfl⟩ := hR9.resolve_right (fun h => h)
    simp only at cn0 cn1 hX hE
    obtain rfl : W = X := dif_ext hW hX fun j hj => hE j (by omega)
    refine ⟨.ready, none, Blk b (.cells [.slice (some ⟨g, 0, none⟩) n c].toArray 77 (0, 0)) :: Own 30 1 (.slice (some ⟨g, 0, none⟩) n c) n (ints .u32 W) :: Blk b2 (.cells [.slice (some ⟨g2, 0, none⟩) n c2].toArray 77 (0, 0)) :: Own 30 1 (.slice (some ⟨g2, 0, none⟩) n c2) n (ints .u32 W) :: Blk b14 (.cells [Value.int .i64 cn].toArray 3 (0, 0)) :: Blk bm2 (.cells [Value.pointer (some ⟨b2, 0, none⟩)].toArray 25 (0, 0)) :: Blk bo2 (.cells [Value.pointer (some ⟨b, 0, none⟩)].toArray 25 (0, 0)) :: Blk b6 (.cells [Value.pointer (some ⟨b, 0, none⟩)].toArray 25 (0, 0)) :: Blk b8 (.cells [Value.pointer (some ⟨b2, 0, none⟩)].toArray 25 (0, 0)) :: Blk b4 (.cells [Value.bool false].toArray 4 (0, 0)) :: Dfr r0 :: F, (by intro h; cases h), fun w hw => SPI.holds (hF9 w hw), ?_⟩
    dsimp only [jumpK]
    refine g_inBlock ?_
    refine g_seq ?_
    refine g_seq ?_
    refine g_region ?_
    refine l_move rfl rfl ?_
    refine l_nil ?_
    refine g_block ?_
    refine g_rangeR rfl Try.call30 rfl ?_
    rintro r1 l1 RC1 hRC1
    refine CallK.heap (F2 := RC1 .ready none :: Blk b (.cells [.slice (some ⟨g, 0, none⟩) n c].toArray 77 (0, 0)) :: Own 30 1 (.slice (some ⟨g, 0, none⟩) n c) n (ints .u32 W) :: Blk b2 (.cells [.slice (some ⟨g2, 0, none⟩) n c2].toArray 77 (0, 0)) :: Own 30 1 (.slice (some ⟨g2, 0, none⟩) n c2) n (ints .u32 W) :: Blk b14 (.cells [Value.int .i64 cn].toArray 3 (0, 0)) :: Blk bm2 (.cells [Value.pointer (some ⟨b2, 0, none⟩)].toArray 25 (0, 0)) :: Blk bo2 (.cells [Value.pointer (some ⟨b, 0, none⟩)].toArray 25 (0, 0)) :: Blk b6 (.cells [Value.pointer (some ⟨b, 0, none⟩)].toArray 25 (0, 0)) :: Blk b8 (.cells [Value.pointer (some ⟨b2, 0, none⟩)].toArray 25 (0, 0)) :: Blk b4 (.cells [Value.bool false].toArray 4 (0, 0)) :: Dfr r1 :: Dfr r0 :: F) (CallK.mono (seq_r w0 [] (fun _ : Unit => RC1 .ready none :: Blk b (.cells [.slice (some ⟨g, 0, none⟩) n c].toArray 77 (0, 0)) :: Own 30 1 (.slice (some ⟨g, 0, none⟩) n c) n (ints .u32 W) :: Blk b2 (.cells [.slice (some ⟨g2, 0, none⟩) n c2].toArray 77 (0, 0)) :: Own 30 1 (.slice (some ⟨g2, 0, none⟩) n c2) n (ints .u32 W) :: Blk b14 (.cells [Value.int .i64 cn].toArray 3 (0, 0)) :: Blk bm2 (.cells [Value.pointer (some ⟨b2, 0, none⟩)].toArray 25 (0, 0)) :: Blk bo2 (.cells [Value.pointer (some ⟨b, 0, none⟩)].toArray 25 (0, 0)) :: Blk b6 (.cells [Value.pointer (some ⟨b, 0, none⟩)].toArray 25 (0, 0)) :: Blk b8 (.cells [Value.pointer (some ⟨b2, 0, none⟩)].toArray 25 (0, 0)) :: Blk b4 (.cells [Value.bool false].toArray 4 (0, 0)) :: Dfr r1 :: Dfr r0 :: F) (fun _ _ => True) (fun _ => W) (fun _ => W) (fun _ => False) l1 bm2 bo2 b2 g2 c2 b g c n hn (fun k x _ => ⟨mem_rd (b := b2) (g := g2) (c := c2) (W := W) (by first | exact mem_getO 0 rfl | exact mem_getO 1 rfl | exact mem_getO 2 rfl | exact mem_getO 3 rfl | exact mem_getO 4 rfl | exact mem_getO 5 rfl | exact mem_getO 6 rfl | exact mem_getO 7 rfl) (by first | exact mem_getO 0 rfl | exact mem_getO 1 rfl | exact mem_getO 2 rfl | exact mem_getO 3 rfl | exact mem_getO 4 rfl | exact mem_getO 5 rfl | exact mem_getO 6 rfl | exact mem_getO 7 rfl), hW⟩) (fun k x hx => ⟨mem_rd (b := b) (g := g) (c := c) (W := W) (by first | exact mem_getO 0 rfl | exact mem_getO 1 rfl | exact mem_getO 2 rfl | exact mem_getO 3 rfl | exact mem_getO 4 rfl | exact mem_getO 5 rfl | exact mem_getO 6 rfl | exact mem_getO 7 rfl) (by first | exact mem_getO 0 rfl | exact mem_getO 1 rfl | exact mem_getO 2 rfl | exact mem_getO 3 rfl | exact mem_getO 4 rfl | exact mem_getO 5 rfl | exact mem_getO 6 rfl | exact mem_getO 7 rfl), hW⟩) (fun k x _ => ⟨(fun w hw => by have h := hw.ok (Blk bm2 (.cells [Value.pointer (some ⟨b2, 0, none⟩)].toArray 25 (0, 0))) (by first | exact mem_getO 0 rfl | exact mem_getO 1 rfl | exact mem_getO 2 rfl | exact mem_getO 3 rfl | exact mem_getO 4 rfl | exact mem_getO 5 rfl | exact mem_getO 6 rfl | exact mem_getO 7 rfl | exact mem_getO 8 rfl | exact mem_getO 9 rfl | exact mem_getO 10 rfl | exact mem_getO 11 rfl); exact cell_of_has (c := [Value.pointer (some ⟨b2, 0, none⟩)]) (b := bm2) (o := 0) h rfl), (fun w hw => by have h := hw.ok (Blk bo2 (.cells [Value.pointer (some ⟨b, 0, none⟩)].toArray 25 (0, 0))) (by first | exact mem_getO 0 rfl | exact mem_getO 1 rfl | exact mem_getO 2 rfl | exact mem_getO 3 rfl | exact mem_getO 4 rfl | exact mem_getO 5 rfl | exact mem_getO 6 rfl | exact mem_getO 7 rfl | exact mem_getO 8 rfl | exact mem_getO 9 rfl | exact mem_getO 10 rfl | exact mem_getO 11 rfl); exact cell_of_has (c := [Value.pointer (some ⟨b, 0, none⟩)]) (b := bo2) (o := 0) h rfl)⟩) (fun _ _ _ _ _ _ => trivial) (fun k x k0 k1 hI hne => absurd rfl hne) () trivial) (fun en F2 hG => ?_)) (fun w hw => SPI.holds hw)
    obtain ⟨v9, F9, rfl, hR9, hF9⟩ := hG
    refine ⟨⟨_, rfl⟩, ?_⟩
    obtain ⟨_, _, rfl⟩ := hR9.resolve_right (fun h => h)
    refine ⟨.ready, none, Blk b (.cells [.slice (some ⟨g, 0, none⟩) n c].toArray 77 (0, 0)) :: Own 30 1 (.slice (some ⟨g, 0, none⟩) n c) n (ints .u32 W) :: Blk b2 (.cells [.slice (some ⟨g2, 0, none⟩) n c2].toArray 77 (0, 0)) :: Own 30 1 (.slice (some ⟨g2, 0, none⟩) n c2) n (ints .u32 W) :: Blk b14 (.cells [Value.int .i64 cn].toArray 3 (0, 0)) :: Blk bm2 (.cells [Value.pointer (some ⟨b2, 0, none⟩)].toArray 25 (0, 0)) :: Blk bo2 (.cells [Value.pointer (some ⟨b, 0, none⟩)].toArray 25 (0, 0)) :: Blk b6 (.cells [Value.pointer (some ⟨b, 0, none⟩)].toArray 25 (0, 0)) :: Blk b8 (.cells [Value.pointer (some ⟨b2, 0, none⟩)].toArray 25 (0, 0)) :: Blk b4 (.cells [Value.bool false].toArray 4 (0, 0)) :: Dfr r1 :: Dfr r0 :: F, (by intro h; cases h), fun w hw => SPI.holds (hF9 w hw), ?_⟩
    dsimp only [jumpK]
    refine g_inBlock ?_
    refine g_seq ?_
    refine gp_start mo (by kernel_rfl) (by kernel_rfl) ?_
    refine gp_quiet 0 rfl rfl rfl rfl rfl rfl (q_ld Try.isAgg25 rfl rfl) ?_
    refine gp_quiet 1 rfl rfl rfl rfl rfl rfl (q_move rfl) ?_
    refine gp_quiet 2 rfl rfl rfl rfl rfl rfl (q_len Try.underlying23 rfl) ?_
    refine gp_quiet 3 rfl rfl rfl rfl rfl rfl (q_move rfl) ?_
    refine gp_effa 4 [2, 3] [1, 0] rfl rfl rfl rfl rfl rfl rfl (does_call Try.call8 rfl (pick_ok _ _ (n1 : Int) (n : Int) (by omega) (by omega) (by omega) (by omega))) ?_
    rintro _ F9 ⟨rfl, hF9⟩; rw [hF9]; clear hF9 F9
    refine ⟨?_, ?_⟩
    · refine .cons rfl rfl rfl rfl rfl (q_move rfl) ?_
      refine .cons rfl rfl rfl rfl rfl (q_ld Try.isAgg25 rfl rfl) ?_
      exact .nil
    refine gp_fronto g ?_
    refine gp_frontb b ?_
    refine gp_effa 5 [0] [1] rfl rfl rfl rfl rfl rfl rfl (does_call Try.call10 rfl (write_ok _ _ b g n c W hW hc hn (pk n1 n) 5 (by omega) (by unfold inR; omega))) ?_
    rintro _ _ ⟨rfl, rfl⟩
    refine ⟨?_, ?_⟩
    · refine .cons rfl rfl rfl rfl rfl (q_move rfl) ?_
      exact .nil
    refine gp_end rfl rfl ?_
    refine g_seq ?_
    refine gp_start mo (by kernel_rfl) (by kernel_rfl) ?_
    refine gp_quiet 0 rfl rfl rfl rfl rfl rfl (q_ld Try.isAgg25 rfl rfl) ?_
    refine gp_quiet 1 rfl rfl rfl rfl rfl rfl (q_move rfl) ?_
    refine gp_quiet 2 rfl rfl rfl rfl rfl rfl (q_len Try.underlying23 rfl) ?_
    refine gp_quiet 3 rfl rfl rfl rfl rfl rfl (q_move rfl) ?_
    refine gp_effa 4 [2, 3] [1, 0] rfl rfl rfl rfl rfl rfl rfl (does_call Try.call8 rfl (pick_ok _ _ (n1 : Int) (n : Int) (by omega) (by omega) (by omega) (by omega))) ?_
    rintro _ F9 ⟨rfl, hF9⟩; rw [hF9]; clear hF9 F9
    refine ⟨?_, ?_⟩
    · refine .cons rfl rfl rfl rfl rfl (q_move rfl) ?_
      refine .cons rfl rfl rfl rfl rfl (q_ld Try.isAgg25 rfl rfl) ?_
      exact .nil
    refine gp_fronto g2 ?_
    refine gp_frontb b2 ?_
    refine gp_effa 5 [0] [1] rfl rfl rfl rfl rfl rfl rfl (does_call Try.call10 rfl (write_ok _ _ b2 g2 n c2 W hW hc2 hn (pk n1 n) 6 (by omega) (by unfold inR; omega))) ?_
    rintro _ _ ⟨rfl, rfl⟩
    refine ⟨?_, ?_⟩
    · refine .cons rfl rfl rfl rfl rfl (q_move rfl) ?_
      exact .nil
    refine gp_end rfl rfl ?_
    refine g_seq ?_
    refine g_region ?_
    refine l_ld rfl Try.isAgg25 rfl rfl ?_
    refine l_ld rfl Try.isAgg25 rfl rfl ?_
    refine l_call rfl Try.call11 rfl (differ_c _ _ _ _) ?_; rintro _ _ ⟨bm3, bo3, rfl, rfl⟩
    refine l_move rfl rfl ?_
    first | refine l_add rfl rfl rfl (w_i64 (by omega) (by omega)) ?_ | refine l_addw rfl rfl rfl ?_
    refine l_call rfl Try.call13 rfl (along_ok _ _ b g c b2 g2 c2 n (W.set (pk n1 n).toNat 5) (W.set (pk n1 n).toNat 6) (mem_rd (b := b) (g := g) (c := c) (W := (W.set (pk n1 n).toNat 5)) (by first | exact mem_getO 0 rfl | exact mem_getO 1 rfl | exact mem_getO 2 rfl | exact mem_getO 3 rfl | exact mem_getO 4 rfl | exact mem_getO 5 rfl | exact mem_getO 6 rfl | exact mem_getO 7 rfl) (by first | exact mem_getO 0 rfl | exact mem_getO 1 rfl | exact mem_getO 2 rfl | exact mem_getO 3 rfl | exact mem_getO 4 rfl | exact mem_getO 5 rfl | exact mem_getO 6 rfl | exact mem_getO 7 rfl)) (by rw [List.length_set]; exact hW) (mem_rd (b := b2) (g := g2) (c := c2) (W := (W.set (pk n1 n).toNat 6)) (by first | exact mem_getO 0 rfl | exact mem_getO 1 rfl | exact mem_getO 2 rfl | exact mem_getO 3 rfl | exact mem_getO 4 rfl | exact mem_getO 5 rfl | exact mem_getO 6 rfl | exact mem_getO 7 rfl) (by first | exact mem_getO 0 rfl | exact mem_getO 1 rfl | exact mem_getO 2 rfl | exact mem_getO 3 rfl | exact mem_getO 4 rfl | exact mem_getO 5 rfl | exact mem_getO 6 rfl | exact mem_getO 7 rfl)) (by rw [List.length_set]; exact hW) hn bm3 bo3 (fun w hw => by have h := hw.ok (Blk bm3 (.cells [Value.pointer (some ⟨b, 0, none⟩)].toArray 25 (0, 0))) (by first | exact mem_getO 0 rfl | exact mem_getO 1 rfl | exact mem_getO 2 rfl | exact mem_getO 3 rfl | exact mem_getO 4 rfl | exact mem_getO 5 rfl | exact mem_getO 6 rfl | exact mem_getO 7 rfl | exact mem_getO 8 rfl | exact mem_getO 9 rfl | exact mem_getO 10 rfl | exact mem_getO 11 rfl); exact cell_of_has (c := [Value.pointer (some ⟨b, 0, none⟩)]) (b := bm3) (o := 0) h rfl) (fun w hw => by have h := hw.ok (Blk bo3 (.cells [Value.pointer (some ⟨b2, 0, none⟩)].toArray 25 (0, 0))) (by first | exact mem_getO 0 rfl | exact mem_getO 1 rfl | exact mem_getO 2 rfl | exact mem_getO 3 rfl | exact mem_getO 4 rfl | exact mem_getO 5 rfl | exact mem_getO 6 rfl | exact mem_getO 7 rfl | exact mem_getO 8 rfl | exact mem_getO 9 rfl | exact mem_getO 10 rfl | exact mem_getO 11 rfl); exact cell_of_has (c := [Value.pointer (some ⟨b2, 0, none⟩)]) (b := bo3) (o := 0) h rfl) (n + 1) (by omega) (by omega)) ?_; rintro _ _ ⟨ar, cr, T, rfl, hT, rfl⟩
    rw [difs_one (by omega), if_pos (by omega), List.take_of_length_le (by simp only [List.length_singleton]; omega), Int.toNat_of_nonneg (by omega)] at hT
    subst hT
    refine l_fact (own_cases (mem_getO 0 rfl)) ?_
    rintro ⟨_, _, hv | ⟨gr, cr2, hv9, _⟩⟩
    · exact absurd hv.2 (by simp)
    obtain ⟨rfl, _, rfl⟩ := Value.slice.inj hv9
    refine l_assign rfl rfl ?_
    refine l_nil ?_
    refine g_seq ?_
    refine gp_start mo (by kernel_rfl) (by kernel_rfl) ?_
    refine gp_quiet 0 rfl rfl rfl rfl rfl rfl (q_move rfl) ?_
    refine gp_quiet 1 rfl rfl rfl rfl rfl rfl (q_len Try.underlying36 rfl) ?_
    refine gp_quiet 2 rfl rfl rfl rfl rfl rfl (q_eql rfl rfl) ?_
    refine gp_quiet 3 rfl rfl rfl rfl rfl rfl (q_move rfl) ?_
    refine gp_split 167 rfl ?_ ?_
    · intro hbr
      have hg167 := hbr
      have hbr := of_decide_eq_true hbr
      refine gp_quietg 4 rfl rfl rfl rfl rfl rfl (.yes rfl rfl (q_move rfl)) ?_
      refine gp_quietg 5 rfl rfl rfl rfl rfl rfl (.yes rfl rfl (q_ixs Try.underlying36 Try.sizeOf3 rfl rfl (by omega) (by simp only [List.length_singleton]; omega))) ?_
      refine gp_quietg 6 rfl rfl rfl rfl rfl rfl (.yes rfl rfl (q_loadc (v := .int .i64 (pk n1 n)) Try.isAgg3 rfl (own_cell (g := gr) (i := 0) rfl))) ?_
      refine gp_quietg 7 rfl rfl rfl rfl rfl rfl (.yes rfl rfl (q_move rfl)) ?_
      refine gp_quietg 8 rfl rfl rfl rfl rfl rfl (.yes rfl rfl (q_len Try.underlying23 rfl)) ?_
      refine gp_quietg 9 rfl rfl rfl rfl rfl rfl (.yes rfl rfl (q_move rfl)) ?_
      refine gp_effg 10 rfl rfl rfl rfl rfl rfl (.yes rfl rfl rfl) (Does.guard (does_call Try.call8 rfl (pick_ok _ _ (n1 : Int) (n : Int) (by omega) (by omega) (by omega) (by omega)))) ?_
      rintro _ F9 ⟨rfl, hF9⟩; rw [hF9]; clear hF9 F9
      refine ⟨?_, ?_⟩
      · refine .consG rfl rfl rfl rfl rfl (.yes rfl rfl (q_move rfl)) ?_
        refine .consG rfl rfl rfl rfl rfl (.yes rfl rfl (q_len Try.underlying23 rfl)) ?_
        refine .consG rfl rfl rfl rfl rfl (.yes rfl rfl (q_move rfl)) ?_
        refine .consG rfl rfl rfl rfl rfl (.yes rfl rfl (q_loadc (v := .int .i64 (pk n1 n)) Try.isAgg3 rfl (own_cell (g := gr) (i := 0) rfl))) ?_
        refine .consG rfl rfl rfl rfl rfl (.yes rfl rfl (q_ixs Try.underlying36 Try.sizeOf3 rfl rfl (by omega) (by simp only [List.length_singleton]; omega))) ?_
        refine .consG rfl rfl rfl rfl rfl (.yes rfl rfl (q_move rfl)) ?_
        refine .cons rfl rfl rfl rfl rfl (QV.as (q_move rfl) (congrArg Value.bool hg167)) ?_
        refine .cons rfl rfl rfl rfl rfl (q_eql rfl rfl) ?_
        refine .cons rfl rfl rfl rfl rfl (q_len Try.underlying36 rfl) ?_
        refine .cons rfl rfl rfl rfl rfl (q_move rfl) ?_
        exact .nil
      refine gp_quietg 11 rfl rfl rfl rfl rfl rfl (.yes rfl rfl (q_eql rfl rfl)) ?_
      refine gp_quiet 12 rfl rfl rfl rfl rfl rfl (q_pick_t rfl rfl) ?_
      refine gp_quiet 13 rfl rfl rfl rfl rfl rfl (q_move rfl) ?_
      refine gp_split 177 rfl ?_ ?_
      · intro hbr
        have hg177 := hbr
        have hbr := of_decide_eq_true hbr
        first | refine gp_quietg 14 rfl rfl rfl rfl rfl rfl (.yes rfl rfl (q_ld Try.isAgg3 rfl rfl)) ?_ | refine gp_quietg 14 rfl rfl rfl rfl rfl rfl (.yes rfl rfl (q_ldw Try.isAgg3 rfl (by omega))) ?_
        refine gp_quietg 15 rfl rfl rfl rfl rfl rfl (.yes rfl rfl (q_move rfl)) ?_
        refine gp_quietg 16 rfl rfl rfl rfl rfl rfl (.yes rfl rfl (q_leq rfl rfl)) ?_
        refine gp_quiet 17 rfl rfl rfl rfl rfl rfl (q_pick_t rfl rfl) ?_
        refine gp_effa 18 [0, 1, 2, 3, 4, 5, 6, 7, 8, 9, 11, 12, 13, 14, 15, 16, 17] [] rfl rfl rfl rfl rfl rfl rfl (does_st Try.sizeOf4 rfl rfl rfl rfl) ?_
        rintro _ _ ⟨rfl, rfl⟩
        refine ⟨?_, ?_⟩
        · exact .nil
        refine gp_end rfl rfl ?_
        refine g_heap (F' := Dfr r1 :: Dfr r0 :: Blk b4 (.cells [Value.bool (decide (cn ≤ (n : Int)))].toArray 4 (0, 0)) :: F) (fun w hw => SPI.holds hw) ?_
        refine g_ret_m (F := Blk b4 (.cells [Value.bool (decide (cn ≤ (n : Int)))].toArray 4 (0, 0)) :: F) [r1, r0] rfl Try.func4 (fun w hw => hw) rfl (.ci rfl Try.isAgg4 rfl .nil) ?_
        exact Gives.mki ⟨by rw [decide_eq_true (show cn ≤ (n : Int) by omega)]; rfl, rfl⟩
      · intro hbr
        have hbr := of_decide_eq_false hbr
        (exfalso; first | omega | (simp at hbr; done))
    · intro hbr
      have hbr := of_decide_eq_false hbr
      (exfalso; first | omega | (simp at hbr; done))
  intro hbr
  have hbr := of_decide_eq_false hbr
  refine l_guard_no rfl rfl rfl ?_
  refine l_guard_no rfl rfl rfl ?_
  refine l_guard_no rfl rfl rfl ?_
  refine l_pick_f rfl rfl rfl ?_
  refine l_nil ?_
  refine g_cond_f rfl ?_
  refine g_exit rfl ?_
  refine g_seq ?_
  refine g_seq ?_
  refine g_region ?_
  refine l_assign rfl rfl ?_
  refine l_nil ?_
  refine g_block ?_
  refine g_loopk (X := Int × List Int) [(0, _), (1, _), (4, _), (6, _), (8, _), (10, _)] (.cons rfl (.cons rfl (.cons rfl (.cons rfl (.cons rfl (.cons rfl (.nil))))))) (fun z => 0 ≤ z.1 ∧ z.1 ≤ n2 ∧ z.2.length = n) (fun z => ((n2 : Int) - z.1).toNat) (fun z => [(12, .int .i64 z.1)]) (fun z => Blk b (.cells [.slice (some ⟨g, 0, none⟩) n c].toArray 77 (0, 0)) :: Own 30 1 (.slice (some ⟨g, 0, none⟩) n c) n (ints .u32 W) :: Blk b2 (.cells [.slice (some ⟨g2, 0, none⟩) n c2].toArray 77 (0, 0)) :: Own 30 1 (.slice (some ⟨g2, 0, none⟩) n c2) n (ints .u32 z.2) :: Blk b6 (.cells [Value.pointer (some ⟨b, 0, none⟩)].toArray 25 (0, 0)) :: Blk b8 (.cells [Value.pointer (some ⟨b2, 0, none⟩)].toArray 25 (0, 0)) :: Blk b4 (.cells [Value.bool false].toArray 4 (0, 0)) :: F) ((0, W2)) (⟨by simp only; omega, by simp only; omega, hW2⟩) (.cons rfl .nil) (fun w hw => SPI.holds hw) ?_
  rintro ⟨i, W2⟩ ⟨i0, i1, hW2⟩ ihk
  dsimp only [List.cons_append, List.nil_append] at ihk ⊢
  simp only at i0 i1 hW2
  refine g_seq ?_
  refine g_seq ?_
  refine g_region ?_
  refine l_move rfl rfl ?_
  refine l_move rfl rfl ?_
  refine l_len rfl Try.underlying23 rfl ?_
  refine l_lss rfl rfl rfl ?_
  refine l_move rfl rfl ?_
  refine l_split 78 rfl ?_ ?_
  · intro hbr
    have hbr := of_decide_eq_true hbr
    refine l_guard_yes rfl rfl ?_
    refine l_move rfl rfl ?_
    refine l_guard_yes rfl rfl ?_
    refine l_move rfl rfl ?_
    refine l_guard_yes rfl rfl ?_
    refine l_lss rfl rfl rfl ?_
    refine l_pick_t rfl rfl rfl ?_
    refine l_nil ?_
    refine g_cond rfl ?_ ?_
    · intro hbr
      have hbr := of_decide_eq_true hbr
      refine g_skip ?_
      refine g_seq ?_
      refine g_block ?_
      refine gp_start mo (by kernel_rfl) (by kernel_rfl) ?_
      refine gp_quiet 0 rfl rfl rfl rfl rfl rfl (q_ld Try.isAgg25 rfl rfl) ?_
      refine gp_quiet 1 rfl rfl rfl rfl rfl rfl (q_move rfl) ?_
      first | refine gp_quiet 2 rfl rfl rfl rfl rfl rfl (q_sub_ rfl rfl (w_i64 (by omega) (by omega))) ?_ | refine gp_quiet 2 rfl rfl rfl rfl rfl rfl (q_subw rfl rfl) ?_
      refine gp_quiet 3 rfl rfl rfl rfl rfl rfl (q_move rfl) ?_
      first | refine gp_quiet 4 rfl rfl rfl rfl rfl rfl (q_sub_ rfl rfl (w_i64 (by omega) (by omega))) ?_ | refine gp_quiet 4 rfl rfl rfl rfl rfl rfl (q_subw rfl rfl) ?_
      refine gp_quiet 5 rfl rfl rfl rfl rfl rfl (q_move rfl) ?_
      refine gp_quiet 6 rfl rfl rfl rfl rfl rfl (q_move rfl) ?_
      obtain ⟨bY, oY, rfl, hrY⟩ := hI2.some (i := i.toNat) (by omega)
      refine gp_quiet 7 rfl rfl rfl rfl rfl rfl (q_ixs Try.underlying23 Try.sizeOf30 rfl rfl (by omega) (by omega)) ?_
      refine gp_quiet 8 rfl rfl rfl rfl rfl rfl (q_loadc Try.isAgg30 rfl (word_any hrY (by omega))) ?_
      refine gp_fronto g2 ?_
      refine gp_frontb b2 ?_
      refine gp_effa 9 [0, 4, 8] [7, 6, 5, 3, 2, 1] rfl rfl rfl rfl rfl rfl rfl (does_call Try.call10 rfl (write_ok _ _ b2 g2 n c2 W2 hW2 hc2 hn ((n : Int) - 1 - i) (Y2.getD i.toNat 0) (by omega) (by unfold inR; omega))) ?_
      rintro _ _ ⟨rfl, rfl⟩
      refine ⟨?_, ?_⟩
      · refine .cons rfl rfl rfl rfl rfl (q_ixs Try.underlying23 Try.sizeOf30 rfl rfl (by omega) (by omega)) ?_
        refine .cons rfl rfl rfl rfl rfl (q_move rfl) ?_
        refine .cons rfl rfl rfl rfl rfl (q_move rfl) ?_
        refine .cons rfl rfl rfl rfl rfl (q_move rfl) ?_
        first | refine .cons rfl rfl rfl rfl rfl (q_sub_ rfl rfl (w_i64 (by omega) (by omega))) ?_ | refine .cons rfl rfl rfl rfl rfl (q_subw rfl rfl) ?_
        refine .cons rfl rfl rfl rfl rfl (q_move rfl) ?_
        exact .nil
      refine gp_end rfl rfl ?_
      refine g_inBlock ?_
      refine g_region ?_
      refine l_move rfl rfl ?_
      first | refine l_add rfl rfl rfl (w_i64 (by omega) (by omega)) ?_ | refine l_addw rfl rfl rfl ?_
      refine l_assign rfl rfl ?_
      refine l_nil ?_
      exact g_againi (ihk (i + 1, W2.set ((n : Int) - 1 - i).toNat (Y2.getD i.toNat 0)) ⟨by simp only; omega, by simp only; omega, by simp only [List.length_set]; exact hW2⟩ (by simp only; omega)) (.cons rfl (.cons rfl (.cons rfl (.cons rfl (.cons rfl (.cons rfl (.cons rfl (.nil))))))))
    intro hbr
    have hbr := of_decide_eq_false hbr
    refine g_exit rfl ?_
    refine g_seq ?_
    refine g_region ?_
    refine l_alloc rfl Try.zeroValue3 rfl ?_; intro b13
    first | refine l_st Try.sizeOf3 rfl rfl rfl rfl ?_ | refine l_stw Try.sizeOf3 rfl rfl (by omega) ?_
    refine l_nil ?_
    refine g_seq ?_
    refine g_region ?_
    refine l_alloc rfl Try.zeroValue3 rfl ?_; intro b14
    first | refine l_st Try.sizeOf3 rfl rfl rfl rfl ?_ | refine l_stw Try.sizeOf3 rfl rfl (by omega) ?_
    refine l_nil ?_
    refine g_seq ?_
    refine g_region ?_
    refine l_ld rfl Try.isAgg25 rfl rfl ?_
    refine l_ld rfl Try.isAgg25 rfl rfl ?_
    refine l_call rfl Try.call11 rfl (differ_c _ _ _ _) ?_; rintro _ _ ⟨bm, bo, rfl, rfl⟩
    refine l_assign rfl rfl ?_
    refine l_nil ?_
    refine g_seq ?_
    refine g_region ?_
    refine l_ld rfl Try.isAgg25 rfl rfl ?_
    refine l_ld rfl Try.isAgg25 rfl rfl ?_
    refine l_call rfl Try.call11 rfl (differ_c _ _ _ _) ?_; rintro _ _ ⟨bm2, bo2, rfl, rfl⟩
    refine l_assign rfl rfl ?_
    refine l_nil ?_
    refine g_seq ?_
    refine g_seq ?_
    refine g_region ?_
    refine l_move rfl rfl ?_
    refine l_eqfn rfl Try.underlying32 rfl rfl ?_
    refine l_move rfl rfl ?_
    refine l_guard_yes rfl rfl ?_
    refine l_move rfl rfl ?_
    refine l_guard_yes rfl rfl ?_
    refine l_eqfn rfl Try.underlying32 rfl rfl ?_
    refine l_pick_f rfl rfl rfl ?_
    refine l_nil ?_
    refine g_cond_f rfl ?_
    refine g_skip ?_
    refine g_seq ?_
    refine g_seq ?_
    refine g_region ?_
    refine l_move rfl rfl ?_
    refine l_nil ?_
    refine g_block ?_
    refine g_rangeR rfl Try.call30 rfl ?_
    rintro r0 l0 RC0 hRC0
    refine CallK.heap (F2 := RC0 .ready none :: Blk b (.cells [.slice (some ⟨g, 0, none⟩) n c].toArray 77 (0, 0)) :: Own 30 1 (.slice (some ⟨g, 0, none⟩) n c) n (ints .u32 W) :: Blk b2 (.cells [.slice (some ⟨g2, 0, none⟩) n c2].toArray 77 (0, 0)) :: Own 30 1 (.slice (some ⟨g2, 0, none⟩) n c2) n (ints .u32 W2) :: Blk b13 (.cells [Value.int .i64 (-1)].toArray 3 (0, 0)) :: Blk b14 (.cells [Value.int .i64 0].toArray 3 (0, 0)) :: Blk bm (.cells [Value.pointer (some ⟨b, 0, none⟩)].toArray 25 (0, 0)) :: Blk bo (.cells [Value.pointer (some ⟨b2, 0, none⟩)].toArray 25 (0, 0)) :: Blk bm2 (.cells [Value.pointer (some ⟨b2, 0, none⟩)].toArray 25 (0, 0)) :: Blk bo2 (.cells [Value.pointer (some ⟨b, 0, none⟩)].toArray 25 (0, 0)) :: Blk b6 (.cells [Value.pointer (some ⟨b, 0, none⟩)].toArray 25 (0, 0)) :: Blk b8 (.cells [Value.pointer (some ⟨b2, 0, none⟩)].toArray 25 (0, 0)) :: Blk b4 (.cells [Value.bool false].toArray 4 (0, 0)) :: Dfr r0 :: F) (CallK.mono (seq_r w0 [] (fun x : Int × Int × List Int => RC0 .ready none :: Blk b (.cells [.slice (some ⟨g, 0, none⟩) n c].toArray 77 (0, 0)) :: Own 30 1 (.slice (some ⟨g, 0, none⟩) n c) n (ints .u32 W) :: Blk b2 (.cells [.slice (some ⟨g2, 0, none⟩) n c2].toArray 77 (0, 0)) :: Own 30 1 (.slice (some ⟨g2, 0, none⟩) n c2) n (ints .u32 x.2.2) :: Blk b13 (.cells [Value.int .i64 x.1].toArray 3 (0, 0)) :: Blk b14 (.cells [Value.int .i64 x.2.1].toArray 3 (0, 0)) :: Blk bm (.cells [Value.pointer (some ⟨b, 0, none⟩)].toArray 25 (0, 0)) :: Blk bo (.cells [Value.pointer (some ⟨b2, 0, none⟩)].toArray 25 (0, 0)) :: Blk bm2 (.cells [Value.pointer (some ⟨b2, 0, none⟩)].toArray 25 (0, 0)) :: Blk bo2 (.cells [Value.pointer (some ⟨b, 0, none⟩)].toArray 25 (0, 0)) :: Blk b6 (.cells [Value.pointer (some ⟨b, 0, none⟩)].toArray 25 (0, 0)) :: Blk b8 (.cells [Value.pointer (some ⟨b2, 0, none⟩)].toArray 25 (0, 0)) :: Blk b4 (.cells [Value.bool false].toArray 4 (0, 0)) :: Dfr r0 :: F) (fun k x => -1 ≤ x.1 ∧ x.1 < k ∧ 0 ≤ x.2.1 ∧ x.2.1 ≤ k ∧ x.2.2.length = n ∧ ∀ j : Nat, j < k → W.getD j 0 = x.2.2.getD j 0) (fun _ => W) (fun x => x.2.2) (fun _ => False) l0 bm bo b g c b2 g2 c2 n hn (fun k x _ => ⟨mem_rd (b := b) (g := g) (c := c) (W := W) (by first | exact mem_getO 0 rfl | exact mem_getO 1 rfl | exact mem_getO 2 rfl | exact mem_getO 3 rfl | exact mem_getO 4 rfl | exact mem_getO 5 rfl | exact mem_getO 6 rfl | exact mem_getO 7 rfl) (by first | exact mem_getO 0 rfl | exact mem_getO 1 rfl | exact mem_getO 2 rfl | exact mem_getO 3 rfl | exact mem_getO 4 rfl | exact mem_getO 5 rfl | exact mem_getO 6 rfl | exact mem_getO 7 rfl), hW⟩) (fun k x hx => ⟨mem_rd (b := b2) (g := g2) (c := c2) (W := x.2.2) (by first | exact mem_getO 0 rfl | exact mem_getO 1 rfl | exact mem_getO 2 rfl | exact mem_getO 3 rfl | exact mem_getO 4 rfl | exact mem_getO 5 rfl | exact mem_getO 6 rfl | exact mem_getO 7 rfl) (by first | exact mem_getO 0 rfl | exact mem_getO 1 rfl | exact mem_getO 2 rfl | exact mem_getO 3 rfl | exact mem_getO 4 rfl | exact mem_getO 5 rfl | exact mem_getO 6 rfl | exact mem_getO 7 rfl), hx.2.2.2.2.1⟩) (fun k x _ => ⟨(fun w hw => by have h := hw.ok (Blk bm (.cells [Value.pointer (some ⟨b, 0, none⟩)].toArray 25 (0, 0))) (by first | exact mem_getO 0 rfl | exact mem_getO 1 rfl | exact mem_getO 2 rfl | exact mem_getO 3 rfl | exact mem_getO 4 rfl | exact mem_getO 5 rfl | exact mem_getO 6 rfl | exact mem_getO 7 rfl | exact mem_getO 8 rfl | exact mem_getO 9 rfl | exact mem_getO 10 rfl | exact mem_getO 11 rfl); exact cell_of_has (c := [Value.pointer (some ⟨b, 0, none⟩)]) (b := bm) (o := 0) h rfl), (fun w hw => by have h := hw.ok (Blk bo (.cells [Value.pointer (some ⟨b2, 0, none⟩)].toArray 25 (0, 0))) (by first | exact mem_getO 0 rfl | exact mem_getO 1 rfl | exact mem_getO 2 rfl | exact mem_getO 3 rfl | exact mem_getO 4 rfl | exact mem_getO 5 rfl | exact mem_getO 6 rfl | exact mem_getO 7 rfl | exact mem_getO 8 rfl | exact mem_getO 9 rfl | exact mem_getO 10 rfl | exact mem_getO 11 rfl); exact cell_of_has (c := [Value.pointer (some ⟨b2, 0, none⟩)]) (b := bo) (o := 0) h rfl)⟩) (fun k x k0 k1 hI he => ⟨hI.1, by have := hI.2.1; omega, hI.2.2.1, by have := hI.2.2.2.1; omega, hI.2.2.2.2.1, fun j hj => by rcases (show (j : Int) < k ∨ j = k.toNat by omega) with h | rfl; (exact hI.2.2.2.2.2 j h); exact he⟩) (fun k x k0 k1 hI hne => ?_) (-1, 0, W2) ⟨by simp only; omega, by simp only; omega, by simp only; omega, by simp only; omega, hW2, fun j hj => by omega⟩) (fun en F2 hG => ?_)) (fun w hw => SPI.holds hw)
    · obtain ⟨la, cn, X⟩ := x
      obtain ⟨la0, la1, cn0, cn1, hX, hE⟩ := hI
      simp only at la0 la1 cn0 cn1 hX hE hne
      dsimp only
      refine c_roundR hRC0 rfl rfl ?_
      dsimp only [putL]
      refine g_region ?_
      refine l_assign rfl rfl ?_
      refine l_nil ?_
      refine g_beginR hRC0 ?_
      refine g_block ?_
      refine g_seq ?_
      refine g_region ?_
      refine l_ld rfl Try.isAgg25 rfl rfl ?_
      refine l_move rfl rfl ?_
      refine l_fronto g ?_
      refine l_frontb b ?_
      refine l_call rfl Try.call12 rfl (read_ok _ _ b g n c W hW hc hn k (by omega) (by unfold inR; omega)) ?_; rintro _ _ ⟨rfl, rfl⟩
      refine l_move rfl rfl ?_
      refine l_extract rfl rfl rfl ?_
      refine l_extract rfl rfl rfl ?_
      refine l_assign rfl rfl ?_
      refine l_assign rfl rfl ?_
      refine l_nil ?_
      refine g_seq ?_
      refine g_region ?_
      refine l_ld rfl Try.isAgg25 rfl rfl ?_
      refine l_move rfl rfl ?_
      refine l_fronto g2 ?_
      refine l_frontb b2 ?_
      refine l_call rfl Try.call12 rfl (read_ok _ _ b2 g2 n c2 X hX hc2 hn k (by omega) (by unfold inR; omega)) ?_; rintro _ _ ⟨rfl, rfl⟩
      refine l_move rfl rfl ?_
      refine l_extract rfl rfl rfl ?_
      refine l_extract rfl rfl rfl ?_
      refine l_assign rfl rfl ?_
      refine l_assign rfl rfl ?_
      refine l_nil ?_
      refine g_seq ?_
      refine g_seq ?_
      refine g_region ?_
      refine l_move rfl rfl ?_
      first | refine l_ld rfl Try.isAgg3 rfl rfl ?_ | refine l_ldw rfl Try.isAgg3 rfl (by omega) ?_
      refine l_leq rfl rfl rfl ?_
      refine l_move rfl rfl ?_
      refine l_split 124 rfl ?_ ?_
      · intro hbr
        have hbr := of_decide_eq_true hbr
        (exfalso; first | omega | (simp at hbr; done))
      intro hbr
      have hbr := of_decide_eq_false hbr
      refine l_guard_yes rfl rfl ?_
      refine l_move rfl rfl ?_
      refine l_guard_yes rfl rfl ?_
      refine l_neq rfl rfl rfl ?_
      refine l_pick_f rfl rfl rfl ?_
      refine l_move rfl rfl ?_
      refine l_split 128 rfl ?_ ?_
      · intro hbr
        have hbr := of_decide_eq_true hbr
        (exfalso; first | omega | (simp at hbr; done))
      intro hbr
      have hbr := of_decide_eq_false hbr
      refine l_guard_yes rfl rfl ?_
      refine l_move rfl rfl ?_
      refine l_guard_yes rfl rfl ?_
      refine l_neq rfl rfl rfl ?_
      refine l_pick_f rfl rfl rfl ?_
      refine l_move rfl rfl ?_
      refine l_split 132 rfl ?_ ?_
      · intro hbr
        have hbr := of_decide_eq_true hbr
        (exfalso; first | omega | (simp at hbr; done))
      intro hbr
      have hbr := of_decide_eq_false hbr
      refine l_guard_yes rfl rfl ?_
      refine l_move rfl rfl ?_
      refine l_guard_yes rfl rfl ?_
      refine l_move rfl rfl ?_
      refine l_guard_yes rfl rfl ?_
      refine l_eql rfl rfl rfl ?_
      refine l_pick_f rfl rfl rfl ?_
      refine l_nil ?_
      refine g_cond rfl ?_ ?_
      · intro hbr
        have hbr := of_decide_eq_true hbr
        (exfalso; first | omega | (simp at hbr; done))
      intro hbr
      have hbr := of_decide_eq_false hbr
      refine g_skip ?_
      refine g_seq ?_
      refine g_region ?_
      refine l_move rfl rfl ?_
      first | refine l_st Try.sizeOf3 rfl rfl rfl rfl ?_ | refine l_stw Try.sizeOf3 rfl rfl (by omega) ?_
      refine l_nil ?_
      refine g_seq ?_
      refine g_region ?_
      first | refine l_ld rfl Try.isAgg3 rfl rfl ?_ | refine l_ldw rfl Try.isAgg3 rfl (by omega) ?_
      first | refine l_add rfl rfl rfl (w_i64 (by omega) (by omega)) ?_ | refine l_addw rfl rfl rfl ?_
      first | refine l_st Try.sizeOf3 rfl rfl rfl rfl ?_ | refine l_stw Try.sizeOf3 rfl rfl (by omega) ?_
      refine l_nil ?_
      refine g_region ?_
      refine l_ld rfl Try.isAgg25 rfl rfl ?_
      refine l_move rfl rfl ?_
      refine l_move rfl rfl ?_
      refine l_fronto g2 ?_
      refine l_frontb b2 ?_
      refine l_call rfl Try.call10 rfl (write_ok _ _ b2 g2 n c2 X hX hc2 hn k (W.getD k.toNat 0) (by omega) (by unfold inR; omega)) ?_; rintro _ _ ⟨rfl, rfl⟩
      refine l_nil ?_
      refine g_inBlock ?_
      refine g_roundE (p := none) (F := Blk b (.cells [.slice (some ⟨g, 0, none⟩) n c].toArray 77 (0, 0)) :: Own 30 1 (.slice (some ⟨g, 0, none⟩) n c) n (ints .u32 W) :: Blk b2 (.cells [.slice (some ⟨g2, 0, none⟩) n c2].toArray 77 (0, 0)) :: Own 30 1 (.slice (some ⟨g2, 0, none⟩) n c2) n (ints .u32 (X.set k.toNat (W.getD k.toNat 0))) :: Blk b13 (.cells [Value.int .i64 k].toArray 3 (0, 0)) :: Blk b14 (.cells [Value.int .i64 (cn + 1)].toArray 3 (0, 0)) :: Blk bm (.cells [Value.pointer (some ⟨b, 0, none⟩)].toArray 25 (0, 0)) :: Blk bo (.cells [Value.pointer (some ⟨b2, 0, none⟩)].toArray 25 (0, 0)) :: Blk bm2 (.cells [Value.pointer (some ⟨b2, 0, none⟩)].toArray 25 (0, 0)) :: Blk bo2 (.cells [Value.pointer (some ⟨b, 0, none⟩)].toArray 25 (0, 0)) :: Blk b6 (.cells [Value.pointer (some ⟨b, 0, none⟩)].toArray 25 (0, 0)) :: Blk b8 (.cells [Value.pointer (some ⟨b2, 0, none⟩)].toArray 25 (0, 0)) :: Blk b4 (.cells [Value.bool false].toArray 4 (0, 0)) :: Dfr r0 :: F) hRC0 (fun w hw => SPI.holds hw) ?_
      exact ⟨_, rfl, true, rfl, fun _ => ⟨(k, cn + 1, X.set k.toNat (W.getD k.toNat 0)), ⟨by simp only; omega, by simp only; omega, by simp only; omega, by simp only; omega, by simp only; rw [List.length_set]; exact hX, fun j hj => by simp only; rw [dif_set_getD (by omega)]; split; (rename_i h9; rw [h9]); exact hE j (by omega)⟩, fun w hw => hw⟩, fun h => (by cases h)⟩
    obtain ⟨v9, F9, rfl, hR9, hF9⟩ := hG
    refine ⟨⟨_, rfl⟩, ?_⟩
    obtain ⟨⟨la, cn, X⟩, ⟨_, _, cn0, cn1, hX, hE⟩, rfl⟩ := hR9.resolve_right (fun h => h)
    simp only at cn0 cn1 hX hE
    obtain rfl : W = X := dif_ext hW hX fun j hj => hE j (by omega)
    refine ⟨.ready, none, Blk b (.cells [.slice (some ⟨g, 0, none⟩) n c].toArray 77 (0, 0)) :: Own 30 1 (.slice (some ⟨g, 0, none⟩) n c) n (ints .u32 W) :: Blk b2 (.cells [.slice (some ⟨g2, 0, none⟩) n c2].toArray 77 (0, 0)) :: Own 30 1 (.slice (some ⟨g2, 0, none⟩) n c2) n (ints .u32 W) :: Blk b14 (.cells [Value.int .i64 cn].toArray 3 (0, 0)) :: Blk bm2 (.cells [Value.pointer (some ⟨b2, 0, none⟩)].toArray 25 (0, 0)) :: Blk bo2 (.cells [Value.pointer (some ⟨b, 0, none⟩)].toArray 25 (0, 0)) :: Blk b6 (.cells [Value.pointer (some ⟨b, 0, none⟩)].toArray 25 (0, 0)) :: Blk b8 (.cells [Value.pointer (some ⟨b2, 0, none⟩)].toArray 25 (0, 0)) :: Blk b4 (.cells [Value.bool false].toArray 4 (0, 0)) :: Dfr r0 :: F, (by intro h; cases h), fun w hw => SPI.holds (hF9 w hw), ?_⟩
    dsimp only [jumpK]
    refine g_inBlock ?_
    refine g_seq ?_
    refine g_seq ?_
    refine g_region ?_
    refine l_move rfl rfl ?_
    refine l_nil ?_
    refine g_block ?_
    refine g_rangeR rfl Try.call30 rfl ?_
    rintro r1 l1 RC1 hRC1
    refine CallK.heap (F2 := RC1 .ready none :: Blk b (.cells [.slice (some ⟨g, 0, none⟩) n c].toArray 77 (0, 0)) :: Own 30 1 (.slice (some ⟨g, 0, none⟩) n c) n (ints .u32 W) :: Blk b2 (.cells [.slice (some ⟨g2, 0, none⟩) n c2].toArray 77 (0, 0)) :: Own 30 1 (.slice (some ⟨g2, 0, none⟩) n c2) n (ints .u32 W) :: Blk b14 (.cells [Value.int .i64 cn].toArray 3 (0, 0)) :: Blk bm2 (.cells [Value.pointer (some ⟨b2, 0, none⟩)].toArray 25 (0, 0)) :: Blk bo2 (.cells [Value.pointer (some ⟨b, 0, none⟩)].toArray 25 (0, 0)) :: Blk b6 (.cells [Value.pointer (some ⟨b, 0, none⟩)].toArray 25 (0, 0)) :: Blk b8 (.cells [Value.pointer (some ⟨b2, 0, none⟩)].toArray 25 (0, 0)) :: Blk b4 (.cells [Value.bool false].toArray 4 (0, 0)) :: Dfr r1 :: Dfr r0 :: F) (CallK.mono (seq_r w0 [] (fun _ : Unit => RC1 .ready none :: Blk b (.cells [.slice (some ⟨g, 0, none⟩) n c].toArray 77 (0, 0)) :: Own 30 1 (.slice (some ⟨g, 0, none⟩) n c) n (ints .u32 W) :: Blk b2 (.cells [.slice (some ⟨g2, 0, none⟩) n c2].toArray 77 (0, 0)) :: Own 30 1 (.slice (some ⟨g2, 0, none⟩) n c2) n (ints .u32 W) :: Blk b14 (.cells [Value.int .i64 cn].toArray 3 (0, 0)) :: Blk bm2 (.cells [Value.pointer (some ⟨b2, 0, none⟩)].toArray 25 (0, 0)) :: Blk bo2 (.cells [Value.pointer (some ⟨b, 0, none⟩)].toArray 25 (0, 0)) :: Blk b6 (.cells [Value.pointer (some ⟨b, 0, none⟩)].toArray 25 (0, 0)) :: Blk b8 (.cells [Value.pointer (some ⟨b2, 0, none⟩)].toArray 25 (0, 0)) :: Blk b4 (.cells [Value.bool false].toArray 4 (0, 0)) :: Dfr r1 :: Dfr r0 :: F) (fun _ _ => True) (fun _ => W) (fun _ => W) (fun _ => False) l1 bm2 bo2 b2 g2 c2 b g c n hn (fun k x _ => ⟨mem_rd (b := b2) (g := g2) (c := c2) (W := W) (by first | exact mem_getO 0 rfl | exact mem_getO 1 rfl | exact mem_getO 2 rfl | exact mem_getO 3 rfl | exact mem_getO 4 rfl | exact mem_getO 5 rfl | exact mem_getO 6 rfl | exact mem_getO 7 rfl) (by first | exact mem_getO 0 rfl | exact mem_getO 1 rfl | exact mem_getO 2 rfl | exact mem_getO 3 rfl | exact mem_getO 4 rfl | exact mem_getO 5 rfl | exact mem_getO 6 rfl | exact mem_getO 7 rfl), hW⟩) (fun k x hx => ⟨mem_rd (b := b) (g := g) (c := c) (W := W) (by first | exact mem_getO 0 rfl | exact mem_getO 1 rfl | exact mem_getO 2 rfl | exact mem_getO 3 rfl | exact mem_getO 4 rfl | exact mem_getO 5 rfl | exact mem_getO 6 rfl | exact mem_getO 7 rfl) (by first | exact mem_getO 0 rfl | exact mem_getO 1 rfl | exact mem_getO 2 rfl | exact mem_getO 3 rfl | exact mem_getO 4 rfl | exact mem_getO 5 rfl | exact mem_getO 6 rfl | exact mem_getO 7 rfl), hW⟩) (fun k x _ => ⟨(fun w hw => by have h := hw.ok (Blk bm2 (.cells [Value.pointer (some ⟨b2, 0, none⟩)].toArray 25 (0, 0))) (by first | exact mem_getO 0 rfl | exact mem_getO 1 rfl | exact mem_getO 2 rfl | exact mem_getO 3 rfl | exact mem_getO 4 rfl | exact mem_getO 5 rfl | exact mem_getO 6 rfl | exact mem_getO 7 rfl | exact mem_getO 8 rfl | exact mem_getO 9 rfl | exact mem_getO 10 rfl | exact mem_getO 11 rfl); exact cell_of_has (c := [Value.pointer (some ⟨b2, 0, none⟩)]) (b := bm2) (o := 0) h rfl), (fun w hw => by have h := hw.ok (Blk bo2 (.cells [Value.pointer (some ⟨b, 0, none⟩)].toArray 25 (0, 0))) (by first | exact mem_getO 0 rfl | exact mem_getO 1 rfl | exact mem_getO 2 rfl | exact mem_getO 3 rfl | exact mem_getO 4 rfl | exact mem_getO 5 rfl | exact mem_getO 6 rfl | exact mem_getO 7 rfl | exact mem_getO 8 rfl | exact mem_getO 9 rfl | exact mem_getO 10 rfl | exact mem_getO 11 rfl); exact cell_of_has (c := [Value.pointer (some ⟨b, 0, none⟩)]) (b := bo2) (o := 0) h rfl)⟩) (fun _ _ _ _ _ _ => trivial) (fun k x k0 k1 hI hne => absurd rfl hne) () trivial) (fun en F2 hG => ?_)) (fun w hw => SPI.holds hw)
    obtain ⟨v9, F9, rfl, hR9, hF9⟩ := hG
    refine ⟨⟨_, rfl⟩, ?_⟩
    obtain ⟨_, _, rfl⟩ := hR9.resolve_right (fun h => h)
    refine ⟨.ready, none, Blk b (.cells [.slice (some ⟨g, 0, none⟩) n c].toArray 77 (0, 0)) :: Own 30 1 (.slice (some ⟨g, 0, none⟩) n c) n (ints .u32 W) :: Blk b2 (.cells [.slice (some ⟨g2, 0, none⟩) n c2].toArray 77 (0, 0)) :: Own 30 1 (.slice (some ⟨g2, 0, none⟩) n c2) n (ints .u32 W) :: Blk b14 (.cells [Value.int .i64 cn].toArray 3 (0, 0)) :: Blk bm2 (.cells [Value.pointer (some ⟨b2, 0, none⟩)].toArray 25 (0, 0)) :: Blk bo2 (.cells [Value.pointer (some ⟨b, 0, none⟩)].toArray 25 (0, 0)) :: Blk b6 (.cells [Value.pointer (some ⟨b, 0, none⟩)].toArray 25 (0, 0)) :: Blk b8 (.cells [Value.pointer (some ⟨b2, 0, none⟩)].toArray 25 (0, 0)) :: Blk b4 (.cells [Value.bool false].toArray 4 (0, 0)) :: Dfr r1 :: Dfr r0 :: F, (by intro h; cases h), fun w hw => SPI.holds (hF9 w hw), ?_⟩
    dsimp only [jumpK]
    refine g_inBlock ?_
    refine g_seq ?_
    refine gp_start mo (by kernel_rfl) (by kernel_rfl) ?_
    refine gp_quiet 0 rfl rfl rfl rfl rfl rfl (q_ld Try.isAgg25 rfl rfl) ?_
    refine gp_quiet 1 rfl rfl rfl rfl rfl rfl (q_move rfl) ?_
    refine gp_quiet 2 rfl rfl rfl rfl rfl rfl (q_len Try.underlying23 rfl) ?_
    refine gp_quiet 3 rfl rfl rfl rfl rfl rfl (q_move rfl) ?_
    refine gp_effa 4 [2, 3] [1, 0] rfl rfl rfl rfl rfl rfl rfl (does_call Try.call8 rfl (pick_ok _ _ (n1 : Int) (n : Int) (by omega) (by omega) (by omega) (by omega))) ?_
    rintro _ F9 ⟨rfl, hF9⟩; rw [hF9]; clear hF9 F9
    refine ⟨?_, ?_⟩
    · refine .cons rfl rfl rfl rfl rfl (q_move rfl) ?_
      refine .cons rfl rfl rfl rfl rfl (q_ld Try.isAgg25 rfl rfl) ?_
      exact .nil
    refine gp_fronto g ?_
    refine gp_frontb b ?_
    refine gp_effa 5 [0] [1] rfl rfl rfl rfl rfl rfl rfl (does_call Try.call10 rfl (write_ok _ _ b g n c W hW hc hn (pk n1 n) 5 (by omega) (by unfold inR; omega))) ?_
    rintro _ _ ⟨rfl, rfl⟩
    refine ⟨?_, ?_⟩
    · refine .cons rfl rfl rfl rfl rfl (q_move rfl) ?_
      exact .nil
    refine gp_end rfl rfl ?_
    refine g_seq ?_
    refine gp_start mo (by kernel_rfl) (by kernel_rfl) ?_
    refine gp_quiet 0 rfl rfl rfl rfl rfl rfl (q_ld Try.isAgg25 rfl rfl) ?_
    refine gp_quiet 1 rfl rfl rfl rfl rfl rfl (q_move rfl) ?_
    refine gp_quiet 2 rfl rfl rfl rfl rfl rfl (q_len Try.underlying23 rfl) ?_
    refine gp_quiet 3 rfl rfl rfl rfl rfl rfl (q_move rfl) ?_
    refine gp_effa 4 [2, 3] [1, 0] rfl rfl rfl rfl rfl rfl rfl (does_call Try.call8 rfl (pick_ok _ _ (n1 : Int) (n : Int) (by omega) (by omega) (by omega) (by omega))) ?_
    rintro _ F9 ⟨rfl, hF9⟩; rw [hF9]; clear hF9 F9
    refine ⟨?_, ?_⟩
    · refine .cons rfl rfl rfl rfl rfl (q_move rfl) ?_
      refine .cons rfl rfl rfl rfl rfl (q_ld Try.isAgg25 rfl rfl) ?_
      exact .nil
    refine gp_fronto g2 ?_
    refine gp_frontb b2 ?_
    refine gp_effa 5 [0] [1] rfl rfl rfl rfl rfl rfl rfl (does_call Try.call10 rfl (write_ok _ _ b2 g2 n c2 W hW hc2 hn (pk n1 n) 6 (by omega) (by unfold inR; omega))) ?_
    rintro _ _ ⟨rfl, rfl⟩
    refine ⟨?_, ?_⟩
    · refine .cons rfl rfl rfl rfl rfl (q_move rfl) ?_
      exact .nil
    refine gp_end rfl rfl ?_
    refine g_seq ?_
    refine g_region ?_
    refine l_ld rfl Try.isAgg25 rfl rfl ?_
    refine l_ld rfl Try.isAgg25 rfl rfl ?_
    refine l_call rfl Try.call11 rfl (differ_c _ _ _ _) ?_; rintro _ _ ⟨bm3, bo3, rfl, rfl⟩
    refine l_move rfl rfl ?_
    first | refine l_add rfl rfl rfl (w_i64 (by omega) (by omega)) ?_ | refine l_addw rfl rfl rfl ?_
    refine l_call rfl Try.call13 rfl (along_ok _ _ b g c b2 g2 c2 n (W.set (pk n1 n).toNat 5) (W.set (pk n1 n).toNat 6) (mem_rd (b := b) (g := g) (c := c) (W := (W.set (pk n1 n).toNat 5)) (by first | exact mem_getO 0 rfl | exact mem_getO 1 rfl | exact mem_getO 2 rfl | exact mem_getO 3 rfl | exact mem_getO 4 rfl | exact mem_getO 5 rfl | exact mem_getO 6 rfl | exact mem_getO 7 rfl) (by first | exact mem_getO 0 rfl | exact mem_getO 1 rfl | exact mem_getO 2 rfl | exact mem_getO 3 rfl | exact mem_getO 4 rfl | exact mem_getO 5 rfl | exact mem_getO 6 rfl | exact mem_getO 7 rfl)) (by rw [List.length_set]; exact hW) (mem_rd (b := b2) (g := g2) (c := c2) (W := (W.set (pk n1 n).toNat 6)) (by first | exact mem_getO 0 rfl | exact mem_getO 1 rfl | exact mem_getO 2 rfl | exact mem_getO 3 rfl | exact mem_getO 4 rfl | exact mem_getO 5 rfl | exact mem_getO 6 rfl | exact mem_getO 7 rfl) (by first | exact mem_getO 0 rfl | exact mem_getO 1 rfl | exact mem_getO 2 rfl | exact mem_getO 3 rfl | exact mem_getO 4 rfl | exact mem_getO 5 rfl | exact mem_getO 6 rfl | exact mem_getO 7 rfl)) (by rw [List.length_set]; exact hW) hn bm3 bo3 (fun w hw => by have h := hw.ok (Blk bm3 (.cells [Value.pointer (some ⟨b, 0, none⟩)].toArray 25 (0, 0))) (by first | exact mem_getO 0 rfl | exact mem_getO 1 rfl | exact mem_getO 2 rfl | exact mem_getO 3 rfl | exact mem_getO 4 rfl | exact mem_getO 5 rfl | exact mem_getO 6 rfl | exact mem_getO 7 rfl | exact mem_getO 8 rfl | exact mem_getO 9 rfl | exact mem_getO 10 rfl | exact mem_getO 11 rfl); exact cell_of_has (c := [Value.pointer (some ⟨b, 0, none⟩)]) (b := bm3) (o := 0) h rfl) (fun w hw => by have h := hw.ok (Blk bo3 (.cells [Value.pointer (some ⟨b2, 0, none⟩)].toArray 25 (0, 0))) (by first | exact mem_getO 0 rfl | exact mem_getO 1 rfl | exact mem_getO 2 rfl | exact mem_getO 3 rfl | exact mem_getO 4 rfl | exact mem_getO 5 rfl | exact mem_getO 6 rfl | exact mem_getO 7 rfl | exact mem_getO 8 rfl | exact mem_getO 9 rfl | exact mem_getO 10 rfl | exact mem_getO 11 rfl); exact cell_of_has (c := [Value.pointer (some ⟨b2, 0, none⟩)]) (b := bo3) (o := 0) h rfl) (n + 1) (by omega) (by omega)) ?_; rintro _ _ ⟨ar, cr, T, rfl, hT, rfl⟩
    rw [difs_one (by omega), if_pos (by omega), List.take_of_length_le (by simp only [List.length_singleton]; omega), Int.toNat_of_nonneg (by omega)] at hT
    subst hT
    refine l_fact (own_cases (mem_getO 0 rfl)) ?_
    rintro ⟨_, _, hv | ⟨gr, cr2, hv9, _⟩⟩
    · exact absurd hv.2 (by simp)
    obtain ⟨rfl, _, rfl⟩ := Value.slice.inj hv9
    refine l_assign rfl rfl ?_
    refine l_nil ?_
    refine g_seq ?_
    refine gp_start mo (by kernel_rfl) (by kernel_rfl) ?_
    refine gp_quiet 0 rfl rfl rfl rfl rfl rfl (q_move rfl) ?_
    refine gp_quiet 1 rfl rfl rfl rfl rfl rfl (q_len Try.underlying36 rfl) ?_
    refine gp_quiet 2 rfl rfl rfl rfl rfl rfl (q_eql rfl rfl) ?_
    refine gp_quiet 3 rfl rfl rfl rfl rfl rfl (q_move rfl) ?_
    refine gp_split 167 rfl ?_ ?_
    · intro hbr
      have hg167 := hbr
      have hbr := of_decide_eq_true hbr
      refine gp_quietg 4 rfl rfl rfl rfl rfl rfl (.yes rfl rfl (q_move rfl)) ?_
      refine gp_quietg 5 rfl rfl rfl rfl rfl rfl (.yes rfl rfl (q_ixs Try.underlying36 Try.sizeOf3 rfl rfl (by omega) (by simp only [List.length_singleton]; omega))) ?_
      refine gp_quietg 6 rfl rfl rfl rfl rfl rfl (.yes rfl rfl (q_loadc (v := .int .i64 (pk n1 n)) Try.isAgg3 rfl (own_cell (g := gr) (i := 0) rfl))) ?_
      refine gp_quietg 7 rfl rfl rfl rfl rfl rfl (.yes rfl rfl (q_move rfl)) ?_
      refine gp_quietg 8 rfl rfl rfl rfl rfl rfl (.yes rfl rfl (q_len Try.underlying23 rfl)) ?_
      refine gp_quietg 9 rfl rfl rfl rfl rfl rfl (.yes rfl rfl (q_move rfl)) ?_
      refine gp_effg 10 rfl rfl rfl rfl rfl rfl (.yes rfl rfl rfl) (Does.guard (does_call Try.call8 rfl (pick_ok _ _ (n1 : Int) (n : Int) (by omega) (by omega) (by omega) (by omega)))) ?_
      rintro _ F9 ⟨rfl, hF9⟩; rw [hF9]; clear hF9 F9
      refine ⟨?_, ?_⟩
      · refine .consG rfl rfl rfl rfl rfl (.yes rfl rfl (q_move rfl)) ?_
        refine .consG rfl rfl rfl rfl rfl (.yes rfl rfl (q_len Try.underlying23 rfl)) ?_
        refine .consG rfl rfl rfl rfl rfl (.yes rfl rfl (q_move rfl)) ?_
        refine .consG rfl rfl rfl rfl rfl (.yes rfl rfl (q_loadc (v := .int .i64 (pk n1 n)) Try.isAgg3 rfl (own_cell (g := gr) (i := 0) rfl))) ?_
        refine .consG rfl rfl rfl rfl rfl (.yes rfl rfl (q_ixs Try.underlying36 Try.sizeOf3 rfl rfl (by omega) (by simp only [List.length_singleton]; omega))) ?_
        refine .consG rfl rfl rfl rfl rfl (.yes rfl rfl (q_move rfl)) ?_
        refine .cons rfl rfl rfl rfl rfl (QV.as (q_move rfl) (congrArg Value.bool hg167)) ?_
        refine .cons rfl rfl rfl rfl rfl (q_eql rfl rfl) ?_
        refine .cons rfl rfl rfl rfl rfl (q_len Try.underlying36 rfl) ?_
        refine .cons rfl rfl rfl rfl rfl (q_move rfl) ?_
        exact .nil
      refine gp_quietg 11 rfl rfl rfl rfl rfl rfl (.yes rfl rfl (q_eql rfl rfl)) ?_
      refine gp_quiet 12 rfl rfl rfl rfl rfl rfl (q_pick_t rfl rfl) ?_
      refine gp_quiet 13 rfl rfl rfl rfl rfl rfl (q_move rfl) ?_
      refine gp_split 177 rfl ?_ ?_
      · intro hbr
        have hg177 := hbr
        have hbr := of_decide_eq_true hbr
        first | refine gp_quietg 14 rfl rfl rfl rfl rfl rfl (.yes rfl rfl (q_ld Try.isAgg3 rfl rfl)) ?_ | refine gp_quietg 14 rfl rfl rfl rfl rfl rfl (.yes rfl rfl (q_ldw Try.isAgg3 rfl (by omega))) ?_
        refine gp_quietg 15 rfl rfl rfl rfl rfl rfl (.yes rfl rfl (q_move rfl)) ?_
        refine gp_quietg 16 rfl rfl rfl rfl rfl rfl (.yes rfl rfl (q_leq rfl rfl)) ?_
        refine gp_quiet 17 rfl rfl rfl rfl rfl rfl (q_pick_t rfl rfl) ?_
        refine gp_effa 18 [0, 1, 2, 3, 4, 5, 6, 7, 8, 9, 11, 12, 13, 14, 15, 16, 17] [] rfl rfl rfl rfl rfl rfl rfl (does_st Try.sizeOf4 rfl rfl rfl rfl) ?_
        rintro _ _ ⟨rfl, rfl⟩
        refine ⟨?_, ?_⟩
        · exact .nil
        refine gp_end rfl rfl ?_
        refine g_heap (F' := Dfr r1 :: Dfr r0 :: Blk b4 (.cells [Value.bool (decide (cn ≤ (n : Int)))].toArray 4 (0, 0)) :: F) (fun w hw => SPI.holds hw) ?_
        refine g_ret_m (F := Blk b4 (.cells [Value.bool (decide (cn ≤ (n : Int)))].toArray 4 (0, 0)) :: F) [r1, r0] rfl Try.func4 (fun w hw => hw) rfl (.ci rfl Try.isAgg4 rfl .nil) ?_
        exact Gives.mki ⟨by rw [decide_eq_true (show cn ≤ (n : Int) by omega)]; rfl, rfl⟩
      · intro hbr
        have hbr := of_decide_eq_false hbr
        (exfalso; first | omega | (simp at hbr; done))
    · intro hbr
      have hbr := of_decide_eq_false hbr
      (exfalso; first | omega | (simp at hbr; done))
  intro hbr
  have hbr := of_decide_eq_false hbr
  refine l_guard_no rfl rfl rfl ?_
  refine l_guard_no rfl rfl rfl ?_
  refine l_guard_no rfl rfl rfl ?_
  refine l_pick_f rfl rfl rfl ?_
  refine l_nil ?_
  refine g_cond_f rfl ?_
  refine g_exit rfl ?_
  refine g_seq ?_
  refine g_region ?_
  refine l_alloc rfl Try.zeroValue3 rfl ?_; intro b13
  first | refine l_st Try.sizeOf3 rfl rfl rfl rfl ?_ | refine l_stw Try.sizeOf3 rfl rfl (by omega) ?_
  refine l_nil ?_
  refine g_seq ?_
  refine g_region ?_
  refine l_alloc rfl Try.zeroValue3 rfl ?_; intro b14
  first | refine l_st Try.sizeOf3 rfl rfl rfl rfl ?_ | refine l_stw Try.sizeOf3 rfl rfl (by omega) ?_
  refine l_nil ?_
  refine g_seq ?_
  refine g_region ?_
  refine l_ld rfl Try.isAgg25 rfl rfl ?_
  refine l_ld rfl Try.isAgg25 rfl rfl ?_
  refine l_call rfl Try.call11 rfl (differ_c _ _ _ _) ?_; rintro _ _ ⟨bm, bo, rfl, rfl⟩
  refine l_assign rfl rfl ?_
  refine l_nil ?_
  refine g_seq ?_
  refine g_region ?_
  refine l_ld rfl Try.isAgg25 rfl rfl ?_
  refine l_ld rfl Try.isAgg25 rfl rfl ?_
  refine l_call rfl Try.call11 rfl (differ_c _ _ _ _) ?_; rintro _ _ ⟨bm2, bo2, rfl, rfl⟩
  refine l_assign rfl rfl ?_
  refine l_nil ?_
  refine g_seq ?_
  refine g_seq ?_
  refine g_region ?_
  refine l_move rfl rfl ?_
  refine l_eqfn rfl Try.underlying32 rfl rfl ?_
  refine l_move rfl rfl ?_
  refine l_guard_yes rfl rfl ?_
  refine l_move rfl rfl ?_
  refine l_guard_yes rfl rfl ?_
  refine l_eqfn rfl Try.underlying32 rfl rfl ?_
  refine l_pick_f rfl rfl rfl ?_
  refine l_nil ?_
  refine g_cond_f rfl ?_
  refine g_skip ?_
  refine g_seq ?_
  refine g_seq ?_
  refine g_region ?_
  refine l_move rfl rfl ?_
  refine l_nil ?_
  refine g_block ?_
  refine g_rangeR rfl Try.call30 rfl ?_
  rintro r0 l0 RC0 hRC0
  refine CallK.heap (F2 := RC0 .ready none :: Blk b (.cells [.slice (some ⟨g, 0, none⟩) n c].toArray 77 (0, 0)) :: Own 30 1 (.slice (some ⟨g, 0, none⟩) n c) n (ints .u32 W) :: Blk b2 (.cells [.slice (some ⟨g2, 0, none⟩) n c2].toArray 77 (0, 0)) :: Own 30 1 (.slice (some ⟨g2, 0, none⟩) n c2) n (ints .u32 W2) :: Blk b13 (.cells [Value.int .i64 (-1)].toArray 3 (0, 0)) :: Blk b14 (.cells [Value.int .i64 0].toArray 3 (0, 0)) :: Blk bm (.cells [Value.pointer (some ⟨b, 0, none⟩)].toArray 25 (0, 0)) :: Blk bo (.cells [Value.pointer (some ⟨b2, 0, none⟩)].toArray 25 (0, 0)) :: Blk bm2 (.cells [Value.pointer (some ⟨b2, 0, none⟩)].toArray 25 (0, 0)) :: Blk bo2 (.cells [Value.pointer (some ⟨b, 0, none⟩)].toArray 25 (0, 0)) :: Blk b6 (.cells [Value.pointer (some ⟨b, 0, none⟩)].toArray 25 (0, 0)) :: Blk b8 (.cells [Value.pointer (some ⟨b2, 0, none⟩)].toArray 25 (0, 0)) :: Blk b4 (.cells [Value.bool false].toArray 4 (0, 0)) :: Dfr r0 :: F) (CallK.mono (seq_r w0 [] (fun x : Int × Int × List Int => RC0 .ready none :: Blk b (.cells [.slice (some ⟨g, 0, none⟩) n c].toArray 77 (0, 0)) :: Own 30 1 (.slice (some ⟨g, 0, none⟩) n c) n (ints .u32 W) :: Blk b2 (.cells [.slice (some ⟨g2, 0, none⟩) n c2].toArray 77 (0, 0)) :: Own 30 1 (.slice (some ⟨g2, 0, none⟩) n c2) n (ints .u32 x.2.2) :: Blk b13 (.cells [Value.int .i64 x.1].toArray 3 (0, 0)) :: Blk b14 (.cells [Value.int .i64 x.2.1].toArray 3 (0, 0)) :: Blk bm (.cells [Value.pointer (some ⟨b, 0, none⟩)].toArray 25 (0, 0)) :: Blk bo (.cells [Value.pointer (some ⟨b2, 0, none⟩)].toArray 25 (0, 0)) :: Blk bm2 (.cells [Value.pointer (some ⟨b2, 0, none⟩)].toArray 25 (0, 0)) :: Blk bo2 (.cells [Value.pointer (some ⟨b, 0, none⟩)].toArray 25 (0, 0)) :: Blk b6 (.cells [Value.pointer (some ⟨b, 0, none⟩)].toArray 25 (0, 0)) :: Blk b8 (.cells [Value.pointer (some ⟨b2, 0, none⟩)].toArray 25 (0, 0)) :: Blk b4 (.cells [Value.bool false].toArray 4 (0, 0)) :: Dfr r0 :: F) (fun k x => -1 ≤ x.1 ∧ x.1 < k ∧ 0 ≤ x.2.1 ∧ x.2.1 ≤ k ∧ x.2.2.length = n ∧ ∀ j : Nat, j < k → W.getD j 0 = x.2.2.getD j 0) (fun _ => W) (fun x => x.2.2) (fun _ => False) l0 bm bo b g c b2 g2 c2 n hn (fun k x _ => ⟨mem_rd (b := b) (g := g) (c := c) (W := W) (by first | exact mem_getO 0 rfl | exact mem_getO 1 rfl | exact mem_getO 2 rfl | exact mem_getO 3 rfl | exact mem_getO 4 rfl | exact mem_getO 5 rfl | exact mem_getO 6 rfl | exact mem_getO 7 rfl) (by first | exact mem_getO 0 rfl | exact mem_getO 1 rfl | exact mem_getO 2 rfl | exact mem_getO 3 rfl | exact mem_getO 4 rfl | exact mem_getO 5 rfl | exact mem_getO 6 rfl | exact mem_getO 7 rfl), hW⟩) (fun k x hx => ⟨mem_rd (b := b2) (g := g2) (c := c2) (W := x.2.2) (by first | exact mem_getO 0 rfl | exact mem_getO 1 rfl | exact mem_getO 2 rfl | exact mem_getO 3 rfl | exact mem_getO 4 rfl | exact mem_getO 5 rfl | exact mem_getO 6 rfl | exact mem_getO 7 rfl) (by first | exact mem_getO 0 rfl | exact mem_getO 1 rfl | exact mem_getO 2 rfl | exact mem_getO 3 rfl | exact mem_getO 4 rfl | exact mem_getO 5 rfl | exact mem_getO 6 rfl | exact mem_getO 7 rfl), hx.2.2.2.2.1⟩) (fun k x _ => ⟨(fun w hw => by have h := hw.ok (Blk bm (.cells [Value.pointer (some ⟨b, 0, none⟩)].toArray 25 (0, 0))) (by first | exact mem_getO 0 rfl | exact mem_getO 1 rfl | exact mem_getO 2 rfl | exact mem_getO 3 rfl | exact mem_getO 4 rfl | exact mem_getO 5 rfl | exact mem_getO 6 rfl | exact mem_getO 7 rfl | exact mem_getO 8 rfl | exact mem_getO 9 rfl | exact mem_getO 10 rfl | exact mem_getO 11 rfl); exact cell_of_has (c := [Value.pointer (some ⟨b, 0, none⟩)]) (b := bm) (o := 0) h rfl), (fun w hw => by have h := hw.ok (Blk bo (.cells [Value.pointer (some ⟨b2, 0, none⟩)].toArray 25 (0, 0))) (by first | exact mem_getO 0 rfl | exact mem_getO 1 rfl | exact mem_getO 2 rfl | exact mem_getO 3 rfl | exact mem_getO 4 rfl | exact mem_getO 5 rfl | exact mem_getO 6 rfl | exact mem_getO 7 rfl | exact mem_getO 8 rfl | exact mem_getO 9 rfl | exact mem_getO 10 rfl | exact mem_getO 11 rfl); exact cell_of_has (c := [Value.pointer (some ⟨b2, 0, none⟩)]) (b := bo) (o := 0) h rfl)⟩) (fun k x k0 k1 hI he => ⟨hI.1, by have := hI.2.1; omega, hI.2.2.1, by have := hI.2.2.2.1; omega, hI.2.2.2.2.1, fun j hj => by rcases (show (j : Int) < k ∨ j = k.toNat by omega) with h | rfl; (exact hI.2.2.2.2.2 j h); exact he⟩) (fun k x k0 k1 hI hne => ?_) (-1, 0, W2) ⟨by simp only; omega, by simp only; omega, by simp only; omega, by simp only; omega, hW2, fun j hj => by omega⟩) (fun en F2 hG => ?_)) (fun w hw => SPI.holds hw)
  · obtain ⟨la, cn, X⟩ := x
    obtain ⟨la0, la1, cn0, cn1, hX, hE⟩ := hI
    simp only at la0 la1 cn0 cn1 hX hE hne
    dsimp only
    refine c_roundR hRC0 rfl rfl ?_
    dsimp only [putL]
    refine g_region ?_
    refine l_assign rfl rfl ?_
    refine l_nil ?_
    refine g_beginR hRC0 ?_
    refine g_block ?_
    refine g_seq ?_
    refine g_region ?_
    refine l_ld rfl Try.isAgg25 rfl rfl ?_
    refine l_move rfl rfl ?_
    refine l_fronto g ?_
    refine l_frontb b ?_
    refine l_call rfl Try.call12 rfl (read_ok _ _ b g n c W hW hc hn k (by omega) (by unfold inR; omega)) ?_; rintro _ _ ⟨rfl, rfl⟩
    refine l_move rfl rfl ?_
    refine l_extract rfl rfl rfl ?_
    refine l_extract rfl rfl rfl ?_
    refine l_assign rfl rfl ?_
    refine l_assign rfl rfl ?_
    refine l_nil ?_
    refine g_seq ?_
    refine g_region ?_
    refine l_ld rfl Try.isAgg25 rfl rfl ?_
    refine l_move rfl rfl ?_
    refine l_fronto g2 ?_
    refine l_frontb b2 ?_
    refine l_call rfl Try.call12 rfl (read_ok _ _ b2 g2 n c2 X hX hc2 hn k (by omega) (by unfold inR; omega)) ?_; rintro _ _ ⟨rfl, rfl⟩
    refine l_move rfl rfl ?_
    refine l_extract rfl rfl rfl ?_
    refine l_extract rfl rfl rfl ?_
    refine l_assign rfl rfl ?_
    refine l_assign rfl rfl ?_
    refine l_nil ?_
    refine g_seq ?_
    refine g_seq ?_
    refine g_region ?_
    refine l_move rfl rfl ?_
    first | refine l_ld rfl Try.isAgg3 rfl rfl ?_ | refine l_ldw rfl Try.isAgg3 rfl (by omega) ?_
    refine l_leq rfl rfl rfl ?_
    refine l_move rfl rfl ?_
    refine l_split 124 rfl ?_ ?_
    · intro hbr
      have hbr := of_decide_eq_true hbr
      (exfalso; first | omega | (simp at hbr; done))
    intro hbr
    have hbr := of_decide_eq_false hbr
    refine l_guard_yes rfl rfl ?_
    refine l_move rfl rfl ?_
    refine l_guard_yes rfl rfl ?_
    refine l_neq rfl rfl rfl ?_
    refine l_pick_f rfl rfl rfl ?_
    refine l_move rfl rfl ?_
    refine l_split 128 rfl ?_ ?_
    · intro hbr
      have hbr := of_decide_eq_true hbr
      (exfalso; first | omega | (simp at hbr; done))
    intro hbr
    have hbr := of_decide_eq_false hbr
    refine l_guard_yes rfl rfl ?_
    refine l_move rfl rfl ?_
    refine l_guard_yes rfl rfl ?_
    refine l_neq rfl rfl rfl ?_
    refine l_pick_f rfl rfl rfl ?_
    refine l_move rfl rfl ?_
    refine l_split 132 rfl ?_ ?_
    · intro hbr
      have hbr := of_decide_eq_true hbr
      (exfalso; first | omega | (simp at hbr; done))
    intro hbr
    have hbr := of_decide_eq_false hbr
    refine l_guard_yes rfl rfl ?_
    refine l_move rfl rfl ?_
    refine l_guard_yes rfl rfl ?_
    refine l_move rfl rfl ?_
    refine l_guard_yes rfl rfl ?_
    refine l_eql rfl rfl rfl ?_
    refine l_pick_f rfl rfl rfl ?_
    refine l_nil ?_
    refine g_cond rfl ?_ ?_
    · intro hbr
      have hbr := of_decide_eq_true hbr
      (exfalso; first | omega | (simp at hbr; done))
    intro hbr
    have hbr := of_decide_eq_false hbr
    refine g_skip ?_
    refine g_seq ?_
    refine g_region ?_
    refine l_move rfl rfl ?_
    first | refine l_st Try.sizeOf3 rfl rfl rfl rfl ?_ | refine l_stw Try.sizeOf3 rfl rfl (by omega) ?_
    refine l_nil ?_
    refine g_seq ?_
    refine g_region ?_
    first | refine l_ld rfl Try.isAgg3 rfl rfl ?_ | refine l_ldw rfl Try.isAgg3 rfl (by omega) ?_
    first | refine l_add rfl rfl rfl (w_i64 (by omega) (by omega)) ?_ | refine l_addw rfl rfl rfl ?_
    first | refine l_st Try.sizeOf3 rfl rfl rfl rfl ?_ | refine l_stw Try.sizeOf3 rfl rfl (by omega) ?_
    refine l_nil ?_
    refine g_region ?_
    refine l_ld rfl Try.isAgg25 rfl rfl ?_
    refine l_move rfl rfl ?_
    refine l_move rfl rfl ?_
    refine l_fronto g2 ?_
    refine l_frontb b2 ?_
    refine l_call rfl Try.call10 rfl (write_ok _ _ b2 g2 n c2 X hX hc2 hn k (W.getD k.toNat 0) (by omega) (by unfold inR; omega)) ?_; rintro _ _ ⟨rfl, rfl⟩
    refine l_nil ?_
    refine g_inBlock ?_
    refine g_roundE (p := none) (F := Blk b (.cells [.slice (some ⟨g, 0, none⟩) n c].toArray 77 (0, 0)) :: Own 30 1 (.slice (some ⟨g, 0, none⟩) n c) n (ints .u32 W) :: Blk b2 (.cells [.slice (some ⟨g2, 0, none⟩) n c2].toArray 77 (0, 0)) :: Own 30 1 (.slice (some ⟨g2, 0, none⟩) n c2) n (ints .u32 (X.set k.toNat (W.getD k.toNat 0))) :: Blk b13 (.cells [Value.int .i64 k].toArray 3 (0, 0)) :: Blk b14 (.cells [Value.int .i64 (cn + 1)].toArray 3 (0, 0)) :: Blk bm (.cells [Value.pointer (some ⟨b, 0, none⟩)].toArray 25 (0, 0)) :: Blk bo (.cells [Value.pointer (some ⟨b2, 0, none⟩)].toArray 25 (0, 0)) :: Blk bm2 (.cells [Value.pointer (some ⟨b2, 0, none⟩)].toArray 25 (0, 0)) :: Blk bo2 (.cells [Value.pointer (some ⟨b, 0, none⟩)].toArray 25 (0, 0)) :: Blk b6 (.cells [Value.pointer (some ⟨b, 0, none⟩)].toArray 25 (0, 0)) :: Blk b8 (.cells [Value.pointer (some ⟨b2, 0, none⟩)].toArray 25 (0, 0)) :: Blk b4 (.cells [Value.bool false].toArray 4 (0, 0)) :: Dfr r0 :: F) hRC0 (fun w hw => SPI.holds hw) ?_
    exact ⟨_, rfl, true, rfl, fun _ => ⟨(k, cn + 1, X.set k.toNat (W.getD k.toNat 0)), ⟨by simp only; omega, by simp only; omega, by simp only; omega, by simp only; omega, by simp only; rw [List.length_set]; exact hX, fun j hj => by simp only; rw [dif_set_getD (by omega)]; split; (rename_i h9; rw [h9]); exact hE j (by omega)⟩, fun w hw => hw⟩, fun h => (by cases h)⟩
  obtain ⟨v9, F9, rfl, hR9, hF9⟩ := hG
  refine ⟨⟨_, rfl⟩, ?_⟩
  obtain ⟨⟨la, cn, X⟩, ⟨_, _, cn0, cn1, hX, hE⟩, rfl⟩ := hR9.resolve_right (fun h => h)
  simp only at cn0 cn1 hX hE
  obtain rfl : W = X := dif_ext hW hX fun j hj => hE j (by omega)
  refine ⟨.ready, none, Blk b (.cells [.slice (some ⟨g, 0, none⟩) n c].toArray 77 (0, 0)) :: Own 30 1 (.slice (some ⟨g, 0, none⟩) n c) n (ints .u32 W) :: Blk b2 (.cells [.slice (some ⟨g2, 0, none⟩) n c2].toArray 77 (0, 0)) :: Own 30 1 (.slice (some ⟨g2, 0, none⟩) n c2) n (ints .u32 W) :: Blk b14 (.cells [Value.int .i64 cn].toArray 3 (0, 0)) :: Blk bm2 (.cells [Value.pointer (some ⟨b2, 0, none⟩)].toArray 25 (0, 0)) :: Blk bo2 (.cells [Value.pointer (some ⟨b, 0, none⟩)].toArray 25 (0, 0)) :: Blk b6 (.cells [Value.pointer (some ⟨b, 0, none⟩)].toArray 25 (0, 0)) :: Blk b8 (.cells [Value.pointer (some ⟨b2, 0, none⟩)].toArray 25 (0, 0)) :: Blk b4 (.cells [Value.bool false].toArray 4 (0, 0)) :: Dfr r0 :: F, (by intro h; cases h), fun w hw => SPI.holds (hF9 w hw), ?_⟩
  dsimp only [jumpK]
  refine g_inBlock ?_
  refine g_seq ?_
  refine g_seq ?_
  refine g_region ?_
  refine l_move rfl rfl ?_
  refine l_nil ?_
  refine g_block ?_
  refine g_rangeR rfl Try.call30 rfl ?_
  rintro r1 l1 RC1 hRC1
  refine CallK.heap (F2 := RC1 .ready none :: Blk b (.cells [.slice (some ⟨g, 0, none⟩) n c].toArray 77 (0, 0)) :: Own 30 1 (.slice (some ⟨g, 0, none⟩) n c) n (ints .u32 W) :: Blk b2 (.cells [.slice (some ⟨g2, 0, none⟩) n c2].toArray 77 (0, 0)) :: Own 30 1 (.slice (some ⟨g2, 0, none⟩) n c2) n (ints .u32 W) :: Blk b14 (.cells [Value.int .i64 cn].toArray 3 (0, 0)) :: Blk bm2 (.cells [Value.pointer (some ⟨b2, 0, none⟩)].toArray 25 (0, 0)) :: Blk bo2 (.cells [Value.pointer (some ⟨b, 0, none⟩)].toArray 25 (0, 0)) :: Blk b6 (.cells [Value.pointer (some ⟨b, 0, none⟩)].toArray 25 (0, 0)) :: Blk b8 (.cells [Value.pointer (some ⟨b2, 0, none⟩)].toArray 25 (0, 0)) :: Blk b4 (.cells [Value.bool false].toArray 4 (0, 0)) :: Dfr r1 :: Dfr r0 :: F) (CallK.mono (seq_r w0 [] (fun _ : Unit => RC1 .ready none :: Blk b (.cells [.slice (some ⟨g, 0, none⟩) n c].toArray 77 (0, 0)) :: Own 30 1 (.slice (some ⟨g, 0, none⟩) n c) n (ints .u32 W) :: Blk b2 (.cells [.slice (some ⟨g2, 0, none⟩) n c2].toArray 77 (0, 0)) :: Own 30 1 (.slice (some ⟨g2, 0, none⟩) n c2) n (ints .u32 W) :: Blk b14 (.cells [Value.int .i64 cn].toArray 3 (0, 0)) :: Blk bm2 (.cells [Value.pointer (some ⟨b2, 0, none⟩)].toArray 25 (0, 0)) :: Blk bo2 (.cells [Value.pointer (some ⟨b, 0, none⟩)].toArray 25 (0, 0)) :: Blk b6 (.cells [Value.pointer (some ⟨b, 0, none⟩)].toArray 25 (0, 0)) :: Blk b8 (.cells [Value.pointer (some ⟨b2, 0, none⟩)].toArray 25 (0, 0)) :: Blk b4 (.cells [Value.bool false].toArray 4 (0, 0)) :: Dfr r1 :: Dfr r0 :: F) (fun _ _ => True) (fun _ => W) (fun _ => W) (fun _ => False) l1 bm2 bo2 b2 g2 c2 b g c n hn (fun k x _ => ⟨mem_rd (b := b2) (g := g2) (c := c2) (W := W) (by first | exact mem_getO 0 rfl | exact mem_getO 1 rfl | exact mem_getO 2 rfl | exact mem_getO 3 rfl | exact mem_getO 4 rfl | exact mem_getO 5 rfl | exact mem_getO 6 rfl | exact mem_getO 7 rfl) (by first | exact mem_getO 0 rfl | exact mem_getO 1 rfl | exact mem_getO 2 rfl | exact mem_getO 3 rfl | exact mem_getO 4 rfl | exact mem_getO 5 rfl | exact mem_getO 6 rfl | exact mem_getO 7 rfl), hW⟩) (fun k x hx => ⟨mem_rd (b := b) (g := g) (c := c) (W := W) (by first | exact mem_getO 0 rfl | exact mem_getO 1 rfl | exact mem_getO 2 rfl | exact mem_getO 3 rfl | exact mem_getO 4 rfl | exact mem_getO 5 rfl | exact mem_getO 6 rfl | exact mem_getO 7 rfl) (by first | exact mem_getO 0 rfl | exact mem_getO 1 rfl | exact mem_getO 2 rfl | exact mem_getO 3 rfl | exact mem_getO 4 rfl | exact mem_getO 5 rfl | exact mem_getO 6 rfl | exact mem_getO 7 rfl), hW⟩) (fun k x _ => ⟨(fun w hw => by have h := hw.ok (Blk bm2 (.cells [Value.pointer (some ⟨b2, 0, none⟩)].toArray 25 (0, 0))) (by first | exact mem_getO 0 rfl | exact mem_getO 1 rfl | exact mem_getO 2 rfl | exact mem_getO 3 rfl | exact mem_getO 4 rfl | exact mem_getO 5 rfl | exact mem_getO 6 rfl | exact mem_getO 7 rfl | exact mem_getO 8 rfl | exact mem_getO 9 rfl | exact mem_getO 10 rfl | exact mem_getO 11 rfl); exact cell_of_has (c := [Value.pointer (some ⟨b2, 0, none⟩)]) (b := bm2) (o := 0) h rfl), (fun w hw => by have h := hw.ok (Blk bo2 (.cells [Value.pointer (some ⟨b, 0, none⟩)].toArray 25 (0, 0))) (by first | exact mem_getO 0 rfl | exact mem_getO 1 rfl | exact mem_getO 2 rfl | exact mem_getO 3 rfl | exact mem_getO 4 rfl | exact mem_getO 5 rfl | exact mem_getO 6 rfl | exact mem_getO 7 rfl | exact mem_getO 8 rfl | exact mem_getO 9 rfl | exact mem_getO 10 rfl | exact mem_getO 11 rfl); exact cell_of_has (c := [Value.pointer (some ⟨b, 0, none⟩)]) (b := bo2) (o := 0) h rfl)⟩) (fun _ _ _ _ _ _ => trivial) (fun k x k0 k1 hI hne => absurd rfl hne) () trivial) (fun en F2 hG => ?_)) (fun w hw => SPI.holds hw)
  obtain ⟨v9, F9, rfl, hR9, hF9⟩ := hG
  refine ⟨⟨_, rfl⟩, ?_⟩
  obtain ⟨_, _, rfl⟩ := hR9.resolve_right (fun h => h)
  refine ⟨.ready, none, Blk b (.cells [.slice (some ⟨g, 0, none⟩) n c].toArray 77 (0, 0)) :: Own 30 1 (.slice (some ⟨g, 0, none⟩) n c) n (ints .u32 W) :: Blk b2 (.cells [.slice (some ⟨g2, 0, none⟩) n c2].toArray 77 (0, 0)) :: Own 30 1 (.slice (some ⟨g2, 0, none⟩) n c2) n (ints .u32 W) :: Blk b14 (.cells [Value.int .i64 cn].toArray 3 (0, 0)) :: Blk bm2 (.cells [Value.pointer (some ⟨b2, 0, none⟩)].toArray 25 (0, 0)) :: Blk bo2 (.cells [Value.pointer (some ⟨b, 0, none⟩)].toArray 25 (0, 0)) :: Blk b6 (.cells [Value.pointer (some ⟨b, 0, none⟩)].toArray 25 (0, 0)) :: Blk b8 (.cells [Value.pointer (some ⟨b2, 0, none⟩)].toArray 25 (0, 0)) :: Blk b4 (.cells [Value.bool false].toArray 4 (0, 0)) :: Dfr r1 :: Dfr r0 :: F, (by intro h; cases h), fun w hw => SPI.holds (hF9 w hw), ?_⟩
  dsimp only [jumpK]
  refine g_inBlock ?_
  refine g_seq ?_
  refine gp_start mo (by kernel_rfl) (by kernel_rfl) ?_
  refine gp_quiet 0 rfl rfl rfl rfl rfl rfl (q_ld Try.isAgg25 rfl rfl) ?_
  refine gp_quiet 1 rfl rfl rfl rfl rfl rfl (q_move rfl) ?_
  refine gp_quiet 2 rfl rfl rfl rfl rfl rfl (q_len Try.underlying23 rfl) ?_
  refine gp_quiet 3 rfl rfl rfl rfl rfl rfl (q_move rfl) ?_
  refine gp_effa 4 [2, 3] [1, 0] rfl rfl rfl rfl rfl rfl rfl (does_call Try.call8 rfl (pick_ok _ _ (n1 : Int) (n : Int) (by omega) (by omega) (by omega) (by omega))) ?_
  rintro _ F9 ⟨rfl, hF9⟩; rw [hF9]; clear hF9 F9
  refine ⟨?_, ?_⟩
  · refine .cons rfl rfl rfl rfl rfl (q_move rfl) ?_
    refine .cons rfl rfl rfl rfl rfl (q_ld Try.isAgg25 rfl rfl) ?_
    exact .nil
  refine gp_fronto g ?_
  refine gp_frontb b ?_
  refine gp_effa 5 [0] [1] rfl rfl rfl rfl rfl rfl rfl (does_call Try.call10 rfl (write_ok _ _ b g n c W hW hc hn (pk n1 n) 5 (by omega) (by unfold inR; omega))) ?_
  rintro _ _ ⟨rfl, rfl⟩
  refine ⟨?_, ?_⟩
  · refine .cons rfl rfl rfl rfl rfl (q_move rfl) ?_
    exact .nil
  refine gp_end rfl rfl ?_
  refine g_seq ?_
  refine gp_start mo (by kernel_rfl) (by kernel_rfl) ?_
  refine gp_quiet 0 rfl rfl rfl rfl rfl rfl (q_ld Try.isAgg25 rfl rfl) ?_
  refine gp_quiet 1 rfl rfl rfl rfl rfl rfl (q_move rfl) ?_
  refine gp_quiet 2 rfl rfl rfl rfl rfl rfl (q_len Try.underlying23 rfl) ?_
  refine gp_quiet 3 rfl rfl rfl rfl rfl rfl (q_move rfl) ?_
  refine gp_effa 4 [2, 3] [1, 0] rfl rfl rfl rfl rfl rfl rfl (does_call Try.call8 rfl (pick_ok _ _ (n1 : Int) (n : Int) (by omega) (by omega) (by omega) (by omega))) ?_
  rintro _ F9 ⟨rfl, hF9⟩; rw [hF9]; clear hF9 F9
  refine ⟨?_, ?_⟩
  · refine .cons rfl rfl rfl rfl rfl (q_move rfl) ?_
    refine .cons rfl rfl rfl rfl rfl (q_ld Try.isAgg25 rfl rfl) ?_
    exact .nil
  refine gp_fronto g2 ?_
  refine gp_frontb b2 ?_
  refine gp_effa 5 [0] [1] rfl rfl rfl rfl rfl rfl rfl (does_call Try.call10 rfl (write_ok _ _ b2 g2 n c2 W hW hc2 hn (pk n1 n) 6 (by omega) (by unfold inR; omega))) ?_
  rintro _ _ ⟨rfl, rfl⟩
  refine ⟨?_, ?_⟩
  · refine .cons rfl rfl rfl rfl rfl (q_move rfl) ?_
    exact .nil
  refine gp_end rfl rfl ?_
  refine g_seq ?_
  refine g_region ?_
  refine l_ld rfl Try.isAgg25 rfl rfl ?_
  refine l_ld rfl Try.isAgg25 rfl rfl ?_
  refine l_call rfl Try.call11 rfl (differ_c _ _ _ _) ?_; rintro _ _ ⟨bm3, bo3, rfl, rfl⟩
  refine l_move rfl rfl ?_
  first | refine l_add rfl rfl rfl (w_i64 (by omega) (by omega)) ?_ | refine l_addw rfl rfl rfl ?_
  refine l_call rfl Try.call13 rfl (along_ok _ _ b g c b2 g2 c2 n (W.set (pk n1 n).toNat 5) (W.set (pk n1 n).toNat 6) (mem_rd (b := b) (g := g) (c := c) (W := (W.set (pk n1 n).toNat 5)) (by first | exact mem_getO 0 rfl | exact mem_getO 1 rfl | exact mem_getO 2 rfl | exact mem_getO 3 rfl | exact mem_getO 4 rfl | exact mem_getO 5 rfl | exact mem_getO 6 rfl | exact mem_getO 7 rfl) (by first | exact mem_getO 0 rfl | exact mem_getO 1 rfl | exact mem_getO 2 rfl | exact mem_getO 3 rfl | exact mem_getO 4 rfl | exact mem_getO 5 rfl | exact mem_getO 6 rfl | exact mem_getO 7 rfl)) (by rw [List.length_set]; exact hW) (mem_rd (b := b2) (g := g2) (c := c2) (W := (W.set (pk n1 n).toNat 6)) (by first | exact mem_getO 0 rfl | exact mem_getO 1 rfl | exact mem_getO 2 rfl | exact mem_getO 3 rfl | exact mem_getO 4 rfl | exact mem_getO 5 rfl | exact mem_getO 6 rfl | exact mem_getO 7 rfl) (by first | exact mem_getO 0 rfl | exact mem_getO 1 rfl | exact mem_getO 2 rfl | exact mem_getO 3 rfl | exact mem_getO 4 rfl | exact mem_getO 5 rfl | exact mem_getO 6 rfl | exact mem_getO 7 rfl)) (by rw [List.length_set]; exact hW) hn bm3 bo3 (fun w hw => by have h := hw.ok (Blk bm3 (.cells [Value.pointer (some ⟨b, 0, none⟩)].toArray 25 (0, 0))) (by first | exact mem_getO 0 rfl | exact mem_getO 1 rfl | exact mem_getO 2 rfl | exact mem_getO 3 rfl | exact mem_getO 4 rfl | exact mem_getO 5 rfl | exact mem_getO 6 rfl | exact mem_getO 7 rfl | exact mem_getO 8 rfl | exact mem_getO 9 rfl | exact mem_getO 10 rfl | exact mem_getO 11 rfl); exact cell_of_has (c := [Value.pointer (some ⟨b, 0, none⟩)]) (b := bm3) (o := 0) h rfl) (fun w hw => by have h := hw.ok (Blk bo3 (.cells [Value.pointer (some ⟨b2, 0, none⟩)].toArray 25 (0, 0))) (by first | exact mem_getO 0 rfl | exact mem_getO 1 rfl | exact mem_getO 2 rfl | exact mem_getO 3 rfl | exact mem_getO 4 rfl | exact mem_getO 5 rfl | exact mem_getO 6 rfl | exact mem_getO 7 rfl | exact mem_getO 8 rfl | exact mem_getO 9 rfl | exact mem_getO 10 rfl | exact mem_getO 11 rfl); exact cell_of_has (c := [Value.pointer (some ⟨b2, 0, none⟩)]) (b := bo3) (o := 0) h rfl) (n + 1) (by omega) (by omega)) ?_; rintro _ _ ⟨ar, cr, T, rfl, hT, rfl⟩
  rw [difs_one (by omega), if_pos (by omega), List.take_of_length_le (by simp only [List.length_singleton]; omega), Int.toNat_of_nonneg (by omega)] at hT
  subst hT
  refine l_fact (own_cases (mem_getO 0 rfl)) ?_
  rintro ⟨_, _, hv | ⟨gr, cr2, hv9, _⟩⟩
  · exact absurd hv.2 (by simp)
  obtain ⟨rfl, _, rfl⟩ := Value.slice.inj hv9
  refine l_assign rfl rfl ?_
  refine l_nil ?_
  refine g_seq ?_
  refine gp_start mo (by kernel_rfl) (by kernel_rfl) ?_
  refine gp_quiet 0 rfl rfl rfl rfl rfl rfl (q_move rfl) ?_
  refine gp_quiet 1 rfl rfl rfl rfl rfl rfl (q_len Try.underlying36 rfl) ?_
  refine gp_quiet 2 rfl rfl rfl rfl rfl rfl (q_eql rfl rfl) ?_
  refine gp_quiet 3 rfl rfl rfl rfl rfl rfl (q_move rfl) ?_
  refine gp_split 167 rfl ?_ ?_
  · intro hbr
    have hg167 := hbr
    have hbr := of_decide_eq_true hbr
    refine gp_quietg 4 rfl rfl rfl rfl rfl rfl (.yes rfl rfl (q_move rfl)) ?_
    refine gp_quietg 5 rfl rfl rfl rfl rfl rfl (.yes rfl rfl (q_ixs Try.underlying36 Try.sizeOf3 rfl rfl (by omega) (by simp only [List.length_singleton]; omega))) ?_
    refine gp_quietg 6 rfl rfl rfl rfl rfl rfl (.yes rfl rfl (q_loadc (v := .int .i64 (pk n1 n)) Try.isAgg3 rfl (own_cell (g := gr) (i := 0) rfl))) ?_
    refine gp_quietg 7 rfl rfl rfl rfl rfl rfl (.yes rfl rfl (q_move rfl)) ?_
    refine gp_quietg 8 rfl rfl rfl rfl rfl rfl (.yes rfl rfl (q_len Try.underlying23 rfl)) ?_
    refine gp_quietg 9 rfl rfl rfl rfl rfl rfl (.yes rfl rfl (q_move rfl)) ?_
    refine gp_effg 10 rfl rfl rfl rfl rfl rfl (.yes rfl rfl rfl) (Does.guard (does_call Try.call8 rfl (pick_ok _ _ (n1 : Int) (n : Int) (by omega) (by omega) (by omega) (by omega)))) ?_
    rintro _ F9 ⟨rfl, hF9⟩; rw [hF9]; clear hF9 F9
    refine ⟨?_, ?_⟩
    · refine .consG rfl rfl rfl rfl rfl (.yes rfl rfl (q_move rfl)) ?_
      refine .consG rfl rfl rfl rfl rfl (.yes rfl rfl (q_len Try.underlying23 rfl)) ?_
      refine .consG rfl rfl rfl rfl rfl (.yes rfl rfl (q_move rfl)) ?_
      refine .consG rfl rfl rfl rfl rfl (.yes rfl rfl (q_loadc (v := .int .i64 (pk n1 n)) Try.isAgg3 rfl (own_cell (g := gr) (i := 0) rfl))) ?_
      refine .consG rfl rfl rfl rfl rfl (.yes rfl rfl (q_ixs Try.underlying36 Try.sizeOf3 rfl rfl (by omega) (by simp only [List.length_singleton]; omega))) ?_
      refine .consG rfl rfl rfl rfl rfl (.yes rfl rfl (q_move rfl)) ?_
      refine .cons rfl rfl rfl rfl rfl (QV.as (q_move rfl) (congrArg Value.bool hg167)) ?_
      refine .cons rfl rfl rfl rfl rfl (q_eql rfl rfl) ?_
      refine .cons rfl rfl rfl rfl rfl (q_len Try.underlying36 rfl) ?_
      refine .cons rfl rfl rfl rfl rfl (q_move rfl) ?_
      exact .nil
    refine gp_quietg 11 rfl rfl rfl rfl rfl rfl (.yes rfl rfl (q_eql rfl rfl)) ?_
    refine gp_quiet 12 rfl rfl rfl rfl rfl rfl (q_pick_t rfl rfl) ?_
    refine gp_quiet 13 rfl rfl rfl rfl rfl rfl (q_move rfl) ?_
    refine gp_split 177 rfl ?_ ?_
    · intro hbr
      have hg177 := hbr
      have hbr := of_decide_eq_true hbr
      first | refine gp_quietg 14 rfl rfl rfl rfl rfl rfl (.yes rfl rfl (q_ld Try.isAgg3 rfl rfl)) ?_ | refine gp_quietg 14 rfl rfl rfl rfl rfl rfl (.yes rfl rfl (q_ldw Try.isAgg3 rfl (by omega))) ?_
      refine gp_quietg 15 rfl rfl rfl rfl rfl rfl (.yes rfl rfl (q_move rfl)) ?_
      refine gp_quietg 16 rfl rfl rfl rfl rfl rfl (.yes rfl rfl (q_leq rfl rfl)) ?_
      refine gp_quiet 17 rfl rfl rfl rfl rfl rfl (q_pick_t rfl rfl) ?_
      refine gp_effa 18 [0, 1, 2, 3, 4, 5, 6, 7, 8, 9, 11, 12, 13, 14, 15, 16, 17] [] rfl rfl rfl rfl rfl rfl rfl (does_st Try.sizeOf4 rfl rfl rfl rfl) ?_
      rintro _ _ ⟨rfl, rfl⟩
      refine ⟨?_, ?_⟩
      · exact .nil
      refine gp_end rfl rfl ?_
      refine g_heap (F' := Dfr r1 :: Dfr r0 :: Blk b4 (.cells [Value.bool (decide (cn ≤ (n : Int)))].toArray 4 (0, 0)) :: F) (fun w hw => SPI.holds hw) ?_
      refine g_ret_m (F := Blk b4 (.cells [Value.bool (decide (cn ≤ (n : Int)))].toArray 4 (0, 0)) :: F) [r1, r0] rfl Try.func4 (fun w hw => hw) rfl (.ci rfl Try.isAgg4 rfl .nil) ?_
      exact Gives.mki ⟨by rw [decide_eq_true (show cn ≤ (n : Int) by omega)]; rfl, rfl⟩
    · intro hbr
      have hbr := of_decide_eq_false hbr
      (exfalso; first | omega | (simp at hbr; done))
  · intro hbr
    have hbr := of_decide_eq_false hbr
    (exfalso; first | omega | (simp at hbr; done))
end Go.Proofs.Ytlgcghhjgcdigaa.Fw
