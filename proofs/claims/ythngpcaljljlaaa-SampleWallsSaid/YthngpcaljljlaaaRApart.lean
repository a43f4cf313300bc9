import Derived.Test.YthngpcaljljlaaaRefF
namespace Go.Proofs.Ythngpcaljljlaaa.Fw
open Go Go.Proofs
set_option linter.unusedVariables false
set_option linter.unusedSimpArgs false
set_option maxRecDepth 10000

set_option maxHeartbeats 4000000 in
theorem rapart_ok (w0 : World) (F : List Atom) (st wd : Int) (s0 : 0 ≤ st) (s1 : st ≤ 1073741824) (hwd : 1 ≤ wd ∧ wd ≤ 16) (a : Option Addr) (q qc : Nat) (P : List Int) (hI : IR w0 F .i64 a q P) (hP : ∀ i, -9223372036854775808 ≤ P.getD i 0 ∧ P.getD i 0 ≤ 9223372036854775807) (hq : q ≤ 9223372036854775807) (hqc : q ≤ qc) (hin : ∀ i, i < q → 0 ≤ pAt P i ∧ pAt P i ≤ 1073741824) :
    CallK Try.prog 52 [.int .i64 st, .int .i64 wd, .slice a q qc] w0 (F) (Gives w0 fun v F2 => ∃ t, v = .bool t ∧ F2 = F ∧ (t = true ↔ ApartP st wd P q)) := by
  have hl := hI.1
  obtain ⟨wd0, wd1⟩ := hwd
  refine c_enter Try.func52 rfl rfl rfl ?_
  refine g_seq ?_
  refine g_region ?_
  refine l_assign rfl rfl ?_
  refine l_nil ?_
  refine g_seq ?_
  refine g_seq ?_
  refine g_region ?_
  refine l_move rfl rfl ?_
  refine l_len rfl Try.underlying34 rfl ?_
  refine l_move rfl rfl ?_
  refine l_nil ?_
  refine g_block ?_
  refine g_loopc (X := Int) [(0, _), (1, _), (2, _), (10, _)] (.cons rfl (.cons rfl (.cons rfl (.cons rfl (.nil))))) (fun i => 0 ≤ i ∧ i ≤ q ∧ ApartP st wd P i.toNat) (fun i => (q - i).toNat) (fun i => [(11, .int .i64 i)]) (0) (⟨by omega, by omega, fun k hk => by omega⟩) (.cons rfl .nil) ?_
  rintro i ⟨i0, i1, hA⟩ ih
  dsimp only [List.cons_append, List.nil_append] at ih ⊢
  refine g_seq ?_
  refine g_region ?_
  refine l_lss rfl rfl rfl ?_
  refine l_nil ?_
  refine g_seq ?_
  refine g_cond rfl ?_ ?_
  · intro hbr
    have hbr := of_decide_eq_true hbr
    refine g_skip ?_
    refine g_seq ?_
    refine g_block ?_
    refine g_seq ?_
    refine g_region ?_
    refine l_move rfl rfl ?_
    refine l_assign rfl rfl ?_
    refine l_nil ?_
    refine g_seq ?_
    refine g_seq ?_
    refine g_region ?_
    refine l_move rfl rfl ?_
    refine l_move rfl rfl ?_
    obtain ⟨b9, o9, rfl, hr9⟩ := hI.some (i := i.toNat) (by omega)
    have hb9 := hP i.toNat
    refine l_ixs rfl Try.underlying34 Try.sizeOf3 rfl rfl (by omega) (by omega) ?_
    have hn9 := hin i.toNat (by omega)
    unfold pAt at hn9
    refine l_loadc rfl Try.isAgg3 rfl (word_any hr9 (by omega)) ?_
    refine l_move rfl rfl ?_
    first | refine l_add rfl rfl rfl (w_i64 (by omega) (by omega)) ?_ | refine l_addw rfl rfl rfl ?_
    refine l_move rfl rfl ?_
    first | refine l_add rfl rfl rfl (w_i64 (by omega) (by omega)) ?_ | refine l_addw rfl rfl rfl ?_
    refine l_lss rfl rfl rfl ?_
    refine l_move rfl rfl ?_
    refine l_split 23 rfl ?_ ?_
    · intro hbr
      have hbr := of_decide_eq_true hbr
      refine l_guard_yes rfl rfl ?_
      refine l_move rfl rfl ?_
      refine l_guard_yes rfl rfl ?_
      refine l_move rfl rfl ?_
      refine l_guard_yes rfl rfl ?_
      refine l_move rfl rfl ?_
      refine l_guard_yes rfl rfl ?_
      refine l_ixs rfl Try.underlying34 Try.sizeOf3 rfl rfl (by omega) (by omega) ?_
      refine l_guard_yes rfl rfl ?_
      refine l_loadc rfl Try.isAgg3 rfl (word_any hr9 (by omega)) ?_
      refine l_guard_yes rfl rfl ?_
      first | refine l_add rfl rfl rfl (w_i64 (by omega) (by omega)) ?_ | refine l_addw rfl rfl rfl ?_
      refine l_guard_yes rfl rfl ?_
      refine l_move rfl rfl ?_
      refine l_guard_yes rfl rfl ?_
      first | refine l_add rfl rfl rfl (w_i64 (by omega) (by omega)) ?_ | refine l_addw rfl rfl rfl ?_
      refine l_guard_yes rfl rfl ?_
      refine l_lss rfl rfl rfl ?_
      refine l_pick_t rfl rfl rfl ?_
      refine l_nil ?_
      refine g_cond rfl ?_ ?_
      · intro hbr
        have hbr := of_decide_eq_true hbr
        refine g_seq ?_
        refine g_region ?_
        refine l_assign rfl rfl ?_
        refine l_nil ?_
        refine g_ret Try.func52 rfl (.tmp rfl .nil) ?_
        (first | exact Gives.mki ⟨true, rfl, rfl, ⟨fun _ => hA, fun _ => rfl⟩⟩ | exact Gives.mki ⟨false, rfl, rfl, ⟨fun h => (by cases h), fun h => absurd (h i.toNat (by omega)).1 (by unfold pAt; omega)⟩⟩ | exact Gives.mki ⟨false, rfl, rfl, ⟨fun h => (by cases h), fun h => absurd ((h i.toNat (by omega)).2 j.toNat (by omega)) (by unfold pAt; omega)⟩⟩)
      intro hbr
      have hbr := of_decide_eq_false hbr
      refine g_skip ?_
      refine g_seq ?_
      refine g_region ?_
      refine l_move rfl rfl ?_
      refine l_move rfl rfl ?_
      refine l_nil ?_
      refine g_block ?_
      refine g_loopc (X := Int) [(0, _), (1, _), (2, _), (7, _), (10, _), (11, _), (12, _), (13, _), (14, _), (15, _), (16, _), (17, _), (18, _), (19, _), (20, _), (21, _), (22, _), (23, _), (24, _), (25, _), (26, _), (27, _), (28, _), (29, _), (30, _), (31, _), (32, _), (33, _), (34, _)] (.cons rfl (.cons rfl (.cons rfl (.cons rfl (.cons rfl (.cons rfl (.cons rfl (.cons rfl (.cons rfl (.cons rfl (.cons rfl (.cons rfl (.cons rfl (.cons rfl (.cons rfl (.cons rfl (.cons rfl (.cons rfl (.cons rfl (.cons rfl (.cons rfl (.cons rfl (.cons rfl (.cons rfl (.cons rfl (.cons rfl (.cons rfl (.cons rfl (.cons rfl (.nil)))))))))))))))))))))))))))))) (fun j => 0 ≤ j ∧ j ≤ i ∧ ∀ k : Nat, k < j → ¬ (P.getD i.toNat 0 < P.getD k 0 + (3 + wd) ∧ P.getD k 0 < P.getD i.toNat 0 + (3 + wd))) (fun j => (i - j).toNat) (fun j => [(35, .int .i64 j)]) (0) (⟨by omega, by omega, fun k hk => by omega⟩) (.cons rfl .nil) ?_
      rintro j ⟨j0, j1, hJ⟩ ihj
      dsimp only [List.cons_append, List.nil_append] at ihj ⊢
      refine g_seq ?_
      refine g_region ?_
      refine l_lss rfl rfl rfl ?_
      refine l_nil ?_
      refine g_seq ?_
      refine g_cond rfl ?_ ?_
      · intro hbr
        have hbr := of_decide_eq_true hbr
        refine g_skip ?_
        refine g_seq ?_
        refine g_block ?_
        refine g_seq ?_
        refine g_region ?_
        refine l_move rfl rfl ?_
        refine l_assign rfl rfl ?_
        refine l_nil ?_
        refine g_seq ?_
        refine gp_start mo (by kernel_rfl) (by kernel_rfl) ?_
        have hn8 := hin j.toNat (by omega)
        unfold pAt at hn8
        refine gp_quiet 0 rfl rfl rfl rfl rfl rfl (q_move rfl) ?_
        refine gp_quiet 1 rfl rfl rfl rfl rfl rfl (q_move rfl) ?_
        refine gp_quiet 2 rfl rfl rfl rfl rfl rfl (q_ixs Try.underlying34 Try.sizeOf3 rfl rfl (by omega) (by omega)) ?_
        refine gp_quiet 3 rfl rfl rfl rfl rfl rfl (q_loadc Try.isAgg3 rfl (word_any hr9 (by omega))) ?_
        refine gp_quiet 4 rfl rfl rfl rfl rfl rfl (q_move rfl) ?_
        refine gp_quiet 5 rfl rfl rfl rfl rfl rfl (q_move rfl) ?_
        refine gp_quiet 6 rfl rfl rfl rfl rfl rfl (q_ixs Try.underlying34 Try.sizeOf3 rfl rfl (by omega) (by omega)) ?_
        refine gp_quiet 7 rfl rfl rfl rfl rfl rfl (q_loadc Try.isAgg3 rfl (word_any hr9 (by omega))) ?_
        first | refine gp_quiet 8 rfl rfl rfl rfl rfl rfl (q_add rfl rfl (w_i64 (by omega) (by omega))) ?_ | refine gp_quiet 8 rfl rfl rfl rfl rfl rfl (q_addw rfl rfl) ?_
        refine gp_quiet 9 rfl rfl rfl rfl rfl rfl (q_move rfl) ?_
        first | refine gp_quiet 10 rfl rfl rfl rfl rfl rfl (q_add rfl rfl (w_i64 (by omega) (by omega))) ?_ | refine gp_quiet 10 rfl rfl rfl rfl rfl rfl (q_addw rfl rfl) ?_
        refine gp_quiet 11 rfl rfl rfl rfl rfl rfl (q_lss rfl rfl) ?_
        refine gp_quiet 12 rfl rfl rfl rfl rfl rfl (q_move rfl) ?_
        refine gp_split 50 rfl ?_ ?_
        · intro hbr
          have hg50 := hbr
          have hbr := of_decide_eq_true hbr
          refine gp_quietg 13 rfl rfl rfl rfl rfl rfl (.yes rfl rfl (q_move rfl)) ?_
          refine gp_quietg 14 rfl rfl rfl rfl rfl rfl (.yes rfl rfl (q_move rfl)) ?_
          refine gp_quietg 15 rfl rfl rfl rfl rfl rfl (.yes rfl rfl (q_ixs Try.underlying34 Try.sizeOf3 rfl rfl (by omega) (by omega))) ?_
          refine gp_quietg 16 rfl rfl rfl rfl rfl rfl (.yes rfl rfl (q_loadc Try.isAgg3 rfl (word_any hr9 (by omega)))) ?_
          refine gp_quietg 17 rfl rfl rfl rfl rfl rfl (.yes rfl rfl (q_move rfl)) ?_
          refine gp_quietg 18 rfl rfl rfl rfl rfl rfl (.yes rfl rfl (q_move rfl)) ?_
          refine gp_quietg 19 rfl rfl rfl rfl rfl rfl (.yes rfl rfl (q_ixs Try.underlying34 Try.sizeOf3 rfl rfl (by omega) (by omega))) ?_
          refine gp_quietg 20 rfl rfl rfl rfl rfl rfl (.yes rfl rfl (q_loadc Try.isAgg3 rfl (word_any hr9 (by omega)))) ?_
          first | refine gp_quietg 21 rfl rfl rfl rfl rfl rfl (.yes rfl rfl (q_add rfl rfl (w_i64 (by omega) (by omega)))) ?_ | refine gp_quietg 21 rfl rfl rfl rfl rfl rfl (.yes rfl rfl (q_addw rfl rfl)) ?_
          refine gp_quietg 22 rfl rfl rfl rfl rfl rfl (.yes rfl rfl (q_move rfl)) ?_
          first | refine gp_quietg 23 rfl rfl rfl rfl rfl rfl (.yes rfl rfl (q_add rfl rfl (w_i64 (by omega) (by omega)))) ?_ | refine gp_quietg 23 rfl rfl rfl rfl rfl rfl (.yes rfl rfl (q_addw rfl rfl)) ?_
          refine gp_quietg 24 rfl rfl rfl rfl rfl rfl (.yes rfl rfl (q_lss rfl rfl)) ?_
          refine gp_quiet 25 rfl rfl rfl rfl rfl rfl (q_pick_t rfl rfl) ?_
          refine gp_end rfl rfl ?_
          refine g_cond rfl ?_ ?_
          · intro hbr
            have hbr := of_decide_eq_true hbr
            refine g_seq ?_
            refine g_region ?_
            refine l_assign rfl rfl ?_
            refine l_nil ?_
            refine g_ret Try.func52 rfl (.tmp rfl .nil) ?_
            (first | exact Gives.mki ⟨true, rfl, rfl, ⟨fun _ => hA, fun _ => rfl⟩⟩ | exact Gives.mki ⟨false, rfl, rfl, ⟨fun h => (by cases h), fun h => absurd (h i.toNat (by omega)).1 (by unfold pAt; omega)⟩⟩ | exact Gives.mki ⟨false, rfl, rfl, ⟨fun h => (by cases h), fun h => absurd ((h i.toNat (by omega)).2 j.toNat (by omega)) (by unfold pAt; omega)⟩⟩)
          intro hbr
          have hbr := of_decide_eq_false hbr
          refine g_skip ?_
          refine g_inBlock ?_
          refine g_region ?_
          first | refine l_add rfl rfl rfl (w_i64 (by omega) (by omega)) ?_ | refine l_addw rfl rfl rfl ?_
          refine l_move rfl rfl ?_
          refine l_nil ?_
          exact g_againi (ihj (j + 1) ⟨by omega, by omega, fun k hk => by rcases (show (k : Int) < j ∨ k = j.toNat by omega) with h | rfl; exact hJ k h; omega⟩ (by omega)) (.cons rfl (.cons rfl (.cons rfl (.cons rfl (.cons rfl (.cons rfl (.cons rfl (.cons rfl (.cons rfl (.cons rfl (.cons rfl (.cons rfl (.cons rfl (.cons rfl (.cons rfl (.cons rfl (.cons rfl (.cons rfl (.cons rfl (.cons rfl (.cons rfl (.cons rfl (.cons rfl (.cons rfl (.cons rfl (.cons rfl (.cons rfl (.cons rfl (.cons rfl (.cons rfl (.nil)))))))))))))))))))))))))))))))
        intro hbr
        have hg50 := hbr
        have hbr := of_decide_eq_false hbr
        refine gp_quietg 13 rfl rfl rfl rfl rfl rfl (.no rfl rfl) ?_
        refine gp_quietg 14 rfl rfl rfl rfl rfl rfl (.no rfl rfl) ?_
        refine gp_quietg 15 rfl rfl rfl rfl rfl rfl (.no rfl rfl) ?_
        refine gp_quietg 16 rfl rfl rfl rfl rfl rfl (.no rfl rfl) ?_
        refine gp_quietg 17 rfl rfl rfl rfl rfl rfl (.no rfl rfl) ?_
        refine gp_quietg 18 rfl rfl rfl rfl rfl rfl (.no rfl rfl) ?_
        refine gp_quietg 19 rfl rfl rfl rfl rfl rfl (.no rfl rfl) ?_
        refine gp_quietg 20 rfl rfl rfl rfl rfl rfl (.no rfl rfl) ?_
        refine gp_quietg 21 rfl rfl rfl rfl rfl rfl (.no rfl rfl) ?_
        refine gp_quietg 22 rfl rfl rfl rfl rfl rfl (.no rfl rfl) ?_
        refine gp_quietg 23 rfl rfl rfl rfl rfl rfl (.no rfl rfl) ?_
        refine gp_quietg 24 rfl rfl rfl rfl rfl rfl (.no rfl rfl) ?_
        refine gp_quiet 25 rfl rfl rfl rfl rfl rfl (q_pick_f rfl rfl) ?_
        refine gp_end rfl rfl ?_
        refine g_cond_f rfl ?_
        refine g_skip ?_
        refine g_inBlock ?_
        refine g_region ?_
        first | refine l_add rfl rfl rfl (w_i64 (by omega) (by omega)) ?_ | refine l_addw rfl rfl rfl ?_
        refine l_move rfl rfl ?_
        refine l_nil ?_
        exact g_againi (ihj (j + 1) ⟨by omega, by omega, fun k hk => by rcases (show (k : Int) < j ∨ k = j.toNat by omega) with h | rfl; exact hJ k h; omega⟩ (by omega)) (.cons rfl (.cons rfl (.cons rfl (.cons rfl (.cons rfl (.cons rfl (.cons rfl (.cons rfl (.cons rfl (.cons rfl (.cons rfl (.cons rfl (.cons rfl (.cons rfl (.cons rfl (.cons rfl (.cons rfl (.cons rfl (.cons rfl (.cons rfl (.cons rfl (.cons rfl (.cons rfl (.cons rfl (.cons rfl (.cons rfl (.cons rfl (.cons rfl (.cons rfl (.cons rfl (.nil)))))))))))))))))))))))))))))))
      intro hbr
      have hbr := of_decide_eq_false hbr
      refine g_exit rfl ?_
      obtain rfl : i = j := by omega
      refine g_inBlock ?_
      refine g_region ?_
      first | refine l_add rfl rfl rfl (w_i64 (by omega) (by omega)) ?_ | refine l_addw rfl rfl rfl ?_
      refine l_move rfl rfl ?_
      refine l_nil ?_
      exact g_againi (ih (i + 1) ⟨by omega, by omega, fun k hk => by rcases (show k < i.toNat ∨ k = i.toNat by omega) with h | rfl; exact hA k h; exact ⟨by unfold pAt; omega, fun k2 hk2 => by unfold pAt; exact hJ k2 (by omega)⟩⟩ (by omega)) (.cons rfl (.cons rfl (.cons rfl (.cons rfl (.cons rfl (.nil))))))
    intro hbr
    have hbr := of_decide_eq_false hbr
    refine l_guard_no rfl rfl rfl ?_
    refine l_guard_no rfl rfl rfl ?_
    refine l_guard_no rfl rfl rfl ?_
    refine l_guard_no rfl rfl rfl ?_
    refine l_guard_no rfl rfl rfl ?_
    refine l_guard_no rfl rfl rfl ?_
    refine l_guard_no rfl rfl rfl ?_
    refine l_guard_no rfl rfl rfl ?_
    refine l_guard_no rfl rfl rfl ?_
    refine l_pick_f rfl rfl rfl ?_
    refine l_nil ?_
    refine g_cond_f rfl ?_
    refine g_skip ?_
    refine g_seq ?_
    refine g_region ?_
    refine l_move rfl rfl ?_
    refine l_move rfl rfl ?_
    refine l_nil ?_
    refine g_block ?_
    refine g_loopc (X := Int) [(0, _), (1, _), (2, _), (7, _), (10, _), (11, _), (12, _), (13, _), (14, _), (15, _), (16, _), (17, _), (18, _), (19, _), (20, _), (21, _), (22, _), (23, _), (33, _), (34, _)] (.cons rfl (.cons rfl (.cons rfl (.cons rfl (.cons rfl (.cons rfl (.cons rfl (.cons rfl (.cons rfl (.cons rfl (.cons rfl (.cons rfl (.cons rfl (.cons rfl (.cons rfl (.cons rfl (.cons rfl (.cons rfl (.cons rfl (.cons rfl (.nil))))))))))))))))))))) (fun j => 0 ≤ j ∧ j ≤ i ∧ ∀ k : Nat, k < j → ¬ (P.getD i.toNat 0 < P.getD k 0 + (3 + wd) ∧ P.getD k 0 < P.getD i.toNat 0 + (3 + wd))) (fun j => (i - j).toNat) (fun j => [(35, .int .i64 j)]) (0) (⟨by omega, by omega, fun k hk => by omega⟩) (.cons rfl .nil) ?_
    rintro j ⟨j0, j1, hJ⟩ ihj
    dsimp only [List.cons_append, List.nil_append] at ihj ⊢
    refine g_seq ?_
    refine g_region ?_
    refine l_lss rfl rfl rfl ?_
    refine l_nil ?_
    refine g_seq ?_
    refine g_cond rfl ?_ ?_
    · intro hbr
      have hbr := of_decide_eq_true hbr
      refine g_skip ?_
      refine g_seq ?_
      refine g_block ?_
      refine g_seq ?_
      refine g_region ?_
      refine l_move rfl rfl ?_
      refine l_assign rfl rfl ?_
      refine l_nil ?_
      refine g_seq ?_
      refine gp_start mo (by kernel_rfl) (by kernel_rfl) ?_
      have hn8 := hin j.toNat (by omega)
      unfold pAt at hn8
      refine gp_quiet 0 rfl rfl rfl rfl rfl rfl (q_move rfl) ?_
      refine gp_quiet 1 rfl rfl rfl rfl rfl rfl (q_move rfl) ?_
      refine gp_quiet 2 rfl rfl rfl rfl rfl rfl (q_ixs Try.underlying34 Try.sizeOf3 rfl rfl (by omega) (by omega)) ?_
      refine gp_quiet 3 rfl rfl rfl rfl rfl rfl (q_loadc Try.isAgg3 rfl (word_any hr9 (by omega))) ?_
      refine gp_quiet 4 rfl rfl rfl rfl rfl rfl (q_move rfl) ?_
      refine gp_quiet 5 rfl rfl rfl rfl rfl rfl (q_move rfl) ?_
      refine gp_quiet 6 rfl rfl rfl rfl rfl rfl (q_ixs Try.underlying34 Try.sizeOf3 rfl rfl (by omega) (by omega)) ?_
      refine gp_quiet 7 rfl rfl rfl rfl rfl rfl (q_loadc Try.isAgg3 rfl (word_any hr9 (by omega))) ?_
      first | refine gp_quiet 8 rfl rfl rfl rfl rfl rfl (q_add rfl rfl (w_i64 (by omega) (by omega))) ?_ | refine gp_quiet 8 rfl rfl rfl rfl rfl rfl (q_addw rfl rfl) ?_
      refine gp_quiet 9 rfl rfl rfl rfl rfl rfl (q_move rfl) ?_
      first | refine gp_quiet 10 rfl rfl rfl rfl rfl rfl (q_add rfl rfl (w_i64 (by omega) (by omega))) ?_ | refine gp_quiet 10 rfl rfl rfl rfl rfl rfl (q_addw rfl rfl) ?_
      refine gp_quiet 11 rfl rfl rfl rfl rfl rfl (q_lss rfl rfl) ?_
      refine gp_quiet 12 rfl rfl rfl rfl rfl rfl (q_move rfl) ?_
      refine gp_split 50 rfl ?_ ?_
      · intro hbr
        have hg50 := hbr
        have hbr := of_decide_eq_true hbr
        refine gp_quietg 13 rfl rfl rfl rfl rfl rfl (.yes rfl rfl (q_move rfl)) ?_
        refine gp_quietg 14 rfl rfl rfl rfl rfl rfl (.yes rfl rfl (q_move rfl)) ?_
        refine gp_quietg 15 rfl rfl rfl rfl rfl rfl (.yes rfl rfl (q_ixs Try.underlying34 Try.sizeOf3 rfl rfl (by omega) (by omega))) ?_
        refine gp_quietg 16 rfl rfl rfl rfl rfl rfl (.yes rfl rfl (q_loadc Try.isAgg3 rfl (word_any hr9 (by omega)))) ?_
        refine gp_quietg 17 rfl rfl rfl rfl rfl rfl (.yes rfl rfl (q_move rfl)) ?_
        refine gp_quietg 18 rfl rfl rfl rfl rfl rfl (.yes rfl rfl (q_move rfl)) ?_
        refine gp_quietg 19 rfl rfl rfl rfl rfl rfl (.yes rfl rfl (q_ixs Try.underlying34 Try.sizeOf3 rfl rfl (by omega) (by omega))) ?_
        refine gp_quietg 20 rfl rfl rfl rfl rfl rfl (.yes rfl rfl (q_loadc Try.isAgg3 rfl (word_any hr9 (by omega)))) ?_
        first | refine gp_quietg 21 rfl rfl rfl rfl rfl rfl (.yes rfl rfl (q_add rfl rfl (w_i64 (by omega) (by omega)))) ?_ | refine gp_quietg 21 rfl rfl rfl rfl rfl rfl (.yes rfl rfl (q_addw rfl rfl)) ?_
        refine gp_quietg 22 rfl rfl rfl rfl rfl rfl (.yes rfl rfl (q_move rfl)) ?_
        first | refine gp_quietg 23 rfl rfl rfl rfl rfl rfl (.yes rfl rfl (q_add rfl rfl (w_i64 (by omega) (by omega)))) ?_ | refine gp_quietg 23 rfl rfl rfl rfl rfl rfl (.yes rfl rfl (q_addw rfl rfl)) ?_
        refine gp_quietg 24 rfl rfl rfl rfl rfl rfl (.yes rfl rfl (q_lss rfl rfl)) ?_
        refine gp_quiet 25 rfl rfl rfl rfl rfl rfl (q_pick_t rfl rfl) ?_
        refine gp_end rfl rfl ?_
        refine g_cond rfl ?_ ?_
        · intro hbr
          have hbr := of_decide_eq_true hbr
          refine g_seq ?_
          refine g_region ?_
          refine l_assign rfl rfl ?_
          refine l_nil ?_
          refine g_ret Try.func52 rfl (.tmp rfl .nil) ?_
          (first | exact Gives.mki ⟨true, rfl, rfl, ⟨fun _ => hA, fun _ => rfl⟩⟩ | exact Gives.mki ⟨false, rfl, rfl, ⟨fun h => (by cases h), fun h => absurd (h i.toNat (by omega)).1 (by unfold pAt; omega)⟩⟩ | exact Gives.mki ⟨false, rfl, rfl, ⟨fun h => (by cases h), fun h => absurd ((h i.toNat (by omega)).2 j.toNat (by omega)) (by unfold pAt; omega)⟩⟩)
        intro hbr
        have hbr := of_decide_eq_false hbr
        refine g_skip ?_
        refine g_inBlock ?_
        refine g_region ?_
        first | refine l_add rfl rfl rfl (w_i64 (by omega) (by omega)) ?_ | refine l_addw rfl rfl rfl ?_
        refine l_move rfl rfl ?_
        refine l_nil ?_
        exact g_againi (ihj (j + 1) ⟨by omega, by omega, fun k hk => by rcases (show (k : Int) < j ∨ k = j.toNat by omega) with h | rfl; exact hJ k h; omega⟩ (by omega)) (.cons rfl (.cons rfl (.cons rfl (.cons rfl (.cons rfl (.cons rfl (.cons rfl (.cons rfl (.cons rfl (.cons rfl (.cons rfl (.cons rfl (.cons rfl (.cons rfl (.cons rfl (.cons rfl (.cons rfl (.cons rfl (.cons rfl (.cons rfl (.cons rfl (.nil))))))))))))))))))))))
      intro hbr
      have hg50 := hbr
      have hbr := of_decide_eq_false hbr
      refine gp_quietg 13 rfl rfl rfl rfl rfl rfl (.no rfl rfl) ?_
      refine gp_quietg 14 rfl rfl rfl rfl rfl rfl (.no rfl rfl) ?_
      refine gp_quietg 15 rfl rfl rfl rfl rfl rfl (.no rfl rfl) ?_
      refine gp_quietg 16 rfl rfl rfl rfl rfl rfl (.no rfl rfl) ?_
      refine gp_quietg 17 rfl rfl rfl rfl rfl rfl (.no rfl rfl) ?_
      refine gp_quietg 18 rfl rfl rfl rfl rfl rfl (.no rfl rfl) ?_
      refine gp_quietg 19 rfl rfl rfl rfl rfl rfl (.no rfl rfl) ?_
      refine gp_quietg 20 rfl rfl rfl rfl rfl rfl (.no rfl rfl) ?_
      refine gp_quietg 21 rfl rfl rfl rfl rfl rfl (.no rfl rfl) ?_
      refine gp_quietg 22 rfl rfl rfl rfl rfl rfl (.no rfl rfl) ?_
      refine gp_quietg 23 rfl rfl rfl rfl rfl rfl (.no rfl rfl) ?_
      refine gp_quietg 24 rfl rfl rfl rfl rfl rfl (.no rfl rfl) ?_
      refine gp_quiet 25 rfl rfl rfl rfl rfl rfl (q_pick_f rfl rfl) ?_
      refine gp_end rfl rfl ?_
      refine g_cond_f rfl ?_
      refine g_skip ?_
      refine g_inBlock ?_
      refine g_region ?_
      first | refine l_add rfl rfl rfl (w_i64 (by omega) (by omega)) ?_ | refine l_addw rfl rfl rfl ?_
      refine l_move rfl rfl ?_
      refine l_nil ?_
      exact g_againi (ihj (j + 1) ⟨by omega, by omega, fun k hk => by rcases (show (k : Int) < j ∨ k = j.toNat by omega) with h | rfl; exact hJ k h; omega⟩ (by omega)) (.cons rfl (.cons rfl (.cons rfl (.cons rfl (.cons rfl (.cons rfl (.cons rfl (.cons rfl (.cons rfl (.cons rfl (.cons rfl (.cons rfl (.cons rfl (.cons rfl (.cons rfl (.cons rfl (.cons rfl (.cons rfl (.cons rfl (.cons rfl (.cons rfl (.nil))))))))))))))))))))))
    intro hbr
    have hbr := of_decide_eq_false hbr
    refine g_exit rfl ?_
    obtain rfl : i = j := by omega
    refine g_inBlock ?_
    refine g_region ?_
    first | refine l_add rfl rfl rfl (w_i64 (by omega) (by omega)) ?_ | refine l_addw rfl rfl rfl ?_
    refine l_move rfl rfl ?_
    refine l_nil ?_
    exact g_againi (ih (i + 1) ⟨by omega, by omega, fun k hk => by rcases (show k < i.toNat ∨ k = i.toNat by omega) with h | rfl; exact hA k h; exact ⟨by unfold pAt; omega, fun k2 hk2 => by unfold pAt; exact hJ k2 (by omega)⟩⟩ (by omega)) (.cons rfl (.cons rfl (.cons rfl (.cons rfl (.cons rfl (.nil))))))
  intro hbr
  have hbr := of_decide_eq_false hbr
  refine g_exit rfl ?_
  obtain rfl : i = q := by omega
  rw [Int.toNat_natCast] at hA
  refine g_seq ?_
  refine g_region ?_
  refine l_assign rfl rfl ?_
  refine l_nil ?_
  refine g_ret Try.func52 rfl (.tmp rfl .nil) ?_
  (first | exact Gives.mki ⟨true, rfl, rfl, ⟨fun _ => hA, fun _ => rfl⟩⟩ | exact Gives.mki ⟨false, rfl, rfl, ⟨fun h => (by cases h), fun h => absurd (h i.toNat (by omega)).1 (by unfold pAt; omega)⟩⟩ | exact Gives.mki ⟨false, rfl, rfl, ⟨fun h => (by cases h), fun h => absurd ((h i.toNat (by omega)).2 j.toNat (by omega)) (by unfold pAt; omega)⟩⟩)
end Go.Proofs.Ythngpcaljljlaaa.Fw
