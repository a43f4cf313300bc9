import Derived.Test.YthemlddepepekaaFair4
namespace Go.Proofs.Ythemlddepepekaa.Fw
open Go Go.Proofs
set_option linter.unusedVariables false
set_option linter.unusedSimpArgs false
set_option maxRecDepth 10000

set_option maxHeartbeats 4000000 in
theorem ready_ok (w0 : World) (F : List Atom) (la : Option Addr) (n m lc gq : Nat) (KL : List Kw) (hn : KL.length = n) (hm : KL.length ≤ m) (hn5 : n ≤ 5) (hla : n = 0 ∨ ∃ g, la = some ⟨g, 0, none⟩) (Q : QS) (hQ : Q.length = 5) (hok : ∀ j, j < n → KOk (kat KL j)) (hLK : ∀ j, j < n → IR w0 F .i64 (kat KL j).la (kat KL j).L.length (kat KL j).L) (hr : (∀ j, j < n → Blkd (kat KL j) Q) → n = 0) :
    CallK Try.prog 16 [.slice la n lc, .slice (some ⟨gq, 0, none⟩) 5 5] w0 (Own 31 5 (.slice la m lc) m (knR KL) :: Own 44 2 (.slice (some ⟨gq, 0, none⟩) 5 5) 5 (qR Q) :: F) (Gives w0 fun v F2 => v = .bool true ∧ F2 = Own 31 5 (.slice la m lc) m (knR KL) :: Own 44 2 (.slice (some ⟨gq, 0, none⟩) 5 5) 5 (qR Q) :: F) := by
  refine c_enter Try.func16 rfl rfl rfl ?_
  refine g_seq ?_
  refine g_region ?_
  refine l_assign rfl rfl ?_
  refine l_nil ?_
  refine g_seq ?_
  refine g_seq ?_
  refine g_region ?_
  refine l_assign rfl rfl ?_
  refine l_nil ?_
  refine g_block ?_
  refine g_loopc (X := Int) [(0, _), (1, _)] (.cons rfl (.cons rfl (.nil))) (fun i => 0 ≤ i ∧ i ≤ n ∧ ∀ j : Nat, j < i → Blkd (kat KL j) Q) (fun i => ((n : Int) - i).toNat) (fun i => [(5, .int .i64 i)]) (0) (⟨by omega, by omega, fun j h => by omega⟩) (.cons rfl .nil) ?_
  rintro i ⟨i0, i1, hB⟩ ih
  dsimp only [List.cons_append, List.nil_append] at ih ⊢
  refine g_seq ?_
  refine g_seq ?_
  refine g_region ?_
  refine l_move rfl rfl ?_
  refine l_move rfl rfl ?_
  refine l_len rfl Try.underlying35 rfl ?_
  refine l_lss rfl rfl rfl ?_
  refine l_nil ?_
  refine g_cond rfl ?_ ?_
  · intro hbr
    have hbr := of_decide_eq_true hbr
    refine g_skip ?_
    refine g_seq ?_
    refine g_block ?_
    refine g_seq ?_
    refine g_region ?_
    refine l_move rfl rfl ?_
    refine l_move rfl rfl ?_
    obtain ⟨gl, rfl⟩ := hla.resolve_left (by omega)
    have hok9 := hok i.toNat (by omega)
    obtain ⟨o0, o1, o2, o3⟩ := hok9.ok
    refine l_ixs rfl Try.underlying35 Try.sizeOf31 rfl rfl (by omega) (by omega) ?_
    refine l_loadr (l := knV (kat KL i.toNat)) rfl Try.isAgg31 Try.sizeOf31 rfl rfl (kn_row (by omega)) ?_
    refine l_allocs rfl Try.zeroValue31 ?_; intro b6
    refine l_sts Try.sizeOf31 rfl rfl rfl rfl rfl ?_
    refine l_nil ?_
    refine g_seq ?_
    refine gp_start mo (by kernel_rfl) (by kernel_rfl) ?_
    refine gp_quiet 0 rfl rfl rfl rfl rfl rfl (q_fieldAddr fa_31_2 rfl) ?_
    first | refine gp_quiet 1 rfl rfl rfl rfl rfl rfl (q_ld Try.isAgg3 rfl rfl) ?_ | refine gp_quiet 1 rfl rfl rfl rfl rfl rfl (q_ldw Try.isAgg3 rfl (by omega)) ?_
    refine gp_quiet 2 rfl rfl rfl rfl rfl rfl (q_fieldAddr fa_31_1 rfl) ?_
    refine gp_quiet 3 rfl rfl rfl rfl rfl rfl (q_ld Try.isAgg23 rfl rfl) ?_
    refine gp_quiet 4 rfl rfl rfl rfl rfl rfl (q_len Try.underlying23 rfl) ?_
    refine gp_quiet 5 rfl rfl rfl rfl rfl rfl (q_eql rfl rfl) ?_
    refine gp_quiet 6 rfl rfl rfl rfl rfl rfl (q_move rfl) ?_
    refine gp_split 23 rfl ?_ ?_
    · intro hbr
      have hg23 := hbr
      have hbr := of_decide_eq_true hbr
      refine gp_quietg 7 rfl rfl rfl rfl rfl rfl (.no rfl rfl) ?_
      refine gp_quietg 8 rfl rfl rfl rfl rfl rfl (.no rfl rfl) ?_
      refine gp_quietg 9 rfl rfl rfl rfl rfl rfl (.no rfl rfl) ?_
      refine gp_quiet 10 rfl rfl rfl rfl rfl rfl (q_pick_t rfl rfl) ?_
      refine gp_quiet 11 rfl rfl rfl rfl rfl rfl (q_move rfl) ?_
      refine gp_quietg 12 rfl rfl rfl rfl rfl rfl (.no rfl rfl) ?_
      refine gp_quietg 13 rfl rfl rfl rfl rfl rfl (.no rfl rfl) ?_
      refine gp_quietg 14 rfl rfl rfl rfl rfl rfl (.no rfl rfl) ?_
      refine gp_quietg 15 rfl rfl rfl rfl rfl rfl (.no rfl rfl) ?_
      refine gp_quietg 16 rfl rfl rfl rfl rfl rfl (.no rfl rfl) ?_
      refine gp_quietg 17 rfl rfl rfl rfl rfl rfl (.no rfl rfl) ?_
      refine gp_quietg 18 rfl rfl rfl rfl rfl rfl (.no rfl rfl) ?_
      refine gp_quietg 19 rfl rfl rfl rfl rfl rfl (.no rfl rfl) ?_
      refine gp_quietg 20 rfl rfl rfl rfl rfl rfl (.no rfl rfl) ?_
      refine gp_quietg 21 rfl rfl rfl rfl rfl rfl (.no rfl rfl) ?_
      refine gp_quietg 22 rfl rfl rfl rfl rfl rfl (.no rfl rfl) ?_
      refine gp_quietg 23 rfl rfl rfl rfl rfl rfl (.no rfl rfl) ?_
      refine gp_quietg 24 rfl rfl rfl rfl rfl rfl (.no rfl rfl) ?_
      refine gp_quietg 25 rfl rfl rfl rfl rfl rfl (.no rfl rfl) ?_
      refine gp_quiet 26 rfl rfl rfl rfl rfl rfl (q_pick_t rfl rfl) ?_
      refine gp_end rfl rfl ?_
      refine g_cond_t rfl ?_
      refine g_seq ?_
      refine g_region ?_
      refine l_assign rfl rfl ?_
      refine l_nil ?_
      refine g_ret Try.func16 rfl (.tmp rfl .nil) ?_
      (first | exact Gives.mki ⟨rfl, rfl⟩ | exact Gives.mki ⟨by simp [resVal, hn0], rfl⟩)
    intro hbr
    have hg23 := hbr
    have hbr := of_decide_eq_false hbr
    refine gp_quietg 7 rfl rfl rfl rfl rfl rfl (.yes rfl rfl (q_fieldAddr fa_31_3 rfl)) ?_
    refine gp_quietg 8 rfl rfl rfl rfl rfl rfl (.yes rfl rfl (q_ld Try.isAgg4 rfl rfl)) ?_
    refine gp_quietg 9 rfl rfl rfl rfl rfl rfl (.yes rfl rfl (q_not rfl)) ?_
    refine gp_quiet 10 rfl rfl rfl rfl rfl rfl (q_pick_f rfl rfl) ?_
    refine gp_quiet 11 rfl rfl rfl rfl rfl rfl (q_move rfl) ?_
    refine gp_split 28 rfl ?_ ?_
    · intro hbr
      have hg28 := hbr
      have hb28 := hbr
      refine gp_quietg 12 rfl rfl rfl rfl rfl rfl (.no rfl rfl) ?_
      refine gp_quietg 13 rfl rfl rfl rfl rfl rfl (.no rfl rfl) ?_
      refine gp_quietg 14 rfl rfl rfl rfl rfl rfl (.no rfl rfl) ?_
      refine gp_quietg 15 rfl rfl rfl rfl rfl rfl (.no rfl rfl) ?_
      refine gp_quietg 16 rfl rfl rfl rfl rfl rfl (.no rfl rfl) ?_
      refine gp_quietg 17 rfl rfl rfl rfl rfl rfl (.no rfl rfl) ?_
      refine gp_quietg 18 rfl rfl rfl rfl rfl rfl (.no rfl rfl) ?_
      refine gp_quietg 19 rfl rfl rfl rfl rfl rfl (.no rfl rfl) ?_
      refine gp_quietg 20 rfl rfl rfl rfl rfl rfl (.no rfl rfl) ?_
      refine gp_quietg 21 rfl rfl rfl rfl rfl rfl (.no rfl rfl) ?_
      refine gp_quietg 22 rfl rfl rfl rfl rfl rfl (.no rfl rfl) ?_
      refine gp_quietg 23 rfl rfl rfl rfl rfl rfl (.no rfl rfl) ?_
      refine gp_quietg 24 rfl rfl rfl rfl rfl rfl (.no rfl rfl) ?_
      refine gp_quietg 25 rfl rfl rfl rfl rfl rfl (.no rfl rfl) ?_
      refine gp_quiet 26 rfl rfl rfl rfl rfl rfl (q_pick_t rfl rfl) ?_
      refine gp_end rfl rfl ?_
      refine g_cond_t rfl ?_
      refine g_seq ?_
      refine g_region ?_
      refine l_assign rfl rfl ?_
      refine l_nil ?_
      refine g_ret Try.func16 rfl (.tmp rfl .nil) ?_
      (first | exact Gives.mki ⟨rfl, rfl⟩ | exact Gives.mki ⟨by simp [resVal, hn0], rfl⟩)
    intro hbr
    have hg28 := hbr
    have hb28 := hbr
    refine gp_quietg 12 rfl rfl rfl rfl rfl rfl (.yes rfl rfl (q_move rfl)) ?_
    refine gp_quietg 13 rfl rfl rfl rfl rfl rfl (.yes rfl rfl (q_fieldAddr fa_31_1 rfl)) ?_
    have hqt : (kat KL i.toNat).q = true := by simpa using hg28
    obtain ⟨r, hr4, hLr⟩ := hok9.ev (kat KL i.toNat).h.toNat (by omega)
    obtain ⟨b9, o9, hla9, hr9⟩ := (hLK i.toNat (by omega)).some (i := (kat KL i.toNat).h.toNat) (by omega)
    refine gp_quietg 14 rfl rfl rfl rfl rfl rfl (.yes rfl rfl (q_ld (v := .slice (some ⟨b9, o9, none⟩) (kat KL i.toNat).L.length (kat KL i.toNat).lc) Try.isAgg23 rfl (by rw [← hla9]; rfl))) ?_
    refine gp_quietg 15 rfl rfl rfl rfl rfl rfl (.yes rfl rfl (q_fieldAddr fa_31_2 rfl)) ?_
    first | refine gp_quietg 16 rfl rfl rfl rfl rfl rfl (.yes rfl rfl (q_ld Try.isAgg3 rfl rfl)) ?_ | refine gp_quietg 16 rfl rfl rfl rfl rfl rfl (.yes rfl rfl (q_ldw Try.isAgg3 rfl (by omega))) ?_
    refine gp_quietg 17 rfl rfl rfl rfl rfl rfl (.yes rfl rfl (q_ixs Try.underlying23 Try.sizeOf3 rfl rfl (by omega) (by omega))) ?_
    refine gp_quietg 18 rfl rfl rfl rfl rfl rfl (.yes rfl rfl (q_loadc Try.isAgg3 rfl (word_any hr9 (by omega)))) ?_
    (first | rw [hLr] | skip)
    refine gp_quietg 19 rfl rfl rfl rfl rfl rfl (.yes rfl rfl (q_quo rfl rfl (by omega) (by omega) (w_i64 (by omega) (by omega)))) ?_
    (first | rw [show 2 * (r : Int) / 2 = (r : Int) by omega] | skip)
    refine gp_quietg 20 rfl rfl rfl rfl rfl rfl (.yes rfl rfl (q_ixs Try.underlying32 Try.sizeOf44 rfl rfl (by omega) (by omega))) ?_
    refine gp_quietg 21 rfl rfl rfl rfl rfl rfl (.yes rfl rfl (q_fieldAddr fa_44_1 rfl)) ?_
    refine gp_quietg 22 rfl rfl rfl rfl rfl rfl (.yes rfl rfl (q_loadc (v := .int .i64 (gQ Q r)) Try.isAgg3 rfl (qv_cell (by rw [hQ]; omega) 1 rfl))) ?_
    refine gp_quietg 23 rfl rfl rfl rfl rfl rfl (.yes rfl rfl (q_fieldAddr fa_31_4 rfl)) ?_
    first | refine gp_quietg 24 rfl rfl rfl rfl rfl rfl (.yes rfl rfl (q_ld Try.isAgg3 rfl rfl)) ?_ | refine gp_quietg 24 rfl rfl rfl rfl rfl rfl (.yes rfl rfl (q_ldw Try.isAgg3 rfl (by omega))) ?_
    refine gp_quietg 25 rfl rfl rfl rfl rfl rfl (.yes rfl rfl (q_eql rfl rfl)) ?_
    refine gp_quiet 26 rfl rfl rfl rfl rfl rfl (q_pick_f rfl rfl) ?_
    refine gp_end rfl rfl ?_
    refine g_cond rfl ?_ ?_
    · intro hbr
      have hbr := of_decide_eq_true hbr
      refine g_seq ?_
      refine g_region ?_
      refine l_assign rfl rfl ?_
      refine l_nil ?_
      refine g_ret Try.func16 rfl (.tmp rfl .nil) ?_
      (first | exact Gives.mki ⟨rfl, rfl⟩ | exact Gives.mki ⟨by simp [resVal, hn0], rfl⟩)
    intro hbr
    have hbr := of_decide_eq_false hbr
    refine g_skip ?_
    refine g_inBlock ?_
    refine g_region ?_
    refine l_move rfl rfl ?_
    first | refine l_add rfl rfl rfl (w_i64 (by omega) (by omega)) ?_ | refine l_addw rfl rfl rfl ?_
    refine l_assign rfl rfl ?_
    refine l_nil ?_
    exact g_againi (ih (i + 1) ⟨by omega, by omega, fun j hj => by rcases (show (j : Int) < i ∨ j = i.toNat by omega) with h | rfl; exact hB j h; exact ⟨by omega, by simpa using hg28, fun r2 hw => by have h9 := hw.2; have e9 : r2 = r := (by omega); subst e9; omega⟩⟩ (by omega)) (.cons rfl (.cons rfl (.cons rfl (.nil))))
  intro hbr
  have hbr := of_decide_eq_false hbr
  refine g_exit rfl ?_
  obtain rfl : i = n := by omega
  have hn0 := hr (fun j hj => hB j (by omega))
  refine g_seq ?_
  refine g_region ?_
  refine l_move rfl rfl ?_
  refine l_len rfl Try.underlying35 rfl ?_
  refine l_eql rfl rfl rfl ?_
  refine l_assign rfl rfl ?_
  refine l_nil ?_
  refine g_ret Try.func16 rfl (.tmp rfl .nil) ?_
  (first | exact Gives.mki ⟨rfl, rfl⟩ | exact Gives.mki ⟨by simp [resVal, hn0], rfl⟩)
end Go.Proofs.Ythemlddepepekaa.Fw
