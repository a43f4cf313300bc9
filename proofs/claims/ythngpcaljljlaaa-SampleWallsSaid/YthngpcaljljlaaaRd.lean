import Derived.Test.YthngpcaljljlaaaDel
namespace Go.Proofs.Ythngpcaljljlaaa.Fw
open Go Go.Proofs
set_option linter.unusedVariables false
set_option linter.unusedSimpArgs false
set_option maxRecDepth 10000

set_option maxHeartbeats 400000 in
theorem readp_ok (w0 : World) (F : List Atom) (b g n c : Nat) (W : List Int) (hW : W.length = n) (hc : n ≤ c) (hn : n ≤ 1073741824) (hU : W32s W) (h16 : n % 16 = 0) (at_ : Int) (at_0 : -9223372036854775808 ≤ at_) (at_1 : at_ ≤ 9223372036854775807) (wd : Int) (wd0 : -9223372036854775808 ≤ wd) (wd1 : wd ≤ 9223372036854775807) :
    CallK Try.prog 18 [.pointer (some ⟨b, 0, none⟩), .int .i64 at_, .int .i64 wd] w0 (Blk b (.cells [.slice (some ⟨g, 0, none⟩) n c].toArray 63 (0, 0)) :: Own 28 1 (.slice (some ⟨g, 0, none⟩) n c) n (ints .u32 W) :: F) (Gives w0 fun v F2 => ∃ a q c2 T fr th e, v = .tuple #[.slice a q c2, .bool fr, .bool th, .int .i64 e] ∧ T.length = q ∧ (q = 0 ∨ ∃ g2, a = some ⟨g2, 0, none⟩) ∧ F2 = Own 28 1 (.slice a q c2) q (ints .u32 T) :: Blk b (.cells [.slice (some ⟨g, 0, none⟩) n c].toArray 63 (0, 0)) :: Own 28 1 (.slice (some ⟨g, 0, none⟩) n c) n (ints .u32 W) :: F ∧ RdpG W n at_ wd T fr th e) := by
  refine c_enter Try.func18 rfl rfl rfl ?_
  refine g_seq ?_
  refine g_region ?_
  refine l_assign rfl rfl ?_
  refine l_assign rfl rfl ?_
  refine l_assign rfl rfl ?_
  refine l_assign rfl rfl ?_
  refine l_nil ?_
  refine g_seq ?_
  refine g_seq ?_
  refine g_region ?_
  refine l_move rfl rfl ?_
  refine l_move rfl rfl ?_
  refine l_call rfl Try.call28 rfl (may_ok _ _ b wd wd0 wd1) ?_; rintro _ F9 ⟨e1, rfl, hF9, he1⟩; rw [hF9]; clear hF9 F9
  unfold WdOk at he1
  refine l_assign rfl rfl ?_
  refine l_nil ?_
  refine g_seq ?_
  refine g_region ?_
  refine l_move rfl rfl ?_
  refine l_neq rfl rfl rfl ?_
  refine l_nil ?_
  refine g_cond rfl ?_ ?_
  · intro hbr
    have hbr := of_decide_eq_true hbr
    refine g_seq ?_
    refine g_region ?_
    refine l_move rfl rfl ?_
    refine l_assign rfl rfl ?_
    refine l_assign rfl rfl ?_
    refine l_assign rfl rfl ?_
    refine l_assign rfl rfl ?_
    refine l_nil ?_
    refine g_wnil 28 .u32 ?_
    refine g_ret Try.func18 rfl (.tmp rfl (.tmp rfl (.tmp rfl (.tmp rfl .nil)))) ?_
    (first | exact Gives.mki ⟨none, 0, 0, [], false, false, e1, rfl, rfl, .inl rfl, rfl, .inl ⟨by omega, by unfold WdOk; omega, rfl, rfl, rfl⟩⟩ | exact Gives.mki ⟨none, 0, 0, [], false, false, e4, rfl, rfl, .inl rfl, rfl, .inr (.inl ⟨hwd, rfl, rfl, rfl, by have h0 : T = [] := by { rcases hRd with h | h | h; exact h.2.1; exact h.2.1; exact List.length_eq_zero_iff.1 (by omega) }; rw [h0] at hRd; exact hRd⟩)⟩ | (obtain rfl : e4 = 0 := (by omega); exact Gives.mki ⟨ar, qr, cr, T, _, true, 0, rfl, hT, har, rfl, .inr (.inr ⟨hwd, rfl, by omega, rfl, hRd, rfl⟩)⟩))
  intro hbr
  have hbr := of_decide_eq_false hbr
  refine g_skip ?_
  refine g_seq ?_
  refine g_region ?_
  refine l_move rfl rfl ?_
  refine l_move rfl rfl ?_
  refine l_move rfl rfl ?_
  have hwd : WdOk wd := by unfold WdOk; omega
  refine l_call rfl Try.call30 rfl (read_g _ _ b g n c W hW hc hn hU at_ at_0 at_1 wd hwd 3 (by omega) (by omega)) ?_; rintro _ _ ⟨ar, qr, cr, T, e4, rfl, hT, har, rfl, hRd⟩
  refine l_move rfl rfl ?_
  refine l_extract rfl rfl rfl ?_
  refine l_extract rfl rfl rfl ?_
  refine l_assign rfl rfl ?_
  refine l_assign rfl rfl ?_
  refine l_nil ?_
  refine g_seq ?_
  refine g_seq ?_
  refine g_region ?_
  refine l_move rfl rfl ?_
  refine l_neq rfl rfl rfl ?_
  refine l_move rfl rfl ?_
  refine l_split 27 rfl ?_ ?_
  · intro hbr
    have hbr := of_decide_eq_true hbr
    refine l_guard_no rfl rfl rfl ?_
    refine l_guard_no rfl rfl rfl ?_
    refine l_guard_no rfl rfl rfl ?_
    refine l_pick_t rfl rfl rfl ?_
    refine l_nil ?_
    refine g_cond_t rfl ?_
    refine g_seq ?_
    refine g_region ?_
    refine l_move rfl rfl ?_
    refine l_assign rfl rfl ?_
    refine l_assign rfl rfl ?_
    refine l_assign rfl rfl ?_
    refine l_assign rfl rfl ?_
    refine l_nil ?_
    refine g_wnil 28 .u32 ?_
    refine g_ret Try.func18 rfl (.tmp rfl (.tmp rfl (.tmp rfl (.tmp rfl .nil)))) ?_
    (first | exact Gives.mki ⟨none, 0, 0, [], false, false, e1, rfl, rfl, .inl rfl, rfl, .inl ⟨by omega, by unfold WdOk; omega, rfl, rfl, rfl⟩⟩ | exact Gives.mki ⟨none, 0, 0, [], false, false, e4, rfl, rfl, .inl rfl, rfl, .inr (.inl ⟨hwd, rfl, rfl, rfl, by have h0 : T = [] := by { rcases hRd with h | h | h; exact h.2.1; exact h.2.1; exact List.length_eq_zero_iff.1 (by omega) }; rw [h0] at hRd; exact hRd⟩)⟩ | (obtain rfl : e4 = 0 := (by omega); exact Gives.mki ⟨ar, qr, cr, T, _, true, 0, rfl, hT, har, rfl, .inr (.inr ⟨hwd, rfl, by omega, rfl, hRd, rfl⟩)⟩))
  intro hbr
  have hbr := of_decide_eq_false hbr
  refine l_guard_yes rfl rfl ?_
  refine l_move rfl rfl ?_
  refine l_guard_yes rfl rfl ?_
  refine l_len rfl Try.underlying29 rfl ?_
  refine l_guard_yes rfl rfl ?_
  refine l_eql rfl rfl rfl ?_
  refine l_pick_f rfl rfl rfl ?_
  refine l_nil ?_
  refine g_cond rfl ?_ ?_
  · intro hbr
    have hbr := of_decide_eq_true hbr
    refine g_seq ?_
    refine g_region ?_
    refine l_move rfl rfl ?_
    refine l_assign rfl rfl ?_
    refine l_assign rfl rfl ?_
    refine l_assign rfl rfl ?_
    refine l_assign rfl rfl ?_
    refine l_nil ?_
    refine g_wnil 28 .u32 ?_
    refine g_ret Try.func18 rfl (.tmp rfl (.tmp rfl (.tmp rfl (.tmp rfl .nil)))) ?_
    (first | exact Gives.mki ⟨none, 0, 0, [], false, false, e1, rfl, rfl, .inl rfl, rfl, .inl ⟨by omega, by unfold WdOk; omega, rfl, rfl, rfl⟩⟩ | exact Gives.mki ⟨none, 0, 0, [], false, false, e4, rfl, rfl, .inl rfl, rfl, .inr (.inl ⟨hwd, rfl, rfl, rfl, by have h0 : T = [] := by { rcases hRd with h | h | h; exact h.2.1; exact h.2.1; exact List.length_eq_zero_iff.1 (by omega) }; rw [h0] at hRd; exact hRd⟩)⟩ | (obtain rfl : e4 = 0 := (by omega); exact Gives.mki ⟨ar, qr, cr, T, _, true, 0, rfl, hT, har, rfl, .inr (.inr ⟨hwd, rfl, by omega, rfl, hRd, rfl⟩)⟩))
  intro hbr
  have hbr := of_decide_eq_false hbr
  refine g_skip ?_
  refine g_seq ?_
  refine g_region ?_
  refine l_move rfl rfl ?_
  refine l_move rfl rfl ?_
  have hi9 : inR n at_ (3 + wd) := by rcases hRd with h | h | h; omega; omega; exact h.2.1
  obtain ⟨w1, w2⟩ := id hwd
  have hi8 := hi9
  unfold inR at hi8
  first | refine l_add rfl rfl rfl (w_i64 (by omega) (by omega)) ?_ | refine l_addw rfl rfl rfl ?_
  refine l_fronto g ?_
  refine l_frontb b ?_
  refine l_call rfl Try.call36 rfl (read_ok _ _ b g n c W hW hc hn (at_ + 1) (by omega) (by unfold inR; omega)) ?_; rintro _ _ ⟨rfl, rfl⟩
  refine l_move rfl rfl ?_
  refine l_extract rfl rfl rfl ?_
  refine l_extract rfl rfl rfl ?_
  refine l_assign rfl rfl ?_
  refine l_assign rfl rfl ?_
  refine l_nil ?_
  refine g_seq ?_
  refine g_region ?_
  refine l_move rfl rfl ?_
  refine l_move rfl rfl ?_
  refine l_eql rfl rfl rfl ?_
  refine l_assign rfl rfl ?_
  refine l_assign rfl rfl ?_
  refine l_assign rfl rfl ?_
  refine l_assign rfl rfl ?_
  refine l_nil ?_
  refine g_wnil 28 .u32 ?_
  refine g_ret Try.func18 rfl (.tmp rfl (.tmp rfl (.tmp rfl (.tmp rfl .nil)))) ?_
  (first | exact Gives.mki ⟨none, 0, 0, [], false, false, e1, rfl, rfl, .inl rfl, rfl, .inl ⟨by omega, by unfold WdOk; omega, rfl, rfl, rfl⟩⟩ | exact Gives.mki ⟨none, 0, 0, [], false, false, e4, rfl, rfl, .inl rfl, rfl, .inr (.inl ⟨hwd, rfl, rfl, rfl, by have h0 : T = [] := by { rcases hRd with h | h | h; exact h.2.1; exact h.2.1; exact List.length_eq_zero_iff.1 (by omega) }; rw [h0] at hRd; exact hRd⟩)⟩ | (obtain rfl : e4 = 0 := (by omega); exact Gives.mki ⟨ar, qr, cr, T, _, true, 0, rfl, hT, har, rfl, .inr (.inr ⟨hwd, rfl, by omega, rfl, hRd, rfl⟩)⟩))
end Go.Proofs.Ythngpcaljljlaaa.Fw
