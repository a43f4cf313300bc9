import Derived.Test.YthngpcaljljlaaaRefF0
namespace Go.Proofs.Ythngpcaljljlaaa.Fw
open Go Go.Proofs
set_option linter.unusedVariables false
set_option linter.unusedSimpArgs false
set_option maxRecDepth 10000

set_option maxHeartbeats 4000000 in
theorem rreadp_in (w0 : World) (F : List Atom) (b g n c : Nat) (W : List Int) (hW : W.length = n) (hc : n ≤ c) (hn : n ≤ 1073741824) (hU : W32s W) (h16 : n % 16 = 0) (at_ : Int) (at_0 : -9223372036854775808 ≤ at_) (at_1 : at_ ≤ 9223372036854775807) (wd : Int) (wd0 : -9223372036854775808 ≤ wd) (wd1 : wd ≤ 9223372036854775807) (hi : inR n at_ (3 + wd)) :
    CallK Try.prog 42 [.pointer (some ⟨b, 0, none⟩), .int .i64 at_, .int .i64 wd] w0 (Blk b (.cells [Value.slice (some ⟨g, 0, none⟩) n c].toArray 58 (0, 0)) :: Own 28 1 (.slice (some ⟨g, 0, none⟩) n c) n (ints .u32 W) :: F) (Gives w0 fun v F2 => ∃ a q c2 T fr th e a0 q0 c0 X0, v = .tuple #[.slice a q c2, .bool fr, .bool th, .int .i64 e] ∧ F2 = Own 28 1 (.slice a0 q0 c0) q0 (ints .u32 X0) :: Blk b (.cells [Value.slice (some ⟨g, 0, none⟩) n c].toArray 58 (0, 0)) :: Own 28 1 (.slice (some ⟨g, 0, none⟩) n c) n (ints .u32 W) :: F ∧ IR w0 F2 .u32 a q T ∧ RdpG W n at_ wd T fr th e) := by
  refine c_enter Try.func42 rfl rfl rfl ?_
  refine g_seq ?_
  refine g_region ?_
  refine l_assign rfl rfl ?_
  refine l_assign rfl rfl ?_
  refine l_assign rfl rfl ?_
  refine l_assign rfl rfl ?_
  refine l_nil ?_
  refine g_seq ?_
  refine g_region ?_
  refine l_move rfl rfl ?_
  refine l_move rfl rfl ?_
  refine l_call rfl Try.call47 rfl (rstand_ok _ _ b wd wd0 wd1) ?_; rintro _ F9 ⟨e1, rfl, hF9, he1⟩; rw [hF9]; clear hF9 F9
  unfold WdOk at he1
  refine l_assign rfl rfl ?_
  refine l_nil ?_
  refine g_seq ?_
  refine g_seq ?_
  refine g_region ?_
  refine l_move rfl rfl ?_
  refine l_neq rfl rfl rfl ?_
  refine l_nil ?_
  refine g_cond rfl ?_ ?_
  · intro hbr
    have hbr := of_decide_eq_true hbr
    refine g_seq ?_
    refine g_region ?_
    refine l_move rfl rfl ?_
    refine l_assign rfl rfl ?_
    refine l_assign rfl rfl ?_
    refine l_assign rfl rfl ?_
    refine l_assign rfl rfl ?_
    refine l_nil ?_
    refine g_wnil 28 .u32 ?_
    refine g_ret Try.func42 rfl (.tmp rfl (.tmp rfl (.tmp rfl (.tmp rfl .nil)))) ?_
    (first | exact Gives.mki ⟨none, 0, 0, [], false, false, e1, none, 0, 0, [], rfl, rfl, ⟨rfl, .inl rfl⟩, .inl ⟨by omega, by unfold WdOk; omega, rfl, rfl, rfl⟩⟩ | exact Gives.mki ⟨none, 0, 0, [], false, false, 191, none, 0, 0, [], rfl, rfl, ⟨rfl, .inl rfl⟩, .inr (.inl ⟨hwd, rfl, rfl, rfl, .inr (.inl ⟨rfl, rfl, hi, by rcases hR with ⟨h, _⟩ | ⟨_, _, _, _, h⟩; (subst h; simp_all); exact h⟩)⟩)⟩ | exact Gives.mki ⟨ar, qr, cr, T, fr, th, 0, _, _, _, _, rfl, rfl, hIR, rdp_of hwd hi hpl hR (by cases ok <;> simp_all)⟩)
  intro hbr
  have hbr := of_decide_eq_false hbr
  refine g_skip ?_
  refine g_seq ?_
  refine g_region ?_
  refine l_move rfl rfl ?_
  refine l_move rfl rfl ?_
  refine l_move rfl rfl ?_
  first | refine l_add rfl rfl rfl (w_i64 (by omega) (by omega)) ?_ | refine l_addw rfl rfl rfl ?_
  have hwd : WdOk wd := by unfold WdOk; omega
  have hi2 := hi
  unfold inR at hi2
  refine l_call rfl Try.call48 rfl (rtake_ok _ _ b g n c W hW hc hn at_ (3 + wd) (by omega) (by omega) hi) ?_; rintro _ _ ⟨a9, c9, rfl, ha9, rfl⟩
  obtain ⟨q9, rfl⟩ := ha9.resolve_left (by omega)
  clear ha9
  have hpl := part_len hW hi
  rw [show part W at_ (((3 + wd).toNat : Nat) : Int) = part W at_ (3 + wd) by rw [Int.toNat_of_nonneg (by omega)]]
  refine l_fact (own_cases (mem_getO 0 rfl)) ?_; intro hown
  have hc9 : (3 + wd).toNat ≤ c9 := by
    rcases hown.2.2 with ⟨h, _⟩ | ⟨g9, cp, h, h2⟩
    · cases h
    · cases h
      exact h2
  clear hown
  refine l_move rfl rfl ?_
  refine l_extract rfl rfl rfl ?_
  refine l_extract rfl rfl rfl ?_
  refine l_assign rfl rfl ?_
  refine l_assign rfl rfl ?_
  refine l_nil ?_
  refine g_seq ?_
  refine g_seq ?_
  refine g_region ?_
  refine l_move rfl rfl ?_
  refine l_neq rfl rfl rfl ?_
  refine l_nil ?_
  refine g_cond rfl ?_ ?_
  · intro hbr
    have hbr := of_decide_eq_true hbr
    (exfalso; omega)
  intro hbr
  have hbr := of_decide_eq_false hbr
  refine g_skip ?_
  refine g_seq ?_
  refine g_region ?_
  refine l_move rfl rfl ?_
  refine l_call rfl Try.call49 rfl (rread_g _ _ q9 (3 + wd).toNat c9 (part W at_ (3 + wd)) hpl hc9 (.own (mem_getO 0 rfl)) (hU.part _ _) 3 (by omega) wd (by omega) (by omega) (Int.toNat_of_nonneg (show 0 ≤ 3 + wd from Int.add_nonneg (by decide) (Int.le_trans (by decide) hwd.1)))) ?_; rintro _ F9 ⟨th, fr, ar, qr, cr, T, ok, rfl, hF9, hIR0, hR⟩
  have hIR := hIR0 F9 (by rw [hF9]; exact .own (mem_getO 0 rfl))
  rw [hF9] at hIR ⊢
  clear hIR0 hF9 F9
  refine l_move rfl rfl ?_
  refine l_extract rfl rfl rfl ?_
  refine l_extract rfl rfl rfl ?_
  refine l_allocs rfl Try.zeroValue85 ?_; intro b13
  refine l_sts Try.sizeOf85 rfl rfl rfl rfl rfl ?_
  refine l_assign rfl rfl ?_
  refine l_nil ?_
  refine g_seq ?_
  refine g_seq ?_
  refine g_region ?_
  refine l_move rfl rfl ?_
  refine l_not rfl rfl ?_
  refine l_nil ?_
  refine g_cond rfl ?_ ?_
  · intro hbr
    have hb38 := hbr
    refine g_seq ?_
    refine g_region ?_
    refine l_assign rfl rfl ?_
    refine l_assign rfl rfl ?_
    refine l_assign rfl rfl ?_
    refine l_assign rfl rfl ?_
    refine l_nil ?_
    refine g_wnil 28 .u32 ?_
    refine g_ret Try.func42 rfl (.tmp rfl (.tmp rfl (.tmp rfl (.tmp rfl .nil)))) ?_
    (first | exact Gives.mki ⟨none, 0, 0, [], false, false, e1, none, 0, 0, [], rfl, rfl, ⟨rfl, .inl rfl⟩, .inl ⟨by omega, by unfold WdOk; omega, rfl, rfl, rfl⟩⟩ | exact Gives.mki ⟨none, 0, 0, [], false, false, 191, none, 0, 0, [], rfl, rfl, ⟨rfl, .inl rfl⟩, .inr (.inl ⟨hwd, rfl, rfl, rfl, .inr (.inl ⟨rfl, rfl, hi, by rcases hR with ⟨h, _⟩ | ⟨_, _, _, _, h⟩; (subst h; simp_all); exact h⟩)⟩)⟩ | exact Gives.mki ⟨ar, qr, cr, T, fr, th, 0, _, _, _, _, rfl, rfl, hIR, rdp_of hwd hi hpl hR (by cases ok <;> simp_all)⟩)
  intro hbr
  have hb38 := hbr
  refine g_skip ?_
  refine g_seq ?_
  refine gp_start mo (by kernel_rfl) (by kernel_rfl) ?_
  refine gp_quiet 0 rfl rfl rfl rfl rfl rfl (q_fieldAddr fa_85_2 rfl) ?_
  refine gp_quiet 1 rfl rfl rfl rfl rfl rfl (q_ld Try.isAgg29 rfl rfl) ?_
  refine gp_quiet 2 rfl rfl rfl rfl rfl rfl (q_fieldAddr fa_85_1 rfl) ?_
  refine gp_quiet 3 rfl rfl rfl rfl rfl rfl (q_ld Try.isAgg4 rfl rfl) ?_
  refine gp_quiet 4 rfl rfl rfl rfl rfl rfl (q_fieldAddr fa_85_0 rfl) ?_
  refine gp_quiet 5 rfl rfl rfl rfl rfl rfl (q_ld Try.isAgg4 rfl rfl) ?_
  refine gp_quiet 6 rfl rfl rfl rfl rfl rfl (q_assign rfl) ?_
  refine gp_quiet 7 rfl rfl rfl rfl rfl rfl (q_assign rfl) ?_
  refine gp_quiet 8 rfl rfl rfl rfl rfl rfl (q_assign rfl) ?_
  refine gp_quiet 9 rfl rfl rfl rfl rfl rfl (q_assign rfl) ?_
  refine gp_end rfl rfl ?_
  refine g_wnil 28 .u32 ?_
  refine g_ret Try.func42 rfl (.tmp rfl (.tmp rfl (.tmp rfl (.tmp rfl .nil)))) ?_
  (first | exact Gives.mki ⟨none, 0, 0, [], false, false, e1, none, 0, 0, [], rfl, rfl, ⟨rfl, .inl rfl⟩, .inl ⟨by omega, by unfold WdOk; omega, rfl, rfl, rfl⟩⟩ | exact Gives.mki ⟨none, 0, 0, [], false, false, 191, none, 0, 0, [], rfl, rfl, ⟨rfl, .inl rfl⟩, .inr (.inl ⟨hwd, rfl, rfl, rfl, .inr (.inl ⟨rfl, rfl, hi, by rcases hR with ⟨h, _⟩ | ⟨_, _, _, _, h⟩; (subst h; simp_all); exact h⟩)⟩)⟩ | exact Gives.mki ⟨ar, qr, cr, T, fr, th, 0, _, _, _, _, rfl, rfl, hIR, rdp_of hwd hi hpl hR (by cases ok <;> simp_all)⟩)
theorem rreadp_out (w0 : World) (F : List Atom) (b g n c : Nat) (W : List Int) (hW : W.length = n) (hc : n ≤ c) (hn : n ≤ 1073741824) (hU : W32s W) (h16 : n % 16 = 0) (at_ : Int) (at_0 : -9223372036854775808 ≤ at_) (at_1 : at_ ≤ 9223372036854775807) (wd : Int) (wd0 : -9223372036854775808 ≤ wd) (wd1 : wd ≤ 9223372036854775807) (hi : ¬ inR n at_ (3 + wd)) :
    CallK Try.prog 42 [.pointer (some ⟨b, 0, none⟩), .int .i64 at_, .int .i64 wd] w0 (Blk b (.cells [Value.slice (some ⟨g, 0, none⟩) n c].toArray 58 (0, 0)) :: Own 28 1 (.slice (some ⟨g, 0, none⟩) n c) n (ints .u32 W) :: F) (Gives w0 fun v F2 => ∃ a q c2 T fr th e a0 q0 c0 X0, v = .tuple #[.slice a q c2, .bool fr, .bool th, .int .i64 e] ∧ F2 = Own 28 1 (.slice a0 q0 c0) q0 (ints .u32 X0) :: Blk b (.cells [Value.slice (some ⟨g, 0, none⟩) n c].toArray 58 (0, 0)) :: Own 28 1 (.slice (some ⟨g, 0, none⟩) n c) n (ints .u32 W) :: F ∧ IR w0 F2 .u32 a q T ∧ RdpG W n at_ wd T fr th e) := by
  refine c_enter Try.func42 rfl rfl rfl ?_
  refine g_seq ?_
  refine g_region ?_
  refine l_assign rfl rfl ?_
  refine l_assign rfl rfl ?_
  refine l_assign rfl rfl ?_
  refine l_assign rfl rfl ?_
  refine l_nil ?_
  refine g_seq ?_
  refine g_region ?_
  refine l_move rfl rfl ?_
  refine l_move rfl rfl ?_
  refine l_call rfl Try.call47 rfl (rstand_ok _ _ b wd wd0 wd1) ?_; rintro _ F9 ⟨e1, rfl, hF9, he1⟩; rw [hF9]; clear hF9 F9
  unfold WdOk at he1
  refine l_assign rfl rfl ?_
  refine l_nil ?_
  refine g_seq ?_
  refine g_seq ?_
  refine g_region ?_
  refine l_move rfl rfl ?_
  refine l_neq rfl rfl rfl ?_
  refine l_nil ?_
  refine g_cond rfl ?_ ?_
  · intro hbr
    have hbr := of_decide_eq_true hbr
    refine g_seq ?_
    refine g_region ?_
    refine l_move rfl rfl ?_
    refine l_assign rfl rfl ?_
    refine l_assign rfl rfl ?_
    refine l_assign rfl rfl ?_
    refine l_assign rfl rfl ?_
    refine l_nil ?_
    refine g_wnil 28 .u32 ?_
    refine g_ret Try.func42 rfl (.tmp rfl (.tmp rfl (.tmp rfl (.tmp rfl .nil)))) ?_
    (first | exact Gives.mki ⟨none, 0, 0, [], false, false, e1, none, 0, 0, [], rfl, rfl, ⟨rfl, .inl rfl⟩, .inl ⟨by omega, by unfold WdOk; omega, rfl, rfl, rfl⟩⟩ | exact Gives.mki ⟨none, 0, 0, [], false, false, 51, none, 0, 0, [], rfl, rfl, ⟨rfl, .inl rfl⟩, .inr (.inl ⟨by unfold WdOk; omega, rfl, rfl, rfl, .inl ⟨rfl, rfl, hi⟩⟩)⟩)
  intro hbr
  have hbr := of_decide_eq_false hbr
  refine g_skip ?_
  refine g_seq ?_
  refine g_region ?_
  refine l_move rfl rfl ?_
  refine l_move rfl rfl ?_
  refine l_move rfl rfl ?_
  first | refine l_add rfl rfl rfl (w_i64 (by omega) (by omega)) ?_ | refine l_addw rfl rfl rfl ?_
  refine l_call rfl Try.call48 rfl (rtake_bad _ _ b g n c W hW hc hn at_ (3 + wd) (by omega) (by omega) (by omega) (by omega) hi) ?_; rintro _ _ ⟨rfl, rfl⟩
  refine l_move rfl rfl ?_
  refine l_extract rfl rfl rfl ?_
  refine l_extract rfl rfl rfl ?_
  refine l_assign rfl rfl ?_
  refine l_assign rfl rfl ?_
  refine l_nil ?_
  refine g_seq ?_
  refine g_seq ?_
  refine g_region ?_
  refine l_move rfl rfl ?_
  refine l_neq rfl rfl rfl ?_
  refine l_nil ?_
  refine g_cond rfl ?_ ?_
  · intro hbr
    have hbr := of_decide_eq_true hbr
    refine g_seq ?_
    refine g_region ?_
    refine l_move rfl rfl ?_
    refine l_assign rfl rfl ?_
    refine l_assign rfl rfl ?_
    refine l_assign rfl rfl ?_
    refine l_assign rfl rfl ?_
    refine l_nil ?_
    refine g_wnil 28 .u32 ?_
    refine g_ret Try.func42 rfl (.tmp rfl (.tmp rfl (.tmp rfl (.tmp rfl .nil)))) ?_
    (first | exact Gives.mki ⟨none, 0, 0, [], false, false, e1, none, 0, 0, [], rfl, rfl, ⟨rfl, .inl rfl⟩, .inl ⟨by omega, by unfold WdOk; omega, rfl, rfl, rfl⟩⟩ | exact Gives.mki ⟨none, 0, 0, [], false, false, 51, none, 0, 0, [], rfl, rfl, ⟨rfl, .inl rfl⟩, .inr (.inl ⟨by unfold WdOk; omega, rfl, rfl, rfl, .inl ⟨rfl, rfl, hi⟩⟩)⟩)
  · intro hbr
    have hbr := of_decide_eq_false hbr
    (exfalso; omega)
end Go.Proofs.Ythngpcaljljlaaa.Fw
