import Derived.Test.YthngpcaljljlaaaRefC
namespace Go.Proofs.Ythngpcaljljlaaa.Fw
open Go Go.Proofs
set_option linter.unusedVariables false
set_option linter.unusedSimpArgs false
set_option maxRecDepth 10000

theorem rread_g (w0 : World) (F : List Atom) (g n c : Nat) (l : List Int) (hl : l.length = n) (hc : n ≤ c) (hr : RowAt w0 F g 0 (ints .u32 l)) (hU : W32s l) (h : Nat) (h1 : h = 2 ∨ h = 3) (wd : Int) (w1 : 1 ≤ wd) (w2 : wd ≤ 16) (hn : (n : Int) = h + wd) :
    CallK Try.prog 49 [.slice (some ⟨g, 0, none⟩) n c, .int .i64 h] w0 F (Gives w0 fun v F2 => ∃ th fr a q c2 T ok, v = .tuple #[.agg #[.bool th, .bool fr, .slice a q c2], .bool ok] ∧ F2 = F ∧ IRF w0 g l a q T ∧ HeldR l h th fr T ok) := by
  by_cases hz0 : l.getD 0 0 = 0
  · exact rread_zero w0 F g n c l hl hc hr hU h h1 wd w1 w2 hn hz0
  · by_cases hbad : l.getD (h - 1) 0 < 1 ∨ (n : Int) - h < l.getD (h - 1) 0
    · exact rread_bad2 w0 F g n c l hl hc hr hU h h1 wd w1 w2 hn hz0 hbad
    · obtain ⟨m, hm⟩ := Int.eq_ofNat_of_zero_le (hU (h - 1)).1
      have hm2 : l.getD (h - 1) 0 = (m : Int) := hm
      exact rread_msg w0 F g n c l hl hc hr hU h h1 wd w1 w2 hn hz0 m hm2 (by omega) (by omega) (decide (h = 3 ∧ l.getD 1 0 = 1)) (by simp) _ rfl
theorem rstand_ok (w0 : World) (F : List Atom) (b : Nat) (wd : Int) (wd0 : -9223372036854775808 ≤ wd) (wd1 : wd ≤ 9223372036854775807) :
    CallK Try.prog 47 [.pointer (some ⟨b, 0, none⟩), .int .i64 wd] w0 (F) (Gives w0 fun v F2 => ∃ e, v = .int .i64 e ∧ F2 = F ∧ ((e = 1 ∧ ¬ WdOk wd) ∨ (e = 0 ∧ WdOk wd))) := by
  refine c_enter Try.func47 rfl rfl rfl ?_
  refine g_seq ?_
  refine g_region ?_
  refine l_assign rfl rfl ?_
  refine l_nil ?_
  refine g_seq ?_
  refine g_seq ?_
  refine g_region ?_
  refine l_move rfl rfl ?_
  refine l_eqpn rfl Try.underlying50 rfl rfl ?_
  refine l_nil ?_
  refine g_cond_f rfl ?_
  refine g_skip ?_
  refine g_seq ?_
  refine g_seq ?_
  refine g_region ?_
  refine l_move rfl rfl ?_
  refine l_lss rfl rfl rfl ?_
  refine l_move rfl rfl ?_
  refine l_split 9 rfl ?_ ?_
  · intro hbr
    have hbr := of_decide_eq_true hbr
    refine l_guard_no rfl rfl rfl ?_
    refine l_guard_no rfl rfl rfl ?_
    refine l_pick_t rfl rfl rfl ?_
    refine l_nil ?_
    refine g_cond_t rfl ?_
    refine g_seq ?_
    refine g_region ?_
    refine l_assign rfl rfl ?_
    refine l_nil ?_
    refine g_ret Try.func47 rfl (.tmp rfl .nil) ?_
    (first | exact Gives.mki ⟨1, rfl, rfl, .inl ⟨rfl, by unfold WdOk; omega⟩⟩ | exact Gives.mki ⟨0, rfl, rfl, .inr ⟨rfl, by unfold WdOk; omega⟩⟩)
  intro hbr
  have hbr := of_decide_eq_false hbr
  refine l_guard_yes rfl rfl ?_
  refine l_move rfl rfl ?_
  refine l_guard_yes rfl rfl ?_
  refine l_gtr rfl rfl rfl ?_
  refine l_pick_f rfl rfl rfl ?_
  refine l_nil ?_
  refine g_cond rfl ?_ ?_
  · intro hbr
    have hbr := of_decide_eq_true hbr
    refine g_seq ?_
    refine g_region ?_
    refine l_assign rfl rfl ?_
    refine l_nil ?_
    refine g_ret Try.func47 rfl (.tmp rfl .nil) ?_
    (first | exact Gives.mki ⟨1, rfl, rfl, .inl ⟨rfl, by unfold WdOk; omega⟩⟩ | exact Gives.mki ⟨0, rfl, rfl, .inr ⟨rfl, by unfold WdOk; omega⟩⟩)
  intro hbr
  have hbr := of_decide_eq_false hbr
  refine g_skip ?_
  refine g_seq ?_
  refine g_region ?_
  refine l_assign rfl rfl ?_
  refine l_nil ?_
  refine g_ret Try.func47 rfl (.tmp rfl .nil) ?_
  (first | exact Gives.mki ⟨1, rfl, rfl, .inl ⟨rfl, by unfold WdOk; omega⟩⟩ | exact Gives.mki ⟨0, rfl, rfl, .inr ⟨rfl, by unfold WdOk; omega⟩⟩)
set_option maxHeartbeats 4000000 in
theorem rstaged_in (w0 : World) (F : List Atom) (b g n c : Nat) (W : List Int) (hW : W.length = n) (hc : n ≤ c) (hn : n ≤ 1073741824) (hU : W32s W) (h16 : n % 16 = 0) (at_ : Int) (at_0 : -9223372036854775808 ≤ at_) (at_1 : at_ ≤ 9223372036854775807) (wd : Int) (wd0 : -9223372036854775808 ≤ wd) (wd1 : wd ≤ 9223372036854775807) (hi : inR n at_ (2 + wd)) :
    CallK Try.prog 39 [.pointer (some ⟨b, 0, none⟩), .int .i64 at_, .int .i64 wd] w0 (Blk b (.cells [Value.slice (some ⟨g, 0, none⟩) n c].toArray 58 (0, 0)) :: Own 28 1 (.slice (some ⟨g, 0, none⟩) n c) n (ints .u32 W) :: F) (Gives w0 fun v F2 => ∃ k e, v = .tuple #[.int .i64 k, .int .i64 e] ∧ F2 = Blk b (.cells [Value.slice (some ⟨g, 0, none⟩) n c].toArray 58 (0, 0)) :: Own 28 1 (.slice (some ⟨g, 0, none⟩) n c) n (ints .u32 W) :: F ∧ StgG W n at_ wd k e) := by
  refine c_enter Try.func39 rfl rfl rfl ?_
  refine g_seq ?_
  refine g_region ?_
  refine l_assign rfl rfl ?_
  refine l_assign rfl rfl ?_
  refine l_nil ?_
  refine g_seq ?_
  refine g_region ?_
  refine l_move rfl rfl ?_
  refine l_move rfl rfl ?_
  refine l_call rfl Try.call47 rfl (rstand_ok _ _ b wd wd0 wd1) ?_; rintro _ F9 ⟨e1, rfl, hF9, he1⟩; rw [hF9]; clear hF9 F9
  unfold WdOk at he1
  refine l_assign rfl rfl ?_
  refine l_nil ?_
  refine g_seq ?_
  refine g_seq ?_
  refine g_region ?_
  refine l_move rfl rfl ?_
  refine l_neq rfl rfl rfl ?_
  refine l_nil ?_
  refine g_cond rfl ?_ ?_
  · intro hbr
    have hbr := of_decide_eq_true hbr
    refine g_seq ?_
    refine g_region ?_
    refine l_move rfl rfl ?_
    refine l_assign rfl rfl ?_
    refine l_assign rfl rfl ?_
    refine l_nil ?_
    refine g_ret Try.func39 rfl (.tmp rfl (.tmp rfl .nil)) ?_
    (first | exact Gives.mki ⟨0, e1, rfl, rfl, .inl ⟨by unfold WdOk; omega, by omega, rfl⟩⟩ | exact Gives.mki ⟨0, 191, rfl, rfl, .inr ⟨hwd, [], .inr (.inl ⟨rfl, rfl, hi, by rcases hR with ⟨h, _⟩ | ⟨_, _, _, _, h⟩; (subst h; simp_all); exact h⟩), rfl⟩⟩ | exact Gives.mki ⟨1, 0, rfl, rfl, .inr ⟨hwd, T, .inr (.inr ⟨rfl, hi, by rcases hR with ⟨_, h, _⟩ | ⟨h, _⟩; exact h; (subst h; simp_all)⟩), by rcases hR with ⟨_, _, h, _⟩ | ⟨h, _⟩; (have h5 : 0 < T.length := of_decide_eq_true (h.symm.trans hb38)); omega; (subst h; simp_all)⟩⟩ | exact Gives.mki ⟨0, 0, rfl, rfl, .inr ⟨hwd, T, .inr (.inr ⟨rfl, hi, by rcases hR with ⟨_, h, _⟩ | ⟨h, _⟩; exact h; (subst h; simp_all)⟩), by rcases hR with ⟨_, _, h, _⟩ | ⟨h, _⟩; (have h5 : ¬ 0 < T.length := of_decide_eq_false (h.symm.trans hb38)); omega; (subst h; simp_all)⟩⟩)
  intro hbr
  have hbr := of_decide_eq_false hbr
  refine g_skip ?_
  refine g_seq ?_
  refine g_region ?_
  refine l_move rfl rfl ?_
  refine l_move rfl rfl ?_
  refine l_move rfl rfl ?_
  first | refine l_add rfl rfl rfl (w_i64 (by omega) (by omega)) ?_ | refine l_addw rfl rfl rfl ?_
  have hwd : WdOk wd := by unfold WdOk; omega
  have hi2 := hi
  unfold inR at hi2
  refine l_call rfl Try.call48 rfl (rtake_ok _ _ b g n c W hW hc hn at_ (2 + wd) (by omega) (by omega) hi) ?_; rintro _ _ ⟨a9, c9, rfl, ha9, rfl⟩
  obtain ⟨q9, rfl⟩ := ha9.resolve_left (by omega)
  clear ha9
  have hpl := part_len hW hi
  rw [show part W at_ (((2 + wd).toNat : Nat) : Int) = part W at_ (2 + wd) by rw [Int.toNat_of_nonneg (by omega)]]
  refine l_fact (own_cases (mem_getO 0 rfl)) ?_; intro hown
  have hc9 : (2 + wd).toNat ≤ c9 := by
    rcases hown.2.2 with ⟨h, _⟩ | ⟨g9, cp, h, h2⟩
    · cases h
    · cases h
      exact h2
  clear hown
  refine l_move rfl rfl ?_
  refine l_extract rfl rfl rfl ?_
  refine l_extract rfl rfl rfl ?_
  refine l_assign rfl rfl ?_
  refine l_assign rfl rfl ?_
  refine l_nil ?_
  refine g_seq ?_
  refine g_seq ?_
  refine g_region ?_
  refine l_move rfl rfl ?_
  refine l_neq rfl rfl rfl ?_
  refine l_nil ?_
  refine g_cond rfl ?_ ?_
  · intro hbr
    have hbr := of_decide_eq_true hbr
    (exfalso; omega)
  intro hbr
  have hbr := of_decide_eq_false hbr
  refine g_skip ?_
  refine g_seq ?_
  refine g_region ?_
  refine l_move rfl rfl ?_
  refine l_call rfl Try.call49 rfl (rread_g _ _ q9 (2 + wd).toNat c9 (part W at_ (2 + wd)) hpl hc9 (.own (mem_getO 0 rfl)) (hU.part _ _) 2 (by omega) wd (by omega) (by omega) (Int.toNat_of_nonneg (show 0 ≤ 2 + wd from Int.add_nonneg (by decide) (Int.le_trans (by decide) hwd.1)))) ?_; rintro _ F9 ⟨th, fr, ar, qr, cr, T, ok, rfl, hF9, hIR0, hR⟩
  have hIR := hIR0 F9 (by rw [hF9]; exact .own (mem_getO 0 rfl))
  rw [hF9] at hIR ⊢
  clear hIR0 hF9 F9
  refine l_move rfl rfl ?_
  refine l_extract rfl rfl rfl ?_
  refine l_extract rfl rfl rfl ?_
  refine l_allocs rfl Try.zeroValue85 ?_; intro b11
  refine l_sts Try.sizeOf85 rfl rfl rfl rfl rfl ?_
  refine l_assign rfl rfl ?_
  refine l_nil ?_
  refine g_seq ?_
  refine g_seq ?_
  refine g_region ?_
  refine l_move rfl rfl ?_
  refine l_not rfl rfl ?_
  refine l_nil ?_
  refine g_cond rfl ?_ ?_
  · intro hbr
    have hb36 := hbr
    refine g_seq ?_
    refine g_region ?_
    refine l_assign rfl rfl ?_
    refine l_assign rfl rfl ?_
    refine l_nil ?_
    refine g_ret Try.func39 rfl (.tmp rfl (.tmp rfl .nil)) ?_
    (first | exact Gives.mki ⟨0, e1, rfl, rfl, .inl ⟨by unfold WdOk; omega, by omega, rfl⟩⟩ | exact Gives.mki ⟨0, 191, rfl, rfl, .inr ⟨hwd, [], .inr (.inl ⟨rfl, rfl, hi, by rcases hR with ⟨h, _⟩ | ⟨_, _, _, _, h⟩; (subst h; simp_all); exact h⟩), rfl⟩⟩ | exact Gives.mki ⟨1, 0, rfl, rfl, .inr ⟨hwd, T, .inr (.inr ⟨rfl, hi, by rcases hR with ⟨_, h, _⟩ | ⟨h, _⟩; exact h; (subst h; simp_all)⟩), by rcases hR with ⟨_, _, h, _⟩ | ⟨h, _⟩; (have h5 : 0 < T.length := of_decide_eq_true (h.symm.trans hb38)); omega; (subst h; simp_all)⟩⟩ | exact Gives.mki ⟨0, 0, rfl, rfl, .inr ⟨hwd, T, .inr (.inr ⟨rfl, hi, by rcases hR with ⟨_, h, _⟩ | ⟨h, _⟩; exact h; (subst h; simp_all)⟩), by rcases hR with ⟨_, _, h, _⟩ | ⟨h, _⟩; (have h5 : ¬ 0 < T.length := of_decide_eq_false (h.symm.trans hb38)); omega; (subst h; simp_all)⟩⟩)
  intro hbr
  have hb36 := hbr
  refine g_skip ?_
  refine g_seq ?_
  refine g_seq ?_
  refine g_region ?_
  refine l_fieldAddr rfl fa_85_0 rfl ?_
  refine l_ld rfl Try.isAgg4 rfl rfl ?_
  refine l_nil ?_
  refine g_cond rfl ?_ ?_
  · intro hbr
    have hb38 := hbr
    refine g_seq ?_
    refine g_region ?_
    refine l_assign rfl rfl ?_
    refine l_assign rfl rfl ?_
    refine l_nil ?_
    refine g_ret Try.func39 rfl (.tmp rfl (.tmp rfl .nil)) ?_
    (first | exact Gives.mki ⟨0, e1, rfl, rfl, .inl ⟨by unfold WdOk; omega, by omega, rfl⟩⟩ | exact Gives.mki ⟨0, 191, rfl, rfl, .inr ⟨hwd, [], .inr (.inl ⟨rfl, rfl, hi, by rcases hR with ⟨h, _⟩ | ⟨_, _, _, _, h⟩; (subst h; simp_all); exact h⟩), rfl⟩⟩ | exact Gives.mki ⟨1, 0, rfl, rfl, .inr ⟨hwd, T, .inr (.inr ⟨rfl, hi, by rcases hR with ⟨_, h, _⟩ | ⟨h, _⟩; exact h; (subst h; simp_all)⟩), by rcases hR with ⟨_, _, h, _⟩ | ⟨h, _⟩; (have h5 : 0 < T.length := of_decide_eq_true (h.symm.trans hb38)); omega; (subst h; simp_all)⟩⟩ | exact Gives.mki ⟨0, 0, rfl, rfl, .inr ⟨hwd, T, .inr (.inr ⟨rfl, hi, by rcases hR with ⟨_, h, _⟩ | ⟨h, _⟩; exact h; (subst h; simp_all)⟩), by rcases hR with ⟨_, _, h, _⟩ | ⟨h, _⟩; (have h5 : ¬ 0 < T.length := of_decide_eq_false (h.symm.trans hb38)); omega; (subst h; simp_all)⟩⟩)
  intro hbr
  have hb38 := hbr
  refine g_skip ?_
  refine g_seq ?_
  refine g_region ?_
  refine l_assign rfl rfl ?_
  refine l_assign rfl rfl ?_
  refine l_nil ?_
  refine g_ret Try.func39 rfl (.tmp rfl (.tmp rfl .nil)) ?_
  (first | exact Gives.mki ⟨0, e1, rfl, rfl, .inl ⟨by unfold WdOk; omega, by omega, rfl⟩⟩ | exact Gives.mki ⟨0, 191, rfl, rfl, .inr ⟨hwd, [], .inr (.inl ⟨rfl, rfl, hi, by rcases hR with ⟨h, _⟩ | ⟨_, _, _, _, h⟩; (subst h; simp_all); exact h⟩), rfl⟩⟩ | exact Gives.mki ⟨1, 0, rfl, rfl, .inr ⟨hwd, T, .inr (.inr ⟨rfl, hi, by rcases hR with ⟨_, h, _⟩ | ⟨h, _⟩; exact h; (subst h; simp_all)⟩), by rcases hR with ⟨_, _, h, _⟩ | ⟨h, _⟩; (have h5 : 0 < T.length := of_decide_eq_true (h.symm.trans hb38)); omega; (subst h; simp_all)⟩⟩ | exact Gives.mki ⟨0, 0, rfl, rfl, .inr ⟨hwd, T, .inr (.inr ⟨rfl, hi, by rcases hR with ⟨_, h, _⟩ | ⟨h, _⟩; exact h; (subst h; simp_all)⟩), by rcases hR with ⟨_, _, h, _⟩ | ⟨h, _⟩; (have h5 : ¬ 0 < T.length := of_decide_eq_false (h.symm.trans hb38)); omega; (subst h; simp_all)⟩⟩)
theorem rstaged_out (w0 : World) (F : List Atom) (b g n c : Nat) (W : List Int) (hW : W.length = n) (hc : n ≤ c) (hn : n ≤ 1073741824) (hU : W32s W) (h16 : n % 16 = 0) (at_ : Int) (at_0 : -9223372036854775808 ≤ at_) (at_1 : at_ ≤ 9223372036854775807) (wd : Int) (wd0 : -9223372036854775808 ≤ wd) (wd1 : wd ≤ 9223372036854775807) (hi : ¬ inR n at_ (2 + wd)) :
    CallK Try.prog 39 [.pointer (some ⟨b, 0, none⟩), .int .i64 at_, .int .i64 wd] w0 (Blk b (.cells [Value.slice (some ⟨g, 0, none⟩) n c].toArray 58 (0, 0)) :: Own 28 1 (.slice (some ⟨g, 0, none⟩) n c) n (ints .u32 W) :: F) (Gives w0 fun v F2 => ∃ k e, v = .tuple #[.int .i64 k, .int .i64 e] ∧ F2 = Blk b (.cells [Value.slice (some ⟨g, 0, none⟩) n c].toArray 58 (0, 0)) :: Own 28 1 (.slice (some ⟨g, 0, none⟩) n c) n (ints .u32 W) :: F ∧ StgG W n at_ wd k e) := by
  refine c_enter Try.func39 rfl rfl rfl ?_
  refine g_seq ?_
  refine g_region ?_
  refine l_assign rfl rfl ?_
  refine l_assign rfl rfl ?_
  refine l_nil ?_
  refine g_seq ?_
  refine g_region ?_
  refine l_move rfl rfl ?_
  refine l_move rfl rfl ?_
  refine l_call rfl Try.call47 rfl (rstand_ok _ _ b wd wd0 wd1) ?_; rintro _ F9 ⟨e1, rfl, hF9, he1⟩; rw [hF9]; clear hF9 F9
  unfold WdOk at he1
  refine l_assign rfl rfl ?_
  refine l_nil ?_
  refine g_seq ?_
  refine g_seq ?_
  refine g_region ?_
  refine l_move rfl rfl ?_
  refine l_neq rfl rfl rfl ?_
  refine l_nil ?_
  refine g_cond rfl ?_ ?_
  · intro hbr
    have hbr := of_decide_eq_true hbr
    refine g_seq ?_
    refine g_region ?_
    refine l_move rfl rfl ?_
    refine l_assign rfl rfl ?_
    refine l_assign rfl rfl ?_
    refine l_nil ?_
    refine g_ret Try.func39 rfl (.tmp rfl (.tmp rfl .nil)) ?_
    (first | exact Gives.mki ⟨0, e1, rfl, rfl, .inl ⟨by unfold WdOk; omega, by omega, rfl⟩⟩ | exact Gives.mki ⟨0, 51, rfl, rfl, .inr ⟨by unfold WdOk; omega, [], .inl ⟨rfl, rfl, hi⟩, rfl⟩⟩)
  intro hbr
  have hbr := of_decide_eq_false hbr
  refine g_skip ?_
  refine g_seq ?_
  refine g_region ?_
  refine l_move rfl rfl ?_
  refine l_move rfl rfl ?_
  refine l_move rfl rfl ?_
  first | refine l_add rfl rfl rfl (w_i64 (by omega) (by omega)) ?_ | refine l_addw rfl rfl rfl ?_
  refine l_call rfl Try.call48 rfl (rtake_bad _ _ b g n c W hW hc hn at_ (2 + wd) (by omega) (by omega) (by omega) (by omega) hi) ?_; rintro _ _ ⟨rfl, rfl⟩
  refine l_move rfl rfl ?_
  refine l_extract rfl rfl rfl ?_
  refine l_extract rfl rfl rfl ?_
  refine l_assign rfl rfl ?_
  refine l_assign rfl rfl ?_
  refine l_nil ?_
  refine g_seq ?_
  refine g_seq ?_
  refine g_region ?_
  refine l_move rfl rfl ?_
  refine l_neq rfl rfl rfl ?_
  refine l_nil ?_
  refine g_cond rfl ?_ ?_
  · intro hbr
    have hbr := of_decide_eq_true hbr
    refine g_seq ?_
    refine g_region ?_
    refine l_move rfl rfl ?_
    refine l_assign rfl rfl ?_
    refine l_assign rfl rfl ?_
    refine l_nil ?_
    refine g_ret Try.func39 rfl (.tmp rfl (.tmp rfl .nil)) ?_
    (first | exact Gives.mki ⟨0, e1, rfl, rfl, .inl ⟨by unfold WdOk; omega, by omega, rfl⟩⟩ | exact Gives.mki ⟨0, 51, rfl, rfl, .inr ⟨by unfold WdOk; omega, [], .inl ⟨rfl, rfl, hi⟩, rfl⟩⟩)
  · intro hbr
    have hbr := of_decide_eq_false hbr
    (exfalso; omega)
end Go.Proofs.Ythngpcaljljlaaa.Fw
