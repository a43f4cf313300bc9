import Derived.Test.YthngpcaljljlaaaRefD
namespace Go.Proofs.Ythngpcaljljlaaa.Fw
open Go Go.Proofs
set_option linter.unusedVariables false
set_option linter.unusedSimpArgs false
set_option maxRecDepth 10000
theorem bd_85_0_2 (a0_0 : Bool) (a2_0 : Option Addr) (n2_0 c2_0 : Nat) (w : World) : (Instr.build 85 #[(0, .bool a0_0), (2, .slice a2_0 n2_0 c2_0)]).run Try.prog w = .ok (.agg #[.bool a0_0, .bool false, .slice a2_0 n2_0 c2_0]) w := by kernel_rfl
theorem wd_stage (M : List Int) (wd : Int) : wdV true false M 2 wd = stageW M wd := by
  unfold wdV stageW wdB
  rw [if_pos rfl, if_neg (by simp)]
  rfl
set_option maxHeartbeats 4000000 in
theorem rput_in (w0 : World) (F : List Atom) (b g n c : Nat) (W : List Int) (hW : W.length = n) (hc : n ≤ c) (hn : n ≤ 1073741824) (hU : W32s W) (h16 : n % 16 = 0) (at_ : Int) (at_0 : -9223372036854775808 ≤ at_) (at_1 : at_ ≤ 9223372036854775807) (wd : Int) (wd0 : -9223372036854775808 ≤ wd) (wd1 : wd ≤ 9223372036854775807) (a : Option Addr) (q qc : Nat) (M : List Int) (hM : IR w0 F .u32 a q M) (hMU : W32s M) (hq : q ≤ 9223372036854775807) (hi : inR n at_ (2 + wd)) :
    CallK Try.prog 38 [.pointer (some ⟨b, 0, none⟩), .int .i64 at_, .int .i64 wd, .slice a q qc] w0 (Blk b (.cells [Value.slice (some ⟨g, 0, none⟩) n c].toArray 58 (0, 0)) :: Own 28 1 (.slice (some ⟨g, 0, none⟩) n c) n (ints .u32 W) :: F) (Gives w0 fun v F2 => ∃ W2 e, v = .int .i64 e ∧ W2.length = n ∧ F2 = Blk b (.cells [Value.slice (some ⟨g, 0, none⟩) n c].toArray 58 (0, 0)) :: Own 28 1 (.slice (some ⟨g, 0, none⟩) n c) n (ints .u32 W2) :: F ∧ PutG W n at_ wd M W2 e) := by
  have hMl := hM.1
  refine c_enter Try.func38 rfl rfl rfl ?_
  refine g_seq ?_
  refine g_region ?_
  refine l_assign rfl rfl ?_
  refine l_nil ?_
  refine g_seq ?_
  refine g_region ?_
  refine l_move rfl rfl ?_
  refine l_move rfl rfl ?_
  refine l_call rfl Try.call47 rfl (rstand_ok _ _ b wd wd0 wd1) ?_; rintro _ F9 ⟨e1, rfl, hF9, he1⟩; rw [hF9]; clear hF9 F9
  unfold WdOk at he1
  refine l_assign rfl rfl ?_
  refine l_nil ?_
  refine g_seq ?_
  refine g_seq ?_
  refine g_region ?_
  refine l_move rfl rfl ?_
  refine l_neq rfl rfl rfl ?_
  refine l_nil ?_
  refine g_cond rfl ?_ ?_
  · intro hbr
    have hbr := of_decide_eq_true hbr
    refine g_seq ?_
    refine g_region ?_
    refine l_move rfl rfl ?_
    refine l_assign rfl rfl ?_
    refine l_nil ?_
    refine g_ret Try.func38 rfl (.tmp rfl .nil) ?_
    (first | exact Gives.mki ⟨W, e1, rfl, hW, rfl, .inl ⟨by unfold WdOk; omega, by omega, rfl⟩⟩ | exact Gives.mki ⟨W, 190, rfl, hW, rfl, .inr (.inr (.inl ⟨hwd, hi, by omega, rfl, rfl⟩))⟩ | exact Gives.mki ⟨W, 191, rfl, hW, rfl, .inr (.inr (.inr (.inl ⟨hwd, hi, by omega, by rcases hR with ⟨h, _⟩ | ⟨_, _, _, _, h⟩; (subst h; simp_all); exact h, rfl, rfl⟩)))⟩ | exact Gives.mki ⟨_, 0, rfl, by rw [spl_length (by rw [hsl]; omega)]; exact hW, rfl, .inr (.inr (.inr (.inr ⟨hwd, hi, by omega, by rcases hR with ⟨_, h, _⟩ | ⟨h, _⟩; exact ⟨_, h⟩; (subst h; simp_all), rfl, rfl⟩)))⟩)
  intro hbr
  have hbr := of_decide_eq_false hbr
  refine g_skip ?_
  refine g_seq ?_
  refine g_region ?_
  refine l_move rfl rfl ?_
  refine l_move rfl rfl ?_
  refine l_move rfl rfl ?_
  first | refine l_add rfl rfl rfl (w_i64 (by omega) (by omega)) ?_ | refine l_addw rfl rfl rfl ?_
  have hwd : WdOk wd := by unfold WdOk; omega
  have hi2 := hi
  unfold inR at hi2
  refine l_call rfl Try.call48 rfl (rtake_ok _ _ b g n c W hW hc hn at_ (2 + wd) (by omega) (by omega) hi) ?_; rintro _ _ ⟨a9, c9, rfl, ha9, rfl⟩
  obtain ⟨q9, rfl⟩ := ha9.resolve_left (by omega)
  clear ha9
  have hpl := part_len hW hi
  rw [show part W at_ (((2 + wd).toNat : Nat) : Int) = part W at_ (2 + wd) by rw [Int.toNat_of_nonneg (by omega)]]
  refine l_fact (own_cases (mem_getO 0 rfl)) ?_; intro hown
  have hc9 : (2 + wd).toNat ≤ c9 := by
    rcases hown.2.2 with ⟨h, _⟩ | ⟨g9, cp, h, h2⟩
    · cases h
    · cases h
      exact h2
  clear hown
  refine l_move rfl rfl ?_
  refine l_extract rfl rfl rfl ?_
  refine l_extract rfl rfl rfl ?_
  refine l_assign rfl rfl ?_
  refine l_assign rfl rfl ?_
  refine l_nil ?_
  refine g_seq ?_
  refine g_seq ?_
  refine g_region ?_
  refine l_move rfl rfl ?_
  refine l_neq rfl rfl rfl ?_
  refine l_nil ?_
  refine g_cond rfl ?_ ?_
  · intro hbr
    have hbr := of_decide_eq_true hbr
    (exfalso; omega)
  intro hbr
  have hbr := of_decide_eq_false hbr
  refine g_skip ?_
  refine g_seq ?_
  refine g_seq ?_
  refine g_region ?_
  refine l_move rfl rfl ?_
  refine l_len rfl Try.underlying29 rfl ?_
  refine l_lss rfl rfl rfl ?_
  refine l_move rfl rfl ?_
  refine l_split 35 rfl ?_ ?_
  · intro hbr
    have hbr := of_decide_eq_true hbr
    refine l_guard_no rfl rfl rfl ?_
    refine l_guard_no rfl rfl rfl ?_
    refine l_guard_no rfl rfl rfl ?_
    refine l_guard_no rfl rfl rfl ?_
    refine l_pick_t rfl rfl rfl ?_
    refine l_nil ?_
    refine g_cond_t rfl ?_
    refine g_seq ?_
    refine g_region ?_
    refine l_assign rfl rfl ?_
    refine l_nil ?_
    refine g_ret Try.func38 rfl (.tmp rfl .nil) ?_
    (first | exact Gives.mki ⟨W, e1, rfl, hW, rfl, .inl ⟨by unfold WdOk; omega, by omega, rfl⟩⟩ | exact Gives.mki ⟨W, 190, rfl, hW, rfl, .inr (.inr (.inl ⟨hwd, hi, by omega, rfl, rfl⟩))⟩ | exact Gives.mki ⟨W, 191, rfl, hW, rfl, .inr (.inr (.inr (.inl ⟨hwd, hi, by omega, by rcases hR with ⟨h, _⟩ | ⟨_, _, _, _, h⟩; (subst h; simp_all); exact h, rfl, rfl⟩)))⟩ | exact Gives.mki ⟨_, 0, rfl, by rw [spl_length (by rw [hsl]; omega)]; exact hW, rfl, .inr (.inr (.inr (.inr ⟨hwd, hi, by omega, by rcases hR with ⟨_, h, _⟩ | ⟨h, _⟩; exact ⟨_, h⟩; (subst h; simp_all), rfl, rfl⟩)))⟩)
  intro hbr
  have hbr := of_decide_eq_false hbr
  refine l_guard_yes rfl rfl ?_
  refine l_move rfl rfl ?_
  refine l_guard_yes rfl rfl ?_
  refine l_len rfl Try.underlying29 rfl ?_
  refine l_guard_yes rfl rfl ?_
  refine l_move rfl rfl ?_
  refine l_guard_yes rfl rfl ?_
  refine l_gtr rfl rfl rfl ?_
  refine l_pick_f rfl rfl rfl ?_
  refine l_nil ?_
  refine g_cond rfl ?_ ?_
  · intro hbr
    have hbr := of_decide_eq_true hbr
    refine g_seq ?_
    refine g_region ?_
    refine l_assign rfl rfl ?_
    refine l_nil ?_
    refine g_ret Try.func38 rfl (.tmp rfl .nil) ?_
    (first | exact Gives.mki ⟨W, e1, rfl, hW, rfl, .inl ⟨by unfold WdOk; omega, by omega, rfl⟩⟩ | exact Gives.mki ⟨W, 190, rfl, hW, rfl, .inr (.inr (.inl ⟨hwd, hi, by omega, rfl, rfl⟩))⟩ | exact Gives.mki ⟨W, 191, rfl, hW, rfl, .inr (.inr (.inr (.inl ⟨hwd, hi, by omega, by rcases hR with ⟨h, _⟩ | ⟨_, _, _, _, h⟩; (subst h; simp_all); exact h, rfl, rfl⟩)))⟩ | exact Gives.mki ⟨_, 0, rfl, by rw [spl_length (by rw [hsl]; omega)]; exact hW, rfl, .inr (.inr (.inr (.inr ⟨hwd, hi, by omega, by rcases hR with ⟨_, h, _⟩ | ⟨h, _⟩; exact ⟨_, h⟩; (subst h; simp_all), rfl, rfl⟩)))⟩)
  intro hbr
  have hbr := of_decide_eq_false hbr
  refine g_skip ?_
  refine g_seq ?_
  refine g_region ?_
  refine l_move rfl rfl ?_
  refine l_call rfl Try.call49 rfl (rread_g _ _ q9 (2 + wd).toNat c9 (part W at_ (2 + wd)) hpl hc9 (.own (mem_getO 0 rfl)) (hU.part _ _) 2 (by omega) wd (by omega) (by omega) (Int.toNat_of_nonneg (show 0 ≤ 2 + wd from Int.add_nonneg (by decide) (Int.le_trans (by decide) hwd.1)))) ?_; rintro _ F9 ⟨th, fr, ar, qr, cr, T, ok, rfl, hF9, hIR0, hR⟩
  have hIR := hIR0 F9 (by rw [hF9]; exact .own (mem_getO 0 rfl))
  rw [hF9] at hIR ⊢
  clear hIR0 hF9 F9
  refine l_move rfl rfl ?_
  refine l_extract rfl rfl rfl ?_
  refine l_extract rfl rfl rfl ?_
  refine l_allocs rfl Try.zeroValue85 ?_; intro b12
  refine l_sts Try.sizeOf85 rfl rfl rfl rfl rfl ?_
  refine l_assign rfl rfl ?_
  refine l_nil ?_
  refine g_seq ?_
  refine g_seq ?_
  refine g_region ?_
  refine l_move rfl rfl ?_
  refine l_not rfl rfl ?_
  refine l_nil ?_
  refine g_cond rfl ?_ ?_
  · intro hbr
    have hb47 := hbr
    refine g_seq ?_
    refine g_region ?_
    refine l_assign rfl rfl ?_
    refine l_nil ?_
    refine g_ret Try.func38 rfl (.tmp rfl .nil) ?_
    (first | exact Gives.mki ⟨W, e1, rfl, hW, rfl, .inl ⟨by unfold WdOk; omega, by omega, rfl⟩⟩ | exact Gives.mki ⟨W, 190, rfl, hW, rfl, .inr (.inr (.inl ⟨hwd, hi, by omega, rfl, rfl⟩))⟩ | exact Gives.mki ⟨W, 191, rfl, hW, rfl, .inr (.inr (.inr (.inl ⟨hwd, hi, by omega, by rcases hR with ⟨h, _⟩ | ⟨_, _, _, _, h⟩; (subst h; simp_all); exact h, rfl, rfl⟩)))⟩ | exact Gives.mki ⟨_, 0, rfl, by rw [spl_length (by rw [hsl]; omega)]; exact hW, rfl, .inr (.inr (.inr (.inr ⟨hwd, hi, by omega, by rcases hR with ⟨_, h, _⟩ | ⟨h, _⟩; exact ⟨_, h⟩; (subst h; simp_all), rfl, rfl⟩)))⟩)
  intro hbr
  have hb47 := hbr
  refine g_skip ?_
  refine g_seq ?_
  refine g_region ?_
  refine l_move rfl rfl ?_
  refine l_build rfl rfl (fun w => bd_85_0_2 _ _ _ _ w) ?_
  refine l_allocs rfl Try.zeroValue85 ?_; intro b14
  refine l_sts Try.sizeOf85 rfl rfl rfl rfl rfl ?_
  refine l_nil ?_
  refine g_seq ?_
  refine g_region ?_
  refine l_move rfl rfl ?_
  refine l_move rfl rfl ?_
  refine l_lds rfl Try.isAgg85 Try.sizeOf85 rfl rfl ?_
  refine l_move rfl rfl ?_
  refine l_call rfl Try.call51 rfl (words_h _ _ true false a q qc M hM.ex hMU 2 (.inl rfl) wd (by omega) (by omega) (by omega)) ?_; rintro _ _ ⟨gw, rfl, rfl⟩
  rw [wd_stage]
  have hsl := stageW_len (M := M) (wd := wd) (by omega) (by omega)
  refine l_fronto g ?_
  refine l_frontb b ?_
  refine l_call rfl Try.call50 rfl (rlay_ok _ _ b g n c W hW hc hn at_ (by omega) (some ⟨gw, 0, none⟩) (2 + wd).toNat (2 + wd).toNat (stageW M wd) (IR.own hsl (mem_getO 0 rfl) (.inr ⟨_, rfl⟩)) (stageW_u hMU (by omega) (by omega) (by omega)) (by omega) (by unfold inR; omega)) ?_; rintro _ _ ⟨rfl, rfl⟩
  refine l_assign rfl rfl ?_
  refine l_nil ?_
  refine g_ret Try.func38 rfl (.tmp rfl .nil) ?_
  (first | exact Gives.mki ⟨W, e1, rfl, hW, rfl, .inl ⟨by unfold WdOk; omega, by omega, rfl⟩⟩ | exact Gives.mki ⟨W, 190, rfl, hW, rfl, .inr (.inr (.inl ⟨hwd, hi, by omega, rfl, rfl⟩))⟩ | exact Gives.mki ⟨W, 191, rfl, hW, rfl, .inr (.inr (.inr (.inl ⟨hwd, hi, by omega, by rcases hR with ⟨h, _⟩ | ⟨_, _, _, _, h⟩; (subst h; simp_all); exact h, rfl, rfl⟩)))⟩ | exact Gives.mki ⟨_, 0, rfl, by rw [spl_length (by rw [hsl]; omega)]; exact hW, rfl, .inr (.inr (.inr (.inr ⟨hwd, hi, by omega, by rcases hR with ⟨_, h, _⟩ | ⟨h, _⟩; exact ⟨_, h⟩; (subst h; simp_all), rfl, rfl⟩)))⟩)
theorem rput_out (w0 : World) (F : List Atom) (b g n c : Nat) (W : List Int) (hW : W.length = n) (hc : n ≤ c) (hn : n ≤ 1073741824) (hU : W32s W) (h16 : n % 16 = 0) (at_ : Int) (at_0 : -9223372036854775808 ≤ at_) (at_1 : at_ ≤ 9223372036854775807) (wd : Int) (wd0 : -9223372036854775808 ≤ wd) (wd1 : wd ≤ 9223372036854775807) (a : Option Addr) (q qc : Nat) (M : List Int) (hM : IR w0 F .u32 a q M) (hMU : W32s M) (hq : q ≤ 9223372036854775807) (hi : ¬ inR n at_ (2 + wd)) :
    CallK Try.prog 38 [.pointer (some ⟨b, 0, none⟩), .int .i64 at_, .int .i64 wd, .slice a q qc] w0 (Blk b (.cells [Value.slice (some ⟨g, 0, none⟩) n c].toArray 58 (0, 0)) :: Own 28 1 (.slice (some ⟨g, 0, none⟩) n c) n (ints .u32 W) :: F) (Gives w0 fun v F2 => ∃ W2 e, v = .int .i64 e ∧ W2.length = n ∧ F2 = Blk b (.cells [Value.slice (some ⟨g, 0, none⟩) n c].toArray 58 (0, 0)) :: Own 28 1 (.slice (some ⟨g, 0, none⟩) n c) n (ints .u32 W2) :: F ∧ PutG W n at_ wd M W2 e) := by
  refine c_enter Try.func38 rfl rfl rfl ?_
  refine g_seq ?_
  refine g_region ?_
  refine l_assign rfl rfl ?_
  refine l_nil ?_
  refine g_seq ?_
  refine g_region ?_
  refine l_move rfl rfl ?_
  refine l_move rfl rfl ?_
  refine l_call rfl Try.call47 rfl (rstand_ok _ _ b wd wd0 wd1) ?_; rintro _ F9 ⟨e1, rfl, hF9, he1⟩; rw [hF9]; clear hF9 F9
  unfold WdOk at he1
  refine l_assign rfl rfl ?_
  refine l_nil ?_
  refine g_seq ?_
  refine g_seq ?_
  refine g_region ?_
  refine l_move rfl rfl ?_
  refine l_neq rfl rfl rfl ?_
  refine l_nil ?_
  refine g_cond rfl ?_ ?_
  · intro hbr
    have hbr := of_decide_eq_true hbr
    refine g_seq ?_
    refine g_region ?_
    refine l_move rfl rfl ?_
    refine l_assign rfl rfl ?_
    refine l_nil ?_
    refine g_ret Try.func38 rfl (.tmp rfl .nil) ?_
    (first | exact Gives.mki ⟨W, e1, rfl, hW, rfl, .inl ⟨by unfold WdOk; omega, by omega, rfl⟩⟩ | exact Gives.mki ⟨W, 51, rfl, hW, rfl, .inr (.inl ⟨by unfold WdOk; omega, hi, rfl, rfl⟩)⟩)
  intro hbr
  have hbr := of_decide_eq_false hbr
  refine g_skip ?_
  refine g_seq ?_
  refine g_region ?_
  refine l_move rfl rfl ?_
  refine l_move rfl rfl ?_
  refine l_move rfl rfl ?_
  first | refine l_add rfl rfl rfl (w_i64 (by omega) (by omega)) ?_ | refine l_addw rfl rfl rfl ?_
  refine l_call rfl Try.call48 rfl (rtake_bad _ _ b g n c W hW hc hn at_ (2 + wd) (by omega) (by omega) (by omega) (by omega) hi) ?_; rintro _ _ ⟨rfl, rfl⟩
  refine l_move rfl rfl ?_
  refine l_extract rfl rfl rfl ?_
  refine l_extract rfl rfl rfl ?_
  refine l_assign rfl rfl ?_
  refine l_assign rfl rfl ?_
  refine l_nil ?_
  refine g_seq ?_
  refine g_seq ?_
  refine g_region ?_
  refine l_move rfl rfl ?_
  refine l_neq rfl rfl rfl ?_
  refine l_nil ?_
  refine g_cond rfl ?_ ?_
  · intro hbr
    have hbr := of_decide_eq_true hbr
    refine g_seq ?_
    refine g_region ?_
    refine l_move rfl rfl ?_
    refine l_assign rfl rfl ?_
    refine l_nil ?_
    refine g_ret Try.func38 rfl (.tmp rfl .nil) ?_
    (first | exact Gives.mki ⟨W, e1, rfl, hW, rfl, .inl ⟨by unfold WdOk; omega, by omega, rfl⟩⟩ | exact Gives.mki ⟨W, 51, rfl, hW, rfl, .inr (.inl ⟨by unfold WdOk; omega, hi, rfl, rfl⟩)⟩)
  · intro hbr
    have hbr := of_decide_eq_false hbr
    (exfalso; omega)
end Go.Proofs.Ythngpcaljljlaaa.Fw
