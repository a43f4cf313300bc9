import Derived.Test.YthngpcaljljlaaaRefG0
namespace Go.Proofs.Ythngpcaljljlaaa.Fw
open Go Go.Proofs
set_option linter.unusedVariables false
set_option linter.unusedSimpArgs false
set_option maxRecDepth 10000
theorem bd_85_0_1_2 (a0_0 : Bool) (a1_0 : Bool) (a2_0 : Option Addr) (n2_0 c2_0 : Nat) (w : World) : (Instr.build 85 #[(0, .bool a0_0), (1, .bool a1_0), (2, .slice a2_0 n2_0 c2_0)]).run Try.prog w = .ok (.agg #[.bool a0_0, .bool a1_0, .slice a2_0 n2_0 c2_0]) w := by kernel_rfl
theorem rtake_g (w0 : World) (F : List Atom) (b g n c : Nat) (W : List Int) (hW : W.length = n) (hc : n ≤ c) (hn : n ≤ 1073741824) (at_ k : Int) (a0 : -9223372036854775808 ≤ at_) (a1 : at_ ≤ 9223372036854775807) (k0 : 0 ≤ k) (k1 : k ≤ 64) :
    CallK Try.prog 48 [.pointer (some ⟨b, 0, none⟩), .int .i64 at_, .int .i64 k] w0 (Blk b (.cells [Value.slice (some ⟨g, 0, none⟩) n c].toArray 58 (0, 0)) :: Own 28 1 (.slice (some ⟨g, 0, none⟩) n c) n (ints .u32 W) :: F) (Gives w0 fun v F2 => ∃ a kk cq X f, v = .tuple #[.slice a kk cq, .int .i64 f] ∧ F2 = Own 28 1 (.slice a kk cq) kk (ints .u32 X) :: Blk b (.cells [Value.slice (some ⟨g, 0, none⟩) n c].toArray 58 (0, 0)) :: Own 28 1 (.slice (some ⟨g, 0, none⟩) n c) n (ints .u32 W) :: F ∧ ((f = 0 ∧ inR n at_ k ∧ kk = k.toNat ∧ X = part W at_ k ∧ (kk = 0 ∨ ∃ g2, a = some ⟨g2, 0, none⟩)) ∨ (f = 51 ∧ ¬ inR n at_ k))) := by
  by_cases h : inR n at_ k
  · refine (rtake_ok w0 F b g n c W hW hc hn at_ k a1 (by omega) h).mono ?_
    rintro r F1 ⟨v, F2, rfl, ⟨a, cq, rfl, ha, rfl⟩, hh⟩
    rw [Int.toNat_of_nonneg k0] at hh
    exact ⟨_, _, rfl, ⟨a, k.toNat, cq, part W at_ k, 0, rfl, rfl, .inl ⟨rfl, h, rfl, rfl, ha⟩⟩, hh⟩
  · refine (rtake_bad w0 F b g n c W hW hc hn at_ k a0 a1 (by omega) (by omega) h).mono ?_
    rintro r F1 ⟨v, F2, rfl, ⟨rfl, rfl⟩, hh⟩
    exact ⟨_, _, rfl, ⟨none, 0, 0, [], 51, rfl, rfl, .inr ⟨rfl, h⟩⟩, fun w hw => (hh w hw).own_nil _ _⟩
set_option maxHeartbeats 4000000 in
theorem rdeliver_ok (w0 : World) (F : List Atom) (b g n c : Nat) (W : List Int) (hW : W.length = n) (hc : n ≤ c) (hn : n ≤ 1073741824) (hU : W32s W) (st : Int) (st0 : -9223372036854775808 ≤ st) (st1 : st ≤ 9223372036854775807) (wd : Int) (wd0 : -9223372036854775808 ≤ wd) (wd1 : wd ≤ 9223372036854775807) (a : Option Addr) (q qc : Nat) (P : List Int) (hI : IR w0 F .i64 a q P) (hP : ∀ i, -9223372036854775808 ≤ P.getD i 0 ∧ P.getD i 0 ≤ 9223372036854775807) (hq : q ≤ 9223372036854775807) (hqc : q ≤ qc) :
    CallK Try.prog 40 [.pointer (some ⟨b, 0, none⟩), .int .i64 st, .int .i64 wd, .slice a q qc] w0 (Blk b (.cells [Value.slice (some ⟨g, 0, none⟩) n c].toArray 58 (0, 0)) :: Own 28 1 (.slice (some ⟨g, 0, none⟩) n c) n (ints .u32 W) :: F) (Gives w0 fun v F2 => ∃ W2 e, v = .int .i64 e ∧ W2.length = n ∧ F2 = Blk b (.cells [Value.slice (some ⟨g, 0, none⟩) n c].toArray 58 (0, 0)) :: Own 28 1 (.slice (some ⟨g, 0, none⟩) n c) n (ints .u32 W2) :: F ∧ DelG W n st wd P q W2 e) := by
  have hl := hI.1
  refine c_enter Try.func40 rfl rfl rfl ?_
  refine g_seq ?_
  refine g_region ?_
  refine l_assign rfl rfl ?_
  refine l_nil ?_
  refine g_seq ?_
  refine g_region ?_
  refine l_move rfl rfl ?_
  refine l_move rfl rfl ?_
  refine l_call rfl Try.call47 rfl (rstand_ok _ _ b wd wd0 wd1) ?_; rintro _ F9 ⟨e1, rfl, hF9, he1⟩; rw [hF9]; clear hF9 F9
  unfold WdOk at he1
  refine l_assign rfl rfl ?_
  refine l_nil ?_
  refine g_seq ?_
  refine g_seq ?_
  refine g_region ?_
  refine l_move rfl rfl ?_
  refine l_neq rfl rfl rfl ?_
  refine l_nil ?_
  refine g_cond rfl ?_ ?_
  · intro hbr
    have hbr := of_decide_eq_true hbr
    refine g_seq ?_
    refine g_region ?_
    refine l_move rfl rfl ?_
    refine l_assign rfl rfl ?_
    refine l_nil ?_
    refine g_ret Try.func40 rfl (.tmp rfl .nil) ?_
    (first | (have h9 : e1 = 1 := (by omega); subst h9; exact Gives.mki ⟨W, 1, rfl, hW, rfl, del_1 (by unfold CntOk WdOk; omega)⟩) | exact Gives.mki ⟨W, 1, rfl, hW, rfl, del_1 (by unfold CntOk WdOk; omega)⟩ | ((have h9 : f1 = 51 ∧ ¬ inR n (P.getD i.toNat 0) (3 + wd) := by (rcases hT1 with h | h; (exact absurd h.1 (by omega)); exact h)); (obtain ⟨rfl, hno⟩ := h9; exact Gives.mki ⟨W, 51, rfl, hW, rfl, del_51 hcnt (.inr ⟨i.toNat, by omega, hno⟩)⟩)) | ((have h9 : f0 = 51 ∧ ¬ inR n st (2 + wd) := by (rcases hT0 with h | h; (exact absurd h.1 (by omega)); exact h)); (obtain ⟨rfl, hno⟩ := h9; exact Gives.mki ⟨W, 51, rfl, hW, rfl, del_51 hcnt (.inl hno)⟩)) | exact Gives.mki ⟨W, 191, rfl, hW, rfl, del_191 hrdy (.inr (.inr ⟨i.toNat, by omega, (by rcases hR1 with ⟨h, _⟩ | ⟨_, _, _, _, h⟩; (exfalso; subst h; simp at hbr); exact h)⟩))⟩ | exact Gives.mki ⟨W, 191, rfl, hW, rfl, del_191 hrdy (.inr (.inl (fun h => by have := hA9.2 h; simp_all)))⟩ | exact Gives.mki ⟨W, 191, rfl, hW, rfl, del_191 hrdy (.inl (by rcases hR with ⟨h, _⟩ | ⟨_, _, _, _, h⟩; (exfalso; subst h; simp at hbr); exact h))⟩ | (subst hX; exact Gives.mki ⟨_, 0, rfl, by rw [spl_length (by simp; omega)]; exact hXl, rfl, del_ok hW hU hrdy hapt hHat hhT th hhth⟩))
  intro hbr
  have hbr := of_decide_eq_false hbr
  refine g_skip ?_
  refine g_seq ?_
  refine g_seq ?_
  refine g_region ?_
  refine l_move rfl rfl ?_
  refine l_len rfl Try.underlying34 rfl ?_
  have hwd : WdOk wd := by unfold WdOk; omega
  obtain ⟨w1, w2⟩ := id hwd
  clear he1
  refine l_lss rfl rfl rfl ?_
  refine l_move rfl rfl ?_
  refine l_split 32 rfl ?_ ?_
  · intro hbr
    have hbr := of_decide_eq_true hbr
    refine l_guard_no rfl rfl rfl ?_
    refine l_guard_no rfl rfl rfl ?_
    refine l_guard_no rfl rfl rfl ?_
    refine l_pick_t rfl rfl rfl ?_
    refine l_nil ?_
    refine g_cond_t rfl ?_
    refine g_seq ?_
    refine g_region ?_
    refine l_assign rfl rfl ?_
    refine l_nil ?_
    refine g_ret Try.func40 rfl (.tmp rfl .nil) ?_
    (first | (have h9 : e1 = 1 := (by omega); subst h9; exact Gives.mki ⟨W, 1, rfl, hW, rfl, del_1 (by unfold CntOk WdOk; omega)⟩) | exact Gives.mki ⟨W, 1, rfl, hW, rfl, del_1 (by unfold CntOk WdOk; omega)⟩ | ((have h9 : f1 = 51 ∧ ¬ inR n (P.getD i.toNat 0) (3 + wd) := by (rcases hT1 with h | h; (exact absurd h.1 (by omega)); exact h)); (obtain ⟨rfl, hno⟩ := h9; exact Gives.mki ⟨W, 51, rfl, hW, rfl, del_51 hcnt (.inr ⟨i.toNat, by omega, hno⟩)⟩)) | ((have h9 : f0 = 51 ∧ ¬ inR n st (2 + wd) := by (rcases hT0 with h | h; (exact absurd h.1 (by omega)); exact h)); (obtain ⟨rfl, hno⟩ := h9; exact Gives.mki ⟨W, 51, rfl, hW, rfl, del_51 hcnt (.inl hno)⟩)) | exact Gives.mki ⟨W, 191, rfl, hW, rfl, del_191 hrdy (.inr (.inr ⟨i.toNat, by omega, (by rcases hR1 with ⟨h, _⟩ | ⟨_, _, _, _, h⟩; (exfalso; subst h; simp at hbr); exact h)⟩))⟩ | exact Gives.mki ⟨W, 191, rfl, hW, rfl, del_191 hrdy (.inr (.inl (fun h => by have := hA9.2 h; simp_all)))⟩ | exact Gives.mki ⟨W, 191, rfl, hW, rfl, del_191 hrdy (.inl (by rcases hR with ⟨h, _⟩ | ⟨_, _, _, _, h⟩; (exfalso; subst h; simp at hbr); exact h))⟩ | (subst hX; exact Gives.mki ⟨_, 0, rfl, by rw [spl_length (by simp; omega)]; exact hXl, rfl, del_ok hW hU hrdy hapt hHat hhT th hhth⟩))
  intro hbr
  have hbr := of_decide_eq_false hbr
  refine l_guard_yes rfl rfl ?_
  refine l_move rfl rfl ?_
  refine l_guard_yes rfl rfl ?_
  refine l_len rfl Try.underlying34 rfl ?_
  refine l_guard_yes rfl rfl ?_
  refine l_gtr rfl rfl rfl ?_
  refine l_pick_f rfl rfl rfl ?_
  refine l_nil ?_
  refine g_cond rfl ?_ ?_
  · intro hbr
    have hbr := of_decide_eq_true hbr
    refine g_seq ?_
    refine g_region ?_
    refine l_assign rfl rfl ?_
    refine l_nil ?_
    refine g_ret Try.func40 rfl (.tmp rfl .nil) ?_
    (first | (have h9 : e1 = 1 := (by omega); subst h9; exact Gives.mki ⟨W, 1, rfl, hW, rfl, del_1 (by unfold CntOk WdOk; omega)⟩) | exact Gives.mki ⟨W, 1, rfl, hW, rfl, del_1 (by unfold CntOk WdOk; omega)⟩ | ((have h9 : f1 = 51 ∧ ¬ inR n (P.getD i.toNat 0) (3 + wd) := by (rcases hT1 with h | h; (exact absurd h.1 (by omega)); exact h)); (obtain ⟨rfl, hno⟩ := h9; exact Gives.mki ⟨W, 51, rfl, hW, rfl, del_51 hcnt (.inr ⟨i.toNat, by omega, hno⟩)⟩)) | ((have h9 : f0 = 51 ∧ ¬ inR n st (2 + wd) := by (rcases hT0 with h | h; (exact absurd h.1 (by omega)); exact h)); (obtain ⟨rfl, hno⟩ := h9; exact Gives.mki ⟨W, 51, rfl, hW, rfl, del_51 hcnt (.inl hno)⟩)) | exact Gives.mki ⟨W, 191, rfl, hW, rfl, del_191 hrdy (.inr (.inr ⟨i.toNat, by omega, (by rcases hR1 with ⟨h, _⟩ | ⟨_, _, _, _, h⟩; (exfalso; subst h; simp at hbr); exact h)⟩))⟩ | exact Gives.mki ⟨W, 191, rfl, hW, rfl, del_191 hrdy (.inr (.inl (fun h => by have := hA9.2 h; simp_all)))⟩ | exact Gives.mki ⟨W, 191, rfl, hW, rfl, del_191 hrdy (.inl (by rcases hR with ⟨h, _⟩ | ⟨_, _, _, _, h⟩; (exfalso; subst h; simp at hbr); exact h))⟩ | (subst hX; exact Gives.mki ⟨_, 0, rfl, by rw [spl_length (by simp; omega)]; exact hXl, rfl, del_ok hW hU hrdy hapt hHat hhT th hhth⟩))
  intro hbr
  have hbr := of_decide_eq_false hbr
  refine g_skip ?_
  refine g_seq ?_
  refine g_region ?_
  have hcnt : CntOk wd q := ⟨hwd, by omega, by omega⟩
  refine l_move rfl rfl ?_
  refine l_move rfl rfl ?_
  refine l_move rfl rfl ?_
  first | refine l_add rfl rfl rfl (w_i64 (by omega) (by omega)) ?_ | refine l_addw rfl rfl rfl ?_
  refine l_call rfl Try.call48 rfl (rtake_g _ _ b g n c W hW hc hn st (2 + wd) st0 st1 (by omega) (by omega)) ?_; rintro _ _ ⟨a0, k0, c0, X0, f0, rfl, rfl, hT0⟩
  refine l_move rfl rfl ?_
  refine l_extract rfl rfl rfl ?_
  refine l_extract rfl rfl rfl ?_
  refine l_assign rfl rfl ?_
  refine l_assign rfl rfl ?_
  refine l_nil ?_
  refine g_seq ?_
  refine g_seq ?_
  refine g_region ?_
  refine l_move rfl rfl ?_
  refine l_neq rfl rfl rfl ?_
  refine l_nil ?_
  refine g_cond rfl ?_ ?_
  · intro hbr
    have hbr := of_decide_eq_true hbr
    refine g_seq ?_
    refine g_region ?_
    refine l_move rfl rfl ?_
    refine l_assign rfl rfl ?_
    refine l_nil ?_
    refine g_ret Try.func40 rfl (.tmp rfl .nil) ?_
    (first | (have h9 : e1 = 1 := (by omega); subst h9; exact Gives.mki ⟨W, 1, rfl, hW, rfl, del_1 (by unfold CntOk WdOk; omega)⟩) | exact Gives.mki ⟨W, 1, rfl, hW, rfl, del_1 (by unfold CntOk WdOk; omega)⟩ | ((have h9 : f1 = 51 ∧ ¬ inR n (P.getD i.toNat 0) (3 + wd) := by (rcases hT1 with h | h; (exact absurd h.1 (by omega)); exact h)); (obtain ⟨rfl, hno⟩ := h9; exact Gives.mki ⟨W, 51, rfl, hW, rfl, del_51 hcnt (.inr ⟨i.toNat, by omega, hno⟩)⟩)) | ((have h9 : f0 = 51 ∧ ¬ inR n st (2 + wd) := by (rcases hT0 with h | h; (exact absurd h.1 (by omega)); exact h)); (obtain ⟨rfl, hno⟩ := h9; exact Gives.mki ⟨W, 51, rfl, hW, rfl, del_51 hcnt (.inl hno)⟩)) | exact Gives.mki ⟨W, 191, rfl, hW, rfl, del_191 hrdy (.inr (.inr ⟨i.toNat, by omega, (by rcases hR1 with ⟨h, _⟩ | ⟨_, _, _, _, h⟩; (exfalso; subst h; simp at hbr); exact h)⟩))⟩ | exact Gives.mki ⟨W, 191, rfl, hW, rfl, del_191 hrdy (.inr (.inl (fun h => by have := hA9.2 h; simp_all)))⟩ | exact Gives.mki ⟨W, 191, rfl, hW, rfl, del_191 hrdy (.inl (by rcases hR with ⟨h, _⟩ | ⟨_, _, _, _, h⟩; (exfalso; subst h; simp at hbr); exact h))⟩ | (subst hX; exact Gives.mki ⟨_, 0, rfl, by rw [spl_length (by simp; omega)]; exact hXl, rfl, del_ok hW hU hrdy hapt hHat hhT th hhth⟩))
  intro hbr
  have hbr := of_decide_eq_false hbr
  refine g_skip ?_
  refine g_seq ?_
  refine g_seq ?_
  refine g_region ?_
  obtain ⟨hst, hk0, hX0, ha0⟩ : inR n st (2 + wd) ∧ k0 = (2 + wd).toNat ∧ X0 = part W st (2 + wd) ∧ (k0 = 0 ∨ ∃ g2, a0 = some ⟨g2, 0, none⟩) := by rcases hT0 with h | h; exact h.2; exact absurd h.1 (by omega)
  clear hT0
  subst hk0
  subst hX0
  obtain ⟨g0, rfl⟩ := ha0.resolve_left (by omega)
  clear ha0
  refine l_move rfl rfl ?_
  refine l_len rfl Try.underlying34 rfl ?_
  refine l_move rfl rfl ?_
  refine l_nil ?_
  refine g_block ?_
  refine g_loopc (X := Int) [(0, _), (1, _), (2, _), (3, _), (10, _), (49, _)] (.cons rfl (.cons rfl (.cons rfl (.cons rfl (.cons rfl (.cons rfl (.nil))))))) (fun i => 0 ≤ i ∧ i ≤ q ∧ ∀ j, j < i.toNat → inR n (pAt P j) (3 + wd)) (fun i => (q - i).toNat) (fun i => [(50, .int .i64 i)]) (0) (⟨by omega, by omega, fun k hk => by omega⟩) (.cons rfl .nil) ?_
  rintro i ⟨i0, i1, hz⟩ ih
  dsimp only [List.cons_append, List.nil_append] at ih ⊢
  refine g_seq ?_
  refine g_region ?_
  refine l_lss rfl rfl rfl ?_
  refine l_nil ?_
  refine g_seq ?_
  refine g_cond rfl ?_ ?_
  · intro hbr
    have hbr := of_decide_eq_true hbr
    refine g_skip ?_
    refine g_seq ?_
    refine g_block ?_
    refine g_seq ?_
    refine g_region ?_
    refine l_move rfl rfl ?_
    refine l_assign rfl rfl ?_
    refine l_nil ?_
    refine g_seq ?_
    refine g_region ?_
    refine l_move rfl rfl ?_
    refine l_move rfl rfl ?_
    refine l_move rfl rfl ?_
    obtain ⟨b9, o9, rfl, hr9⟩ := hI.some (i := i.toNat) (by omega)
    have hb9 := hP i.toNat
    refine l_ixs rfl Try.underlying34 Try.sizeOf3 rfl rfl (by omega) (by omega) ?_
    refine l_loadc rfl Try.isAgg3 rfl (word_any hr9 (by omega)) ?_
    refine l_move rfl rfl ?_
    first | refine l_add rfl rfl rfl (w_i64 (by omega) (by omega)) ?_ | refine l_addw rfl rfl rfl ?_
    refine l_fronto g ?_
    refine l_frontb b ?_
    refine l_call rfl Try.call48 rfl (rtake_g _ _ b g n c W hW hc hn (P.getD i.toNat 0) (3 + wd) hb9.1 hb9.2 (by omega) (by omega)) ?_; rintro _ _ ⟨a1, k1, c1, X1, f1, rfl, rfl, hT1⟩
    refine l_move rfl rfl ?_
    refine l_extract rfl rfl rfl ?_
    refine l_extract rfl rfl rfl ?_
    refine l_assign rfl rfl ?_
    refine l_nil ?_
    refine g_seq ?_
    refine g_region ?_
    refine l_move rfl rfl ?_
    refine l_neq rfl rfl rfl ?_
    refine l_nil ?_
    refine g_cond rfl ?_ ?_
    · intro hbr
      have hbr := of_decide_eq_true hbr
      refine g_seq ?_
      refine g_region ?_
      refine l_move rfl rfl ?_
      refine l_assign rfl rfl ?_
      refine l_nil ?_
      refine g_ret Try.func40 rfl (.tmp rfl .nil) ?_
      (first | (have h9 : e1 = 1 := (by omega); subst h9; exact Gives.mki ⟨W, 1, rfl, hW, rfl, del_1 (by unfold CntOk WdOk; omega)⟩) | exact Gives.mki ⟨W, 1, rfl, hW, rfl, del_1 (by unfold CntOk WdOk; omega)⟩ | ((have h9 : f1 = 51 ∧ ¬ inR n (P.getD i.toNat 0) (3 + wd) := by (rcases hT1 with h | h; (exact absurd h.1 (by omega)); exact h)); (obtain ⟨rfl, hno⟩ := h9; exact Gives.mki ⟨W, 51, rfl, hW, rfl, del_51 hcnt (.inr ⟨i.toNat, by omega, hno⟩)⟩)) | ((have h9 : f0 = 51 ∧ ¬ inR n st (2 + wd) := by (rcases hT0 with h | h; (exact absurd h.1 (by omega)); exact h)); (obtain ⟨rfl, hno⟩ := h9; exact Gives.mki ⟨W, 51, rfl, hW, rfl, del_51 hcnt (.inl hno)⟩)) | exact Gives.mki ⟨W, 191, rfl, hW, rfl, del_191 hrdy (.inr (.inr ⟨i.toNat, by omega, (by rcases hR1 with ⟨h, _⟩ | ⟨_, _, _, _, h⟩; (exfalso; subst h; simp at hbr); exact h)⟩))⟩ | exact Gives.mki ⟨W, 191, rfl, hW, rfl, del_191 hrdy (.inr (.inl (fun h => by have := hA9.2 h; simp_all)))⟩ | exact Gives.mki ⟨W, 191, rfl, hW, rfl, del_191 hrdy (.inl (by rcases hR with ⟨h, _⟩ | ⟨_, _, _, _, h⟩; (exfalso; subst h; simp at hbr); exact h))⟩ | (subst hX; exact Gives.mki ⟨_, 0, rfl, by rw [spl_length (by simp; omega)]; exact hXl, rfl, del_ok hW hU hrdy hapt hHat hhT th hhth⟩))
    intro hbr
    have hbr := of_decide_eq_false hbr
    refine g_skip ?_
    refine g_inBlock ?_
    refine g_region ?_
    first | refine l_add rfl rfl rfl (w_i64 (by omega) (by omega)) ?_ | refine l_addw rfl rfl rfl ?_
    refine l_move rfl rfl ?_
    refine l_nil ?_
    have hi1 : inR n (P.getD i.toNat 0) (3 + wd) := by rcases hT1 with h | h; exact h.2.1; exact absurd h.1 (by omega)
    exact g_againi (ih (i + 1) ⟨by omega, by omega, fun j hj => by rcases (show j < i.toNat ∨ j = i.toNat by omega) with h | rfl; exact hz j h; exact hi1⟩ (by omega)) (.cons rfl (.cons rfl (.cons rfl (.cons rfl (.cons rfl (.cons rfl (.cons rfl (.nil))))))))
  intro hbr
  have hbr := of_decide_eq_false hbr
  refine g_exit rfl ?_
  obtain rfl : i = q := by omega
  rw [Int.toNat_natCast] at hz
  have hin := hz
  clear hz
  have hrdy : Rdy0 n st wd P q := ⟨hcnt, hst, hin⟩
  refine g_seq ?_
  refine g_region ?_
  refine l_move rfl rfl ?_
  refine l_fact (own_cases (mem_getO 0 rfl)) ?_; intro hown
  have hcapc0 : (2 + wd).toNat ≤ c0 := by
    rcases hown.2.2 with ⟨h, _⟩ | ⟨g9, cp, h, h2⟩
    · cases h
    · cases h
      exact h2
  clear hown
  have hpl0 := part_len hW hst
  refine l_call rfl Try.call49 rfl (rread_g _ _ g0 (2 + wd).toNat c0 (part W st (2 + wd)) hpl0 hcapc0 (.own (mem_getO 0 rfl)) (hU.part _ _) 2 (by omega) wd (by omega) (by omega) (Int.toNat_of_nonneg (show 0 ≤ 2 + wd by omega))) ?_; rintro _ F9 ⟨th, fr, ah, qh, ch, T, ok, rfl, hF9, hIh0, hR⟩; rw [hF9]; clear hF9 F9
  refine l_move rfl rfl ?_
  refine l_extract rfl rfl rfl ?_
  refine l_extract rfl rfl rfl ?_
  refine l_allocs rfl Try.zeroValue85 ?_; intro b13
  refine l_sts Try.sizeOf85 rfl rfl rfl rfl rfl ?_
  refine l_assign rfl rfl ?_
  refine l_nil ?_
  refine g_seq ?_
  refine g_seq ?_
  refine g_region ?_
  refine l_move rfl rfl ?_
  refine l_not rfl rfl ?_
  refine l_move rfl rfl ?_
  refine l_split 75 rfl ?_ ?_
  · intro hbr
    have hb75 := hbr
    refine l_guard_no rfl rfl rfl ?_
    refine l_guard_no rfl rfl rfl ?_
    refine l_guard_no rfl rfl rfl ?_
    refine l_guard_no rfl rfl rfl ?_
    refine l_guard_no rfl rfl rfl ?_
    refine l_pick_t rfl rfl rfl ?_
    refine l_nil ?_
    refine g_cond_t rfl ?_
    refine g_seq ?_
    refine g_region ?_
    refine l_assign rfl rfl ?_
    refine l_nil ?_
    refine g_ret Try.func40 rfl (.tmp rfl .nil) ?_
    (first | (have h9 : e1 = 1 := (by omega); subst h9; exact Gives.mki ⟨W, 1, rfl, hW, rfl, del_1 (by unfold CntOk WdOk; omega)⟩) | exact Gives.mki ⟨W, 1, rfl, hW, rfl, del_1 (by unfold CntOk WdOk; omega)⟩ | ((have h9 : f1 = 51 ∧ ¬ inR n (P.getD i.toNat 0) (3 + wd) := by (rcases hT1 with h | h; (exact absurd h.1 (by omega)); exact h)); (obtain ⟨rfl, hno⟩ := h9; exact Gives.mki ⟨W, 51, rfl, hW, rfl, del_51 hcnt (.inr ⟨i.toNat, by omega, hno⟩)⟩)) | ((have h9 : f0 = 51 ∧ ¬ inR n st (2 + wd) := by (rcases hT0 with h | h; (exact absurd h.1 (by omega)); exact h)); (obtain ⟨rfl, hno⟩ := h9; exact Gives.mki ⟨W, 51, rfl, hW, rfl, del_51 hcnt (.inl hno)⟩)) | exact Gives.mki ⟨W, 191, rfl, hW, rfl, del_191 hrdy (.inr (.inr ⟨i.toNat, by omega, (by rcases hR1 with ⟨h, _⟩ | ⟨_, _, _, _, h⟩; (exfalso; subst h; simp at hbr); exact h)⟩))⟩ | exact Gives.mki ⟨W, 191, rfl, hW, rfl, del_191 hrdy (.inr (.inl (fun h => by have := hA9.2 h; simp_all)))⟩ | exact Gives.mki ⟨W, 191, rfl, hW, rfl, del_191 hrdy (.inl (by rcases hR with ⟨h, _⟩ | ⟨_, _, _, _, h⟩; (exfalso; subst h; simp at hbr); exact h))⟩ | (subst hX; exact Gives.mki ⟨_, 0, rfl, by rw [spl_length (by simp; omega)]; exact hXl, rfl, del_ok hW hU hrdy hapt hHat hhT th hhth⟩))
  intro hbr
  have hb75 := hbr
  refine l_guard_yes rfl rfl ?_
  refine l_move rfl rfl ?_
  refine l_guard_yes rfl rfl ?_
  refine l_move rfl rfl ?_
  refine l_guard_yes rfl rfl ?_
  refine l_move rfl rfl ?_
  refine l_guard_yes rfl rfl ?_
  have hst9 := hst
  unfold inR at hst9
  refine l_call rfl Try.call52 rfl (rapart_ok _ _ st wd (by omega) (by omega) hwd a q qc P hI.ex hP hq hqc (fun i hi => by have h := hin i hi; unfold inR at h; omega)) ?_; rintro _ F9 ⟨t9, rfl, hF9, hA9⟩; rw [hF9]; clear hF9 F9
  refine l_guard_yes rfl rfl ?_
  refine l_not rfl rfl ?_
  refine l_pick_f rfl rfl rfl ?_
  refine l_nil ?_
  refine g_cond rfl ?_ ?_
  · intro hbr
    have hb81 := hbr
    refine g_seq ?_
    refine g_region ?_
    refine l_assign rfl rfl ?_
    refine l_nil ?_
    refine g_ret Try.func40 rfl (.tmp rfl .nil) ?_
    (first | (have h9 : e1 = 1 := (by omega); subst h9; exact Gives.mki ⟨W, 1, rfl, hW, rfl, del_1 (by unfold CntOk WdOk; omega)⟩) | exact Gives.mki ⟨W, 1, rfl, hW, rfl, del_1 (by unfold CntOk WdOk; omega)⟩ | ((have h9 : f1 = 51 ∧ ¬ inR n (P.getD i.toNat 0) (3 + wd) := by (rcases hT1 with h | h; (exact absurd h.1 (by omega)); exact h)); (obtain ⟨rfl, hno⟩ := h9; exact Gives.mki ⟨W, 51, rfl, hW, rfl, del_51 hcnt (.inr ⟨i.toNat, by omega, hno⟩)⟩)) | ((have h9 : f0 = 51 ∧ ¬ inR n st (2 + wd) := by (rcases hT0 with h | h; (exact absurd h.1 (by omega)); exact h)); (obtain ⟨rfl, hno⟩ := h9; exact Gives.mki ⟨W, 51, rfl, hW, rfl, del_51 hcnt (.inl hno)⟩)) | exact Gives.mki ⟨W, 191, rfl, hW, rfl, del_191 hrdy (.inr (.inr ⟨i.toNat, by omega, (by rcases hR1 with ⟨h, _⟩ | ⟨_, _, _, _, h⟩; (exfalso; subst h; simp at hbr); exact h)⟩))⟩ | exact Gives.mki ⟨W, 191, rfl, hW, rfl, del_191 hrdy (.inr (.inl (fun h => by have := hA9.2 h; simp_all)))⟩ | exact Gives.mki ⟨W, 191, rfl, hW, rfl, del_191 hrdy (.inl (by rcases hR with ⟨h, _⟩ | ⟨_, _, _, _, h⟩; (exfalso; subst h; simp at hbr); exact h))⟩ | (subst hX; exact Gives.mki ⟨_, 0, rfl, by rw [spl_length (by simp; omega)]; exact hXl, rfl, del_ok hW hU hrdy hapt hHat hhT th hhth⟩))
  intro hbr
  have hb81 := hbr
  refine g_skip ?_
  refine g_seq ?_
  refine g_region ?_
  refine l_move rfl rfl ?_
  refine l_len rfl Try.underlying34 rfl ?_
  refine l_makes (sz := 3) (zl := [Value.bool false, Value.bool false, Value.slice none 0 0]) rfl Try.underlying89 Try.type85 rfl rfl rfl (by decide) rfl rfl (by omega) (by show (32 : Int) * _ ≤ _; omega) (by omega) ?_; intro b84
  rw [hvR_zero, Int.toNat_natCast]
  refine l_assign rfl rfl ?_
  refine l_nil ?_
  refine g_seq ?_
  refine g_seq ?_
  refine g_region ?_
  refine l_move rfl rfl ?_
  refine l_len rfl Try.underlying34 rfl ?_
  refine l_move rfl rfl ?_
  refine l_nil ?_
  refine g_block ?_
  refine g_fronto g ?_
  refine g_frontb b ?_
  refine g_frontb b13 ?_
  refine g_fronto b84 ?_
  refine g_loopk (X := Int × List HV × List Atom) [(0, _), (1, _), (2, _), (3, _), (13, _), (15, _), (86, _)] (.cons rfl (.cons rfl (.cons rfl (.cons rfl (.cons rfl (.cons rfl (.cons rfl (.nil)))))))) (fun z => 0 ≤ z.1 ∧ z.1 ≤ q ∧ z.2.1.length = q ∧ F.Sublist z.2.2 ∧ IR w0 z.2.2 .i64 a q P ∧ IR w0 z.2.2 .u32 ah qh T ∧ HatOk W P wd z.2.1 z.1.toNat ∧ ∀ j, j < z.1.toNat → IR w0 z.2.2 .u32 (hat z.2.1 j).a (hat z.2.1 j).q (hat z.2.1 j).T) (fun z => ((q : Int) - z.1).toNat) (fun z => [(87, .int .i64 z.1)]) (fun z => Own 85 3 (.slice (some ⟨b84, 0, none⟩) q q) q (hvR z.2.1) :: Blk b13 (.cells [Value.bool th, Value.bool fr, Value.slice ah qh ch].toArray 85 (0, 0)) :: Blk b (.cells [Value.slice (some ⟨g, 0, none⟩) n c].toArray 58 (0, 0)) :: Own 28 1 (.slice (some ⟨g, 0, none⟩) n c) n (ints .u32 W) :: z.2.2) ((0, List.replicate q hv0, Own 28 1 (.slice (some ⟨g0, 0, none⟩) (2 + wd).toNat c0) (2 + wd).toNat (ints .u32 (part W st (2 + wd))) :: F)) (⟨by simp only; omega, by simp only; omega, by simp, List.sublist_cons_self _ _, hI.ex, hIh0 _ (.own (List.mem_cons_self ..)), fun i hi => by simp at hi, fun j hj => by simp at hj⟩) (.cons rfl .nil) ((fun w hw => hw)) ?_
  rintro ⟨i, L, F1⟩ ⟨i0, i1, hLl, hsub, hI1, hIh, hHat, hOlds⟩ ih
  dsimp only [List.cons_append, List.nil_append] at ih ⊢
  simp only at i0 i1 hLl hsub hI1 hIh hHat hOlds
  refine g_seq ?_
  refine g_region ?_
  refine l_lss rfl rfl rfl ?_
  refine l_nil ?_
  refine g_seq ?_
  refine g_cond rfl ?_ ?_
  · intro hbr
    have hbr := of_decide_eq_true hbr
    refine g_skip ?_
    refine g_seq ?_
    refine g_block ?_
    refine g_seq ?_
    refine g_region ?_
    refine l_move rfl rfl ?_
    refine l_assign rfl rfl ?_
    refine l_nil ?_
    refine g_seq ?_
    refine g_region ?_
    refine l_move rfl rfl ?_
    refine l_move rfl rfl ?_
    refine l_move rfl rfl ?_
    obtain ⟨b9, o9, rfl, hr9⟩ := hI1.some (i := i.toNat) (by omega)
    have hb9 := hP i.toNat
    refine l_ixs rfl Try.underlying34 Try.sizeOf3 rfl rfl (by omega) (by omega) ?_
    refine l_loadc rfl Try.isAgg3 rfl (word_any hr9 (by omega)) ?_
    refine l_move rfl rfl ?_
    first | refine l_add rfl rfl rfl (w_i64 (by omega) (by omega)) ?_ | refine l_addw rfl rfl rfl ?_
    refine l_fronto g ?_
    refine l_frontb b ?_
    refine l_call rfl Try.call48 rfl (rtake_g _ _ b g n c W hW hc hn (P.getD i.toNat 0) (3 + wd) hb9.1 hb9.2 (by omega) (by omega)) ?_; rintro _ _ ⟨a1, k1, c1, X1, f1, rfl, rfl, hT1⟩
    obtain ⟨hk1, hX1, ha1⟩ : k1 = (3 + wd).toNat ∧ X1 = part W (P.getD i.toNat 0) (3 + wd) ∧ (k1 = 0 ∨ ∃ g2, a1 = some ⟨g2, 0, none⟩) := by rcases hT1 with h | h; exact ⟨h.2.2.1, h.2.2.2.1, h.2.2.2.2⟩; exact absurd (hin i.toNat (by omega)) h.2
    clear hT1
    subst hk1
    subst hX1
    obtain ⟨g1, rfl⟩ := ha1.resolve_left (by omega)
    clear ha1
    refine l_move rfl rfl ?_
    refine l_extract rfl rfl rfl ?_
    refine l_extract rfl rfl rfl ?_
    refine l_assign rfl rfl ?_
    refine l_assign rfl rfl ?_
    refine l_nil ?_
    refine g_seq ?_
    refine g_region ?_
    refine l_move rfl rfl ?_
    refine l_fact (own_cases (mem_getO 0 rfl)) ?_; intro hown
    have hcapc1 : (3 + wd).toNat ≤ c1 := by
      rcases hown.2.2 with ⟨h, _⟩ | ⟨g9, cp, h, h2⟩
      · cases h
      · cases h
        exact h2
    clear hown
    have hpl1 := part_len hW (hin i.toNat (by omega))
    refine l_call rfl Try.call49 rfl (rread_g _ _ g1 (3 + wd).toNat c1 (part W (P.getD i.toNat 0) (3 + wd)) hpl1 hcapc1 (.own (mem_getO 0 rfl)) (hU.part _ _) 3 (by omega) wd (by omega) (by omega) (Int.toNat_of_nonneg (show 0 ≤ 3 + wd by omega))) ?_; rintro _ F9 ⟨th1, fr1, a2, q2, c2, T2, ok1, rfl, hF9, hI2, hR1⟩; rw [hF9]; clear hF9 F9
    refine l_move rfl rfl ?_
    refine l_extract rfl rfl rfl ?_
    refine l_extract rfl rfl rfl ?_
    refine l_allocs rfl Try.zeroValue85 ?_; intro b19
    refine l_sts Try.sizeOf85 rfl rfl rfl rfl rfl ?_
    refine l_assign rfl rfl ?_
    refine l_nil ?_
    refine g_seq ?_
    refine g_seq ?_
    refine g_region ?_
    refine l_move rfl rfl ?_
    refine l_not rfl rfl ?_
    refine l_nil ?_
    refine g_cond rfl ?_ ?_
    · intro hbr
      have hb107 := hbr
      refine g_seq ?_
      refine g_region ?_
      refine gl_heap (fun w hw => hw.sub (.cons _ (.cons _ (List.Sublist.cons_cons _ (List.Sublist.cons_cons _ (.cons _ (.cons _ hsub))))))) ?_
      refine l_assign rfl rfl ?_
      refine l_nil ?_
      refine g_ret Try.func40 rfl (.tmp rfl .nil) ?_
      (first | (have h9 : e1 = 1 := (by omega); subst h9; exact Gives.mki ⟨W, 1, rfl, hW, rfl, del_1 (by unfold CntOk WdOk; omega)⟩) | exact Gives.mki ⟨W, 1, rfl, hW, rfl, del_1 (by unfold CntOk WdOk; omega)⟩ | ((have h9 : f1 = 51 ∧ ¬ inR n (P.getD i.toNat 0) (3 + wd) := by (rcases hT1 with h | h; (exact absurd h.1 (by omega)); exact h)); (obtain ⟨rfl, hno⟩ := h9; exact Gives.mki ⟨W, 51, rfl, hW, rfl, del_51 hcnt (.inr ⟨i.toNat, by omega, hno⟩)⟩)) | ((have h9 : f0 = 51 ∧ ¬ inR n st (2 + wd) := by (rcases hT0 with h | h; (exact absurd h.1 (by omega)); exact h)); (obtain ⟨rfl, hno⟩ := h9; exact Gives.mki ⟨W, 51, rfl, hW, rfl, del_51 hcnt (.inl hno)⟩)) | exact Gives.mki ⟨W, 191, rfl, hW, rfl, del_191 hrdy (.inr (.inr ⟨i.toNat, by omega, (by rcases hR1 with ⟨h, _⟩ | ⟨_, _, _, _, h⟩; (exfalso; subst h; simp at hbr); exact h)⟩))⟩ | exact Gives.mki ⟨W, 191, rfl, hW, rfl, del_191 hrdy (.inr (.inl (fun h => by have := hA9.2 h; simp_all)))⟩ | exact Gives.mki ⟨W, 191, rfl, hW, rfl, del_191 hrdy (.inl (by rcases hR with ⟨h, _⟩ | ⟨_, _, _, _, h⟩; (exfalso; subst h; simp at hbr); exact h))⟩ | (subst hX; exact Gives.mki ⟨_, 0, rfl, by rw [spl_length (by simp; omega)]; exact hXl, rfl, del_ok hW hU hrdy hapt hHat hhT th hhth⟩))
    intro hbr
    have hb107 := hbr
    refine g_skip ?_
    refine g_region ?_
    refine l_move rfl rfl ?_
    refine l_move rfl rfl ?_
    refine l_lds rfl Try.isAgg85 Try.sizeOf85 rfl rfl ?_
    refine l_ixs rfl Try.underlying89 Try.sizeOf85 rfl rfl (by omega) (by omega) ?_
    refine l_fronto b84 ?_
    refine l_storeso (l := hvV ⟨th1, fr1, a2, q2, c2, T2⟩) 0 Try.sizeOf85 rfl rfl rfl rfl rfl (by rw [hvR_len]; show 0 + i.toNat * 3 + 3 ≤ _; omega) rfl ?_
    rw [hvR_set (by omega)]
    refine l_nil ?_
    refine g_inBlock ?_
    refine g_region ?_
    first | refine l_add rfl rfl rfl (w_i64 (by omega) (by omega)) ?_ | refine l_addw rfl rfl rfl ?_
    refine l_move rfl rfl ?_
    refine l_nil ?_
    obtain ⟨hh1, hh2⟩ : heldV (part W (P.getD i.toNat 0) (3 + wd)) 3 = some T2 ∧ th1 = decide (0 < T2.length) := by rcases hR1 with ⟨_, h1, h2, _⟩ | ⟨h, _⟩; exact ⟨h1, h2⟩; (subst h; simp_all)
    exact g_againi (ih (i + 1, L.set i.toNat ⟨th1, fr1, a2, q2, c2, T2⟩, Own 28 1 (.slice (some ⟨g1, 0, none⟩) (3 + wd).toNat c1) (3 + wd).toNat (ints .u32 (part W (P.getD i.toNat 0) (3 + wd))) :: F1) ⟨by simp only; omega, by simp only; omega, by simp only [List.length_set]; exact hLl, hsub.cons _, hI1.ex, hIh.ex, fun j hj => by simp only at hj ⊢; rw [hat_set (by omega)]; (split; (rename_i e; rw [e]; exact ⟨hh1, hh2⟩); exact hHat j (by omega)), fun j hj => by simp only at hj ⊢; rw [hat_set (by omega)]; (split; exact hI2 _ (.own (List.mem_cons_self ..)); exact (hOlds j (by omega)).ex)⟩ (by simp only; omega)) (.cons rfl (.cons rfl (.cons rfl (.cons rfl (.cons rfl (.cons rfl (.cons rfl (.cons rfl (.nil)))))))))
  intro hbr
  have hbr := of_decide_eq_false hbr
  refine g_exit rfl ?_
  obtain rfl : i = q := by omega
  rw [Int.toNat_natCast] at hHat hOlds
  obtain ⟨hhT, hhth⟩ : heldV (part W st (2 + wd)) 2 = some T ∧ th = decide (0 < T.length) := by rcases hR with ⟨_, h1, h2, _⟩ | ⟨h, _⟩; exact ⟨h1, h2⟩; (subst h; simp_all)
  have hapt : ApartP st wd P q := hA9.1 (by simp_all)
  clear hR hA9
  have hTl := hIh.1
  have hTU : W32s T := held_u32 hhT (hU.part _ _)
  have hTle : (qh : Int) ≤ wd := by
    rcases held_len hhT with h | h
    · omega
    · rw [h] at hTl
      simp only [List.length_nil] at hTl
      omega
  have hok2 : ∀ i, i < q → IR w0 F1 .u32 (hat L i).a (hat L i).q (hat L i).T ∧ W32s (hat L i).T ∧ ((hat L i).T.length : Int) ≤ wd := fun i hi => ⟨hOlds i hi, held_u32 (hHat i hi).1 (hU.part _ _), by
    have hpl := part_len hW (hin i hi)
    rcases held_len (hHat i hi).1 with h | h
    · omega
    · rw [h]
      simp only [List.length_nil]
      omega⟩
  refine g_seq ?_
  refine g_seq ?_
  refine g_region ?_
  refine l_move rfl rfl ?_
  refine l_len rfl Try.underlying34 rfl ?_
  refine l_move rfl rfl ?_
  refine l_nil ?_
  refine g_block ?_
  refine g_fronto g ?_
  refine g_frontb b ?_
  refine g_loopk (X := Int × List Int) [(0, _), (1, _), (2, _), (3, _), (13, _), (15, _), (114, _)] (.cons rfl (.cons rfl (.cons rfl (.cons rfl (.cons rfl (.cons rfl (.cons rfl (.nil)))))))) (fun z => 0 ≤ z.1 ∧ z.1 ≤ q ∧ z.2 = layQ W P (fun k => layY th T (hat L k) wd) z.1.toNat) (fun z => ((q : Int) - z.1).toNat) (fun z => [(115, .int .i64 z.1)]) (fun z => Blk b (.cells [Value.slice (some ⟨g, 0, none⟩) n c].toArray 58 (0, 0)) :: Own 28 1 (.slice (some ⟨g, 0, none⟩) n c) n (ints .u32 z.2) :: Own 85 3 (.slice (some ⟨b84, 0, none⟩) q q) q (hvR L) :: Blk b13 (.cells [Value.bool th, Value.bool fr, Value.slice ah qh ch].toArray 85 (0, 0)) :: F1) ((0, W)) (⟨by simp only; omega, by simp only; omega, rfl⟩) (.cons rfl .nil) ((fun w hw => hw)) ?_
  rintro ⟨j, X⟩ ⟨j0, j1, hX⟩ ihj
  dsimp only [List.cons_append, List.nil_append] at ihj ⊢
  simp only at j0 j1 hX
  have hYl : ∀ i, i < q → (layY th T (hat L i) wd).length = (3 + wd).toNat := fun i hi => by unfold layY; (split; exact wdV_len (by omega) (by rw [hTl]; exact hTle); exact wdV_len (by omega) (hok2 i hi).2.2)
  have hXl : X.length = n := by rw [hX]; exact layQ_len hW _ fun i hi => by { rw [hYl i (by omega)]; have h := hin i (by omega); unfold inR at h; omega }
  refine g_seq ?_
  refine g_region ?_
  refine l_lss rfl rfl rfl ?_
  refine l_nil ?_
  refine g_seq ?_
  refine g_cond rfl ?_ ?_
  · intro hbr
    have hbr := of_decide_eq_true hbr
    refine g_skip ?_
    refine g_seq ?_
    refine g_block ?_
    refine g_seq ?_
    refine g_region ?_
    refine l_move rfl rfl ?_
    refine l_assign rfl rfl ?_
    refine l_nil ?_
    refine g_seq ?_
    refine g_region ?_
    refine l_move rfl rfl ?_
    refine l_move rfl rfl ?_
    have hii := hin j.toNat (by omega)
    unfold inR pAt at hii
    refine l_ixs rfl Try.underlying89 Try.sizeOf85 rfl rfl (by omega) (by omega) ?_
    refine l_loadr (l := hvV (hat L j.toNat)) rfl Try.isAgg85 Try.sizeOf85 rfl rfl (hv_row (by omega)) ?_
    refine l_allocs rfl Try.zeroValue85 ?_; intro b22
    refine l_sts Try.sizeOf85 rfl rfl rfl rfl rfl ?_
    refine l_nil ?_
    refine g_seq ?_
    refine g_region ?_
    refine l_fieldAddr rfl fa_85_1 rfl ?_
    refine l_st Try.sizeOf4 rfl rfl rfl rfl ?_
    refine l_nil ?_
    refine g_seq ?_
    refine g_seq ?_
    refine g_region ?_
    refine l_fieldAddr rfl fa_85_0 rfl ?_
    refine l_ld rfl Try.isAgg4 rfl rfl ?_
    refine l_nil ?_
    refine g_cond rfl ?_ ?_
    · intro hbr
      have hb124 := hbr
      refine g_region ?_
      refine l_fieldAddr rfl fa_85_2 rfl ?_
      refine l_ld rfl Try.isAgg29 rfl rfl ?_
      refine l_build rfl rfl (fun w => bd_85_0_1_2 _ _ _ _ _ w) ?_
      refine l_sts Try.sizeOf85 rfl rfl rfl rfl rfl ?_
      refine l_nil ?_
      refine gp_start mo (by kernel_rfl) (by kernel_rfl) ?_
      refine gp_quiet 0 rfl rfl rfl rfl rfl rfl (q_move rfl) ?_
      refine gp_quiet 1 rfl rfl rfl rfl rfl rfl (q_move rfl) ?_
      refine gp_quiet 2 rfl rfl rfl rfl rfl rfl (q_move rfl) ?_
      obtain ⟨b9, o9, rfl, hr9⟩ := hI1.some (i := j.toNat) (by omega)
      have hb9 := hP j.toNat
      refine gp_quiet 3 rfl rfl rfl rfl rfl rfl (q_ixs Try.underlying34 Try.sizeOf3 rfl rfl (by omega) (by omega)) ?_
      refine gp_quiet 4 rfl rfl rfl rfl rfl rfl (q_loadc Try.isAgg3 rfl (word_any hr9 (by omega))) ?_
      refine gp_quiet 5 rfl rfl rfl rfl rfl rfl (q_lds Try.isAgg85 Try.sizeOf85 rfl rfl) ?_
      refine gp_quiet 6 rfl rfl rfl rfl rfl rfl (q_move rfl) ?_
      refine gp_effa 7 [5, 6] [4, 3, 2, 1, 0] rfl rfl rfl rfl rfl rfl rfl (does_call Try.call51 rfl (words_h _ _ true true ah qh ch T hIh.ex hTU 3 (.inr rfl) wd (by omega) (by omega) hTle)) ?_
      rintro _ _ ⟨gw, rfl, rfl⟩
      refine ⟨?_, ?_⟩
      · refine .cons rfl rfl rfl rfl rfl (q_loadc Try.isAgg3 rfl (word_any hr9 (by omega))) ?_
        refine .cons rfl rfl rfl rfl rfl (q_ixs Try.underlying34 Try.sizeOf3 rfl rfl (by omega) (by omega)) ?_
        refine .cons rfl rfl rfl rfl rfl (q_move rfl) ?_
        refine .cons rfl rfl rfl rfl rfl (q_move rfl) ?_
        refine .cons rfl rfl rfl rfl rfl (q_move rfl) ?_
        exact .nil
      refine gp_fronto g ?_
      refine gp_frontb b ?_
      refine gp_effa 8 [0, 4] [3, 2, 1] rfl rfl rfl rfl rfl rfl rfl (does_call Try.call50 rfl (rlay_ok _ _ b g n c X hXl hc hn (P.getD j.toNat 0) (by omega) (some ⟨gw, 0, none⟩) (3 + wd).toNat (3 + wd).toNat (wdV true true T 3 wd) (IR.own (wdV_len (by omega) (by rw [hTl]; exact hTle)) (mem_getO 0 rfl) (.inr ⟨_, rfl⟩)) (wdV_u hTU (by omega) (by rw [hTl]; exact hTle) (by omega)) (by omega) (by have h := hin j.toNat (by omega); unfold inR pAt at h; unfold inR; omega))) ?_
      rintro _ _ ⟨rfl, rfl⟩
      refine ⟨?_, ?_⟩
      · refine .cons rfl rfl rfl rfl rfl (q_ixs Try.underlying34 Try.sizeOf3 rfl rfl (by omega) (by omega)) ?_
        refine .cons rfl rfl rfl rfl rfl (q_move rfl) ?_
        refine .cons rfl rfl rfl rfl rfl (q_move rfl) ?_
        exact .nil
      refine gp_end rfl rfl ?_
      refine g_inBlock ?_
      refine g_region ?_
      first | refine l_add rfl rfl rfl (w_i64 (by omega) (by omega)) ?_ | refine l_addw rfl rfl rfl ?_
      refine l_move rfl rfl ?_
      refine l_nil ?_
      (first | (have hY9 : layY th T (hat L j.toNat) wd = wdV true true T 3 wd := by unfold layY; rw [if_pos hb124]) | (have hY9 : layY th T (hat L j.toNat) wd = wdV (hat L j.toNat).th false (hat L j.toNat).T 3 wd := by unfold layY; rw [if_neg (by simp [hb124])]))
      (first | exact g_againi (ihj (j + 1, spl (P.getD j.toNat 0).toNat (wdV true true T 3 wd) X) ⟨by simp only; omega, by simp only; omega, by simp only; rw [show (j + 1).toNat = j.toNat + 1 by omega]; simp only [layQ]; rw [← hX, hY9]; rfl⟩ (by simp only; omega)) (.cons rfl (.cons rfl (.cons rfl (.cons rfl (.cons rfl (.cons rfl (.cons rfl (.cons rfl (.nil))))))))) | exact g_againi (ihj (j + 1, spl (P.getD j.toNat 0).toNat (wdV (hat L j.toNat).th false (hat L j.toNat).T 3 wd) X) ⟨by simp only; omega, by simp only; omega, by simp only; rw [show (j + 1).toNat = j.toNat + 1 by omega]; simp only [layQ]; rw [← hX, hY9]; rfl⟩ (by simp only; omega)) (.cons rfl (.cons rfl (.cons rfl (.cons rfl (.cons rfl (.cons rfl (.cons rfl (.cons rfl (.nil))))))))))
    intro hbr
    have hb124 := hbr
    refine g_skip ?_
    refine gp_start mo (by kernel_rfl) (by kernel_rfl) ?_
    refine gp_quiet 0 rfl rfl rfl rfl rfl rfl (q_move rfl) ?_
    refine gp_quiet 1 rfl rfl rfl rfl rfl rfl (q_move rfl) ?_
    refine gp_quiet 2 rfl rfl rfl rfl rfl rfl (q_move rfl) ?_
    obtain ⟨b9, o9, rfl, hr9⟩ := hI1.some (i := j.toNat) (by omega)
    have hb9 := hP j.toNat
    refine gp_quiet 3 rfl rfl rfl rfl rfl rfl (q_ixs Try.underlying34 Try.sizeOf3 rfl rfl (by omega) (by omega)) ?_
    refine gp_quiet 4 rfl rfl rfl rfl rfl rfl (q_loadc Try.isAgg3 rfl (word_any hr9 (by omega))) ?_
    refine gp_quiet 5 rfl rfl rfl rfl rfl rfl (q_lds Try.isAgg85 Try.sizeOf85 rfl rfl) ?_
    refine gp_quiet 6 rfl rfl rfl rfl rfl rfl (q_move rfl) ?_
    have hoj := hok2 j.toNat (by omega)
    refine gp_effa 7 [5, 6] [4, 3, 2, 1, 0] rfl rfl rfl rfl rfl rfl rfl (does_call Try.call51 rfl (words_h _ _ (hat L j.toNat).th false (hat L j.toNat).a (hat L j.toNat).q (hat L j.toNat).c (hat L j.toNat).T hoj.1.ex hoj.2.1 3 (.inr rfl) wd (by omega) (by omega) (by rw [← hoj.1.1]; exact hoj.2.2))) ?_
    rintro _ _ ⟨gw, rfl, rfl⟩
    refine ⟨?_, ?_⟩
    · refine .cons rfl rfl rfl rfl rfl (q_loadc Try.isAgg3 rfl (word_any hr9 (by omega))) ?_
      refine .cons rfl rfl rfl rfl rfl (q_ixs Try.underlying34 Try.sizeOf3 rfl rfl (by omega) (by omega)) ?_
      refine .cons rfl rfl rfl rfl rfl (q_move rfl) ?_
      refine .cons rfl rfl rfl rfl rfl (q_move rfl) ?_
      refine .cons rfl rfl rfl rfl rfl (q_move rfl) ?_
      exact .nil
    refine gp_fronto g ?_
    refine gp_frontb b ?_
    refine gp_effa 8 [0, 4] [3, 2, 1] rfl rfl rfl rfl rfl rfl rfl (does_call Try.call50 rfl (rlay_ok _ _ b g n c X hXl hc hn (P.getD j.toNat 0) (by omega) (some ⟨gw, 0, none⟩) (3 + wd).toNat (3 + wd).toNat (wdV (hat L j.toNat).th false (hat L j.toNat).T 3 wd) (IR.own (wdV_len (by omega) hoj.2.2) (mem_getO 0 rfl) (.inr ⟨_, rfl⟩)) (wdV_u hoj.2.1 (by omega) hoj.2.2 (by omega)) (by omega) (by have h := hin j.toNat (by omega); unfold inR pAt at h; unfold inR; omega))) ?_
    rintro _ _ ⟨rfl, rfl⟩
    refine ⟨?_, ?_⟩
    · refine .cons rfl rfl rfl rfl rfl (q_ixs Try.underlying34 Try.sizeOf3 rfl rfl (by omega) (by omega)) ?_
      refine .cons rfl rfl rfl rfl rfl (q_move rfl) ?_
      refine .cons rfl rfl rfl rfl rfl (q_move rfl) ?_
      exact .nil
    refine gp_end rfl rfl ?_
    refine g_inBlock ?_
    refine g_region ?_
    first | refine l_add rfl rfl rfl (w_i64 (by omega) (by omega)) ?_ | refine l_addw rfl rfl rfl ?_
    refine l_move rfl rfl ?_
    refine l_nil ?_
    (first | (have hY9 : layY th T (hat L j.toNat) wd = wdV true true T 3 wd := by unfold layY; rw [if_pos hb124]) | (have hY9 : layY th T (hat L j.toNat) wd = wdV (hat L j.toNat).th false (hat L j.toNat).T 3 wd := by unfold layY; rw [if_neg (by simp [hb124])]))
    (first | exact g_againi (ihj (j + 1, spl (P.getD j.toNat 0).toNat (wdV true true T 3 wd) X) ⟨by simp only; omega, by simp only; omega, by simp only; rw [show (j + 1).toNat = j.toNat + 1 by omega]; simp only [layQ]; rw [← hX, hY9]; rfl⟩ (by simp only; omega)) (.cons rfl (.cons rfl (.cons rfl (.cons rfl (.cons rfl (.cons rfl (.cons rfl (.cons rfl (.nil))))))))) | exact g_againi (ihj (j + 1, spl (P.getD j.toNat 0).toNat (wdV (hat L j.toNat).th false (hat L j.toNat).T 3 wd) X) ⟨by simp only; omega, by simp only; omega, by simp only; rw [show (j + 1).toNat = j.toNat + 1 by omega]; simp only [layQ]; rw [← hX, hY9]; rfl⟩ (by simp only; omega)) (.cons rfl (.cons rfl (.cons rfl (.cons rfl (.cons rfl (.cons rfl (.cons rfl (.cons rfl (.nil))))))))))
  intro hbr
  have hbr := of_decide_eq_false hbr
  refine g_exit rfl ?_
  obtain rfl : j = q := by omega
  rw [Int.toNat_natCast] at hX
  have hst9 := hst
  unfold inR at hst9
  refine g_heap (fun w hw => hw.sub (List.Sublist.cons_cons _ (List.Sublist.cons_cons _ (List.Sublist.cons_cons _ (List.Sublist.cons_cons _ hsub))))) ?_
  refine g_seq ?_
  refine g_region ?_
  refine l_move rfl rfl ?_
  refine l_move rfl rfl ?_
  refine l_build rfl rfl (fun w => bd_85_z w) ?_
  refine l_move rfl rfl ?_
  refine l_call rfl Try.call51 rfl (words_h _ _ false false none 0 0 [] ⟨rfl, .inl rfl⟩ (W32s.of (by simp)) 2 (.inl rfl) wd (by omega) (by omega) (by simp; omega)) ?_; rintro _ _ ⟨gw, rfl, rfl⟩
  rw [show wdV false false [] 2 wd = List.replicate (2 + wd).toNat 0 by unfold wdV; rw [if_neg (by simp)]; rfl]
  refine l_fronto g ?_
  refine l_frontb b ?_
  refine l_call rfl Try.call50 rfl (rlay_ok _ _ b g n c X hXl hc hn st (by omega) (some ⟨gw, 0, none⟩) (2 + wd).toNat (2 + wd).toNat (List.replicate (2 + wd).toNat 0) (IR.own (by simp) (mem_getO 0 rfl) (.inr ⟨_, rfl⟩)) (rep_u32 _) (by omega) (by unfold inR; omega)) ?_; rintro _ _ ⟨rfl, rfl⟩
  refine l_assign rfl rfl ?_
  refine l_nil ?_
  refine g_ret Try.func40 rfl (.tmp rfl .nil) ?_
  (first | (have h9 : e1 = 1 := (by omega); subst h9; exact Gives.mki ⟨W, 1, rfl, hW, rfl, del_1 (by unfold CntOk WdOk; omega)⟩) | exact Gives.mki ⟨W, 1, rfl, hW, rfl, del_1 (by unfold CntOk WdOk; omega)⟩ | ((have h9 : f1 = 51 ∧ ¬ inR n (P.getD i.toNat 0) (3 + wd) := by (rcases hT1 with h | h; (exact absurd h.1 (by omega)); exact h)); (obtain ⟨rfl, hno⟩ := h9; exact Gives.mki ⟨W, 51, rfl, hW, rfl, del_51 hcnt (.inr ⟨i.toNat, by omega, hno⟩)⟩)) | ((have h9 : f0 = 51 ∧ ¬ inR n st (2 + wd) := by (rcases hT0 with h | h; (exact absurd h.1 (by omega)); exact h)); (obtain ⟨rfl, hno⟩ := h9; exact Gives.mki ⟨W, 51, rfl, hW, rfl, del_51 hcnt (.inl hno)⟩)) | exact Gives.mki ⟨W, 191, rfl, hW, rfl, del_191 hrdy (.inr (.inr ⟨i.toNat, by omega, (by rcases hR1 with ⟨h, _⟩ | ⟨_, _, _, _, h⟩; (exfalso; subst h; simp at hbr); exact h)⟩))⟩ | exact Gives.mki ⟨W, 191, rfl, hW, rfl, del_191 hrdy (.inr (.inl (fun h => by have := hA9.2 h; simp_all)))⟩ | exact Gives.mki ⟨W, 191, rfl, hW, rfl, del_191 hrdy (.inl (by rcases hR with ⟨h, _⟩ | ⟨_, _, _, _, h⟩; (exfalso; subst h; simp at hbr); exact h))⟩ | (subst hX; exact Gives.mki ⟨_, 0, rfl, by rw [spl_length (by simp; omega)]; exact hXl, rfl, del_ok hW hU hrdy hapt hHat hhT th hhth⟩))
end Go.Proofs.Ythngpcaljljlaaa.Fw
