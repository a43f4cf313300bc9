import Derived.Test.YtoflbmjdpngdiaaMem
namespace Go.Proofs.Ytoflbmjdpngdiaa.Fw
open Go Go.Proofs
set_option linter.unusedVariables false
set_option linter.unusedSimpArgs false
set_option maxRecDepth 10000

theorem rwords_ok (w0 : World) (F : List Atom) (b g n c : Nat) (W : List Int) (hW : W.length = n) (hc : n ≤ c) (hn : n ≤ 1073741824) (at_ : Int) (a1 : at_ ≤ 9223372036854775807) (h : inR n at_ 2) :
    CallK Try.prog 29 [.pointer (some ⟨b, 0, none⟩), .int .i64 at_] w0 (Blk b (.cells [.slice (some ⟨g, 0, none⟩) n c].toArray 58 (0, 0)) :: Own 23 1 (.slice (some ⟨g, 0, none⟩) n c) n (ints .u32 W) :: F) (Gives w0 fun v F2 => v = .tuple #[.int .u32 (W.getD at_.toNat 0), .int .u32 (W.getD (at_.toNat + 1) 0), .int .i64 0] ∧ F2 = Blk b (.cells [.slice (some ⟨g, 0, none⟩) n c].toArray 58 (0, 0)) :: Own 23 1 (.slice (some ⟨g, 0, none⟩) n c) n (ints .u32 W) :: F) := by
  obtain ⟨h0, _, h2, h3⟩ := (show 0 ≤ at_ ∧ (0:Int) ≤ 2 ∧ at_ ≤ n ∧ (2:Int) ≤ n - at_ from h)
  refine c_enter Try.func29 rfl rfl rfl ?_
  refine g_seq ?_
  refine g_region ?_
  refine l_assign rfl rfl ?_
  refine l_assign rfl rfl ?_
  refine l_assign rfl rfl ?_
  refine l_nil ?_
  refine g_seq ?_
  refine g_seq ?_
  refine g_region ?_
  refine l_move rfl rfl ?_
  refine l_eqpn rfl Try.underlying32 rfl rfl ?_
  refine l_nil ?_
  refine g_cond_f rfl ?_
  refine g_skip ?_
  refine g_seq ?_
  refine g_region ?_
  refine l_move rfl rfl ?_
  refine l_move rfl rfl ?_
  refine l_call rfl Try.call32 rfl (rread_ok _ _ b g n c W hW hc hn _ (by omega) (by unfold inR; omega)) ?_; rintro _ _ ⟨rfl, rfl⟩
  refine l_move rfl rfl ?_
  refine l_extract rfl rfl rfl ?_
  refine l_extract rfl rfl rfl ?_
  refine l_assign rfl rfl ?_
  refine l_assign rfl rfl ?_
  refine l_nil ?_
  refine g_seq ?_
  refine g_seq ?_
  refine g_region ?_
  refine l_move rfl rfl ?_
  refine l_neq rfl rfl rfl ?_
  refine l_nil ?_
  refine g_cond rfl ?_ ?_
  · intro hbr
    have hbr := of_decide_eq_true hbr
    (exfalso; omega)
  intro hbr
  have hbr := of_decide_eq_false hbr
  refine g_skip ?_
  refine g_seq ?_
  refine g_region ?_
  refine l_move rfl rfl ?_
  refine l_move rfl rfl ?_
  first | refine l_add rfl rfl rfl (w_i64 (by omega) (by omega)) ?_ | refine l_addw rfl rfl rfl ?_
  refine l_call rfl Try.call32 rfl (rread_ok _ _ b g n c W hW hc hn _ (by omega) (by unfold inR; omega)) ?_; rintro _ _ ⟨rfl, rfl⟩
  refine l_move rfl rfl ?_
  refine l_extract rfl rfl rfl ?_
  refine l_extract rfl rfl rfl ?_
  refine l_assign rfl rfl ?_
  refine l_assign rfl rfl ?_
  refine l_nil ?_
  refine g_seq ?_
  refine g_region ?_
  refine l_move rfl rfl ?_
  refine l_move rfl rfl ?_
  refine l_move rfl rfl ?_
  refine l_assign rfl rfl ?_
  refine l_assign rfl rfl ?_
  refine l_assign rfl rfl ?_
  refine l_nil ?_
  refine g_ret Try.func29 rfl (.tmp rfl (.tmp rfl (.tmp rfl .nil))) ?_
  exact Gives.mk ⟨by rw [show at_.toNat + 1 = (at_ + 1).toNat by omega]; rfl, rfl⟩ .refl
theorem rwords_out1 (w0 : World) (F : List Atom) (b g n c : Nat) (W : List Int) (hW : W.length = n) (hc : n ≤ c) (hn : n ≤ 1073741824) (at_ : Int) (a0 : -9223372036854775808 ≤ at_) (a1 : at_ ≤ 9223372036854775807) (h : ¬ inR n at_ 1) :
    CallK Try.prog 29 [.pointer (some ⟨b, 0, none⟩), .int .i64 at_] w0 (Blk b (.cells [.slice (some ⟨g, 0, none⟩) n c].toArray 58 (0, 0)) :: Own 23 1 (.slice (some ⟨g, 0, none⟩) n c) n (ints .u32 W) :: F) (Gives w0 fun v F2 => v = .tuple #[.int .u32 0, .int .u32 0, .int .i64 51] ∧ F2 = Blk b (.cells [.slice (some ⟨g, 0, none⟩) n c].toArray 58 (0, 0)) :: Own 23 1 (.slice (some ⟨g, 0, none⟩) n c) n (ints .u32 W) :: F) := by
  refine c_enter Try.func29 rfl rfl rfl ?_
  refine g_seq ?_
  refine g_region ?_
  refine l_assign rfl rfl ?_
  refine l_assign rfl rfl ?_
  refine l_assign rfl rfl ?_
  refine l_nil ?_
  refine g_seq ?_
  refine g_seq ?_
  refine g_region ?_
  refine l_move rfl rfl ?_
  refine l_eqpn rfl Try.underlying32 rfl rfl ?_
  refine l_nil ?_
  refine g_cond_f rfl ?_
  refine g_skip ?_
  refine g_seq ?_
  refine g_region ?_
  refine l_move rfl rfl ?_
  refine l_move rfl rfl ?_
  refine l_call rfl Try.call32 rfl (rread_bad _ _ b g n c W hW hc hn _ (by omega) (by omega) h) ?_; rintro _ _ ⟨rfl, rfl⟩
  refine l_move rfl rfl ?_
  refine l_extract rfl rfl rfl ?_
  refine l_extract rfl rfl rfl ?_
  refine l_assign rfl rfl ?_
  refine l_assign rfl rfl ?_
  refine l_nil ?_
  refine g_seq ?_
  refine g_seq ?_
  refine g_region ?_
  refine l_move rfl rfl ?_
  refine l_neq rfl rfl rfl ?_
  refine l_nil ?_
  refine g_cond rfl ?_ ?_
  · intro hbr
    have hbr := of_decide_eq_true hbr
    refine g_seq ?_
    refine g_region ?_
    refine l_move rfl rfl ?_
    refine l_assign rfl rfl ?_
    refine l_assign rfl rfl ?_
    refine l_assign rfl rfl ?_
    refine l_nil ?_
    refine g_ret Try.func29 rfl (.tmp rfl (.tmp rfl (.tmp rfl .nil))) ?_
    exact Gives.mk ⟨rfl, rfl⟩ .refl
  · intro hbr
    have hbr := of_decide_eq_false hbr
    (exfalso; omega)
theorem rwords_out2 (w0 : World) (F : List Atom) (b g n c : Nat) (W : List Int) (hW : W.length = n) (hc : n ≤ c) (hn : n ≤ 1073741824) (at_ : Int) (a1 : at_ ≤ 9223372036854775807) (h1 : inR n at_ 1) (h : ¬ inR n at_ 2) :
    CallK Try.prog 29 [.pointer (some ⟨b, 0, none⟩), .int .i64 at_] w0 (Blk b (.cells [.slice (some ⟨g, 0, none⟩) n c].toArray 58 (0, 0)) :: Own 23 1 (.slice (some ⟨g, 0, none⟩) n c) n (ints .u32 W) :: F) (Gives w0 fun v F2 => (∃ x, v = .tuple #[.int .u32 x, .int .u32 0, .int .i64 51]) ∧ F2 = Blk b (.cells [.slice (some ⟨g, 0, none⟩) n c].toArray 58 (0, 0)) :: Own 23 1 (.slice (some ⟨g, 0, none⟩) n c) n (ints .u32 W) :: F) := by
  obtain ⟨h0, h2⟩ := inR1 h1
  have h3 : n = at_ + 1 := by unfold inR at h; omega
  refine c_enter Try.func29 rfl rfl rfl ?_
  refine g_seq ?_
  refine g_region ?_
  refine l_assign rfl rfl ?_
  refine l_assign rfl rfl ?_
  refine l_assign rfl rfl ?_
  refine l_nil ?_
  refine g_seq ?_
  refine g_seq ?_
  refine g_region ?_
  refine l_move rfl rfl ?_
  refine l_eqpn rfl Try.underlying32 rfl rfl ?_
  refine l_nil ?_
  refine g_cond_f rfl ?_
  refine g_skip ?_
  refine g_seq ?_
  refine g_region ?_
  refine l_move rfl rfl ?_
  refine l_move rfl rfl ?_
  refine l_call rfl Try.call32 rfl (rread_ok _ _ b g n c W hW hc hn _ (by omega) h1) ?_; rintro _ _ ⟨rfl, rfl⟩
  refine l_move rfl rfl ?_
  refine l_extract rfl rfl rfl ?_
  refine l_extract rfl rfl rfl ?_
  refine l_assign rfl rfl ?_
  refine l_assign rfl rfl ?_
  refine l_nil ?_
  refine g_seq ?_
  refine g_seq ?_
  refine g_region ?_
  refine l_move rfl rfl ?_
  refine l_neq rfl rfl rfl ?_
  refine l_nil ?_
  refine g_cond rfl ?_ ?_
  · intro hbr
    have hbr := of_decide_eq_true hbr
    (exfalso; omega)
  intro hbr
  have hbr := of_decide_eq_false hbr
  refine g_skip ?_
  refine g_seq ?_
  refine g_region ?_
  refine l_move rfl rfl ?_
  refine l_move rfl rfl ?_
  first | refine l_add rfl rfl rfl (w_i64 (by omega) (by omega)) ?_ | refine l_addw rfl rfl rfl ?_
  refine l_call rfl Try.call32 rfl (rread_bad _ _ b g n c W hW hc hn _ (by omega) (by omega) (by unfold inR; omega)) ?_; rintro _ _ ⟨rfl, rfl⟩
  refine l_move rfl rfl ?_
  refine l_extract rfl rfl rfl ?_
  refine l_extract rfl rfl rfl ?_
  refine l_assign rfl rfl ?_
  refine l_assign rfl rfl ?_
  refine l_nil ?_
  refine g_seq ?_
  refine g_region ?_
  refine l_move rfl rfl ?_
  refine l_move rfl rfl ?_
  refine l_move rfl rfl ?_
  refine l_assign rfl rfl ?_
  refine l_assign rfl rfl ?_
  refine l_assign rfl rfl ?_
  refine l_nil ?_
  refine g_ret Try.func29 rfl (.tmp rfl (.tmp rfl (.tmp rfl .nil))) ?_
  exact Gives.mk ⟨⟨_, rfl⟩, rfl⟩ .refl
theorem rwords_out (w0 : World) (F : List Atom) (b g n c : Nat) (W : List Int) (hW : W.length = n) (hc : n ≤ c) (hn : n ≤ 1073741824) (at_ : Int) (a0 : -9223372036854775808 ≤ at_) (a1 : at_ ≤ 9223372036854775807) (h : ¬ inR n at_ 2) : CallK Try.prog 29 [.pointer (some ⟨b, 0, none⟩), .int .i64 at_] w0 (Blk b (.cells [.slice (some ⟨g, 0, none⟩) n c].toArray 58 (0, 0)) :: Own 23 1 (.slice (some ⟨g, 0, none⟩) n c) n (ints .u32 W) :: F) (Gives w0 fun v F2 => (∃ x, v = .tuple #[.int .u32 x, .int .u32 0, .int .i64 51]) ∧ F2 = Blk b (.cells [.slice (some ⟨g, 0, none⟩) n c].toArray 58 (0, 0)) :: Own 23 1 (.slice (some ⟨g, 0, none⟩) n c) n (ints .u32 W) :: F) := by
  by_cases h1 : inR n at_ 1
  · exact rwords_out2 _ _ b g n c W hW hc hn _ a1 h1 h
  · exact (rwords_out1 _ _ b g n c W hW hc hn _ a0 a1 h1).gmono fun v F' ⟨h1, h2⟩ => ⟨⟨_, h1⟩, h2⟩
theorem rcores_ok (w0 : World) (F : List Atom) (kk : Int) (hk : 1 ≤ kk ∧ kk ≤ 4) :
    CallK Try.prog 30 [.int .i64 kk] w0 (F) (Gives w0 fun v F2 => v = .int .i64 0 ∧ F2 = F) := by
  refine c_enter Try.func30 rfl rfl rfl ?_
  refine g_seq ?_
  refine g_region ?_
  refine l_assign rfl rfl ?_
  refine l_nil ?_
  refine g_seq ?_
  refine g_seq ?_
  refine g_region ?_
  refine l_move rfl rfl ?_
  refine l_lss rfl rfl rfl ?_
  refine l_move rfl rfl ?_
  refine l_split 5 rfl ?_ ?_
  · intro hbr
    have hbr := of_decide_eq_true hbr
    (exfalso; omega)
  intro hbr
  have hbr := of_decide_eq_false hbr
  refine l_guard_yes rfl rfl ?_
  refine l_move rfl rfl ?_
  refine l_guard_yes rfl rfl ?_
  refine l_gtr rfl rfl rfl ?_
  refine l_pick_f rfl rfl rfl ?_
  refine l_nil ?_
  refine g_cond rfl ?_ ?_
  · intro hbr
    have hbr := of_decide_eq_true hbr
    (exfalso; omega)
  intro hbr
  have hbr := of_decide_eq_false hbr
  refine g_skip ?_
  refine g_seq ?_
  refine g_region ?_
  refine l_assign rfl rfl ?_
  refine l_nil ?_
  refine g_ret Try.func30 rfl (.tmp rfl .nil) ?_
  exact Gives.mk ⟨rfl, rfl⟩ .refl
theorem rcores_bad (w0 : World) (F : List Atom) (kk : Int) (hk : ¬ (1 ≤ kk ∧ kk ≤ 4)) :
    CallK Try.prog 30 [.int .i64 kk] w0 (F) (Gives w0 fun v F2 => v = .int .i64 180 ∧ F2 = F) := by
  refine c_enter Try.func30 rfl rfl rfl ?_
  refine g_seq ?_
  refine g_region ?_
  refine l_assign rfl rfl ?_
  refine l_nil ?_
  refine g_seq ?_
  refine g_seq ?_
  refine g_region ?_
  refine l_move rfl rfl ?_
  refine l_lss rfl rfl rfl ?_
  refine l_move rfl rfl ?_
  refine l_split 5 rfl ?_ ?_
  · intro hbr
    have hbr := of_decide_eq_true hbr
    refine l_guard_no rfl rfl rfl ?_
    refine l_guard_no rfl rfl rfl ?_
    refine l_pick_t rfl rfl rfl ?_
    refine l_nil ?_
    refine g_cond_t rfl ?_
    refine g_seq ?_
    refine g_region ?_
    refine l_assign rfl rfl ?_
    refine l_nil ?_
    refine g_ret Try.func30 rfl (.tmp rfl .nil) ?_
    exact Gives.mk ⟨rfl, rfl⟩ .refl
  intro hbr
  have hbr := of_decide_eq_false hbr
  refine l_guard_yes rfl rfl ?_
  refine l_move rfl rfl ?_
  refine l_guard_yes rfl rfl ?_
  refine l_gtr rfl rfl rfl ?_
  refine l_pick_f rfl rfl rfl ?_
  refine l_nil ?_
  refine g_cond rfl ?_ ?_
  · intro hbr
    have hbr := of_decide_eq_true hbr
    refine g_seq ?_
    refine g_region ?_
    refine l_assign rfl rfl ?_
    refine l_nil ?_
    refine g_ret Try.func30 rfl (.tmp rfl .nil) ?_
    exact Gives.mk ⟨rfl, rfl⟩ .refl
  · intro hbr
    have hbr := of_decide_eq_false hbr
    (exfalso; omega)
theorem rlook_ok (w0 : World) (F : List Atom) (b g n c : Nat) (W : List Int) (hW : W.length = n) (hc : n ≤ c) (hn : n ≤ 1073741824) (hU : ∀ i, 0 ≤ W.getD i 0 ∧ W.getD i 0 ≤ 4294967295) (at_ : Int) (a1 : at_ ≤ 9223372036854775807) (h : inR n at_ 2) :
    CallK Try.prog 21 [.pointer (some ⟨b, 0, none⟩), .int .i64 at_] w0 (Blk b (.cells [.slice (some ⟨g, 0, none⟩) n c].toArray 58 (0, 0)) :: Own 23 1 (.slice (some ⟨g, 0, none⟩) n c) n (ints .u32 W) :: F) (Gives w0 fun v F2 => v = .tuple #[.int .i64 (W.getD at_.toNat 0), .int .i64 (W.getD (at_.toNat + 1) 0), .int .i64 0] ∧ F2 = Blk b (.cells [.slice (some ⟨g, 0, none⟩) n c].toArray 58 (0, 0)) :: Own 23 1 (.slice (some ⟨g, 0, none⟩) n c) n (ints .u32 W) :: F) := by
  obtain ⟨h0, _, h2, h3⟩ := (show 0 ≤ at_ ∧ (0:Int) ≤ 2 ∧ at_ ≤ n ∧ (2:Int) ≤ n - at_ from h)
  obtain ⟨u0, u1⟩ := hU at_.toNat
  obtain ⟨u2, u3⟩ := hU (at_.toNat + 1)
  refine c_enter Try.func21 rfl rfl rfl ?_
  refine g_seq ?_
  refine g_region ?_
  refine l_assign rfl rfl ?_
  refine l_assign rfl rfl ?_
  refine l_assign rfl rfl ?_
  refine l_nil ?_
  refine g_seq ?_
  refine g_region ?_
  refine l_move rfl rfl ?_
  refine l_move rfl rfl ?_
  refine l_call rfl Try.call29 rfl (rwords_ok _ _ b g n c W hW hc hn _ (by omega) h) ?_; rintro _ _ ⟨rfl, rfl⟩
  refine l_move rfl rfl ?_
  refine l_extract rfl rfl rfl ?_
  refine l_extract rfl rfl rfl ?_
  refine l_extract rfl rfl rfl ?_
  refine l_assign rfl rfl ?_
  refine l_assign rfl rfl ?_
  refine l_assign rfl rfl ?_
  refine l_nil ?_
  refine g_seq ?_
  refine g_seq ?_
  refine g_region ?_
  refine l_move rfl rfl ?_
  refine l_neq rfl rfl rfl ?_
  refine l_nil ?_
  refine g_cond rfl ?_ ?_
  · intro hbr
    have hbr := of_decide_eq_true hbr
    (exfalso; omega)
  intro hbr
  have hbr := of_decide_eq_false hbr
  refine g_skip ?_
  refine g_seq ?_
  refine g_region ?_
  refine l_move rfl rfl ?_
  first | refine l_conv rfl Try.underlying23 Try.underlying3 rfl (w_i64 (by omega) (by omega)) ?_ | refine l_convw rfl Try.underlying23 Try.underlying3 rfl ?_
  refine l_move rfl rfl ?_
  first | refine l_conv rfl Try.underlying23 Try.underlying3 rfl (w_i64 (by omega) (by omega)) ?_ | refine l_convw rfl Try.underlying23 Try.underlying3 rfl ?_
  refine l_assign rfl rfl ?_
  refine l_assign rfl rfl ?_
  refine l_assign rfl rfl ?_
  refine l_nil ?_
  refine g_ret Try.func21 rfl (.tmp rfl (.tmp rfl (.tmp rfl .nil))) ?_
  exact Gives.mk ⟨rfl, rfl⟩ .refl
theorem rlook_out (w0 : World) (F : List Atom) (b g n c : Nat) (W : List Int) (hW : W.length = n) (hc : n ≤ c) (hn : n ≤ 1073741824) (at_ : Int) (a0 : -9223372036854775808 ≤ at_) (a1 : at_ ≤ 9223372036854775807) (h : ¬ inR n at_ 2) :
    CallK Try.prog 21 [.pointer (some ⟨b, 0, none⟩), .int .i64 at_] w0 (Blk b (.cells [.slice (some ⟨g, 0, none⟩) n c].toArray 58 (0, 0)) :: Own 23 1 (.slice (some ⟨g, 0, none⟩) n c) n (ints .u32 W) :: F) (Gives w0 fun v F2 => v = .tuple #[.int .i64 0, .int .i64 0, .int .i64 51] ∧ F2 = Blk b (.cells [.slice (some ⟨g, 0, none⟩) n c].toArray 58 (0, 0)) :: Own 23 1 (.slice (some ⟨g, 0, none⟩) n c) n (ints .u32 W) :: F) := by
  refine c_enter Try.func21 rfl rfl rfl ?_
  refine g_seq ?_
  refine g_region ?_
  refine l_assign rfl rfl ?_
  refine l_assign rfl rfl ?_
  refine l_assign rfl rfl ?_
  refine l_nil ?_
  refine g_seq ?_
  refine g_region ?_
  refine l_move rfl rfl ?_
  refine l_move rfl rfl ?_
  refine l_call rfl Try.call29 rfl (rwords_out _ _ b g n c W hW hc hn _ (by omega) (by omega) h) ?_; rintro _ _ ⟨⟨x9, rfl⟩, rfl⟩
  refine l_move rfl rfl ?_
  refine l_extract rfl rfl rfl ?_
  refine l_extract rfl rfl rfl ?_
  refine l_extract rfl rfl rfl ?_
  refine l_assign rfl rfl ?_
  refine l_assign rfl rfl ?_
  refine l_assign rfl rfl ?_
  refine l_nil ?_
  refine g_seq ?_
  refine g_seq ?_
  refine g_region ?_
  refine l_move rfl rfl ?_
  refine l_neq rfl rfl rfl ?_
  refine l_nil ?_
  refine g_cond rfl ?_ ?_
  · intro hbr
    have hbr := of_decide_eq_true hbr
    refine g_seq ?_
    refine g_region ?_
    refine l_move rfl rfl ?_
    refine l_assign rfl rfl ?_
    refine l_assign rfl rfl ?_
    refine l_assign rfl rfl ?_
    refine l_nil ?_
    refine g_ret Try.func21 rfl (.tmp rfl (.tmp rfl (.tmp rfl .nil))) ?_
    exact Gives.mk ⟨rfl, rfl⟩ .refl
  · intro hbr
    have hbr := of_decide_eq_false hbr
    (exfalso; omega)
theorem rcome_full (w0 : World) (F : List Atom) (b g n c : Nat) (W : List Int) (hW : W.length = n) (hc : n ≤ c) (hn : n ≤ 1073741824) (hU : ∀ i, 0 ≤ W.getD i 0 ∧ W.getD i 0 ≤ 4294967295) (at_ : Int) (a1 : at_ ≤ 9223372036854775807) (h : inR n at_ 2) (kk : Int) (k0 : -9223372036854775808 ≤ kk) (k1 : kk ≤ 9223372036854775807) (hk : 1 ≤ kk ∧ kk ≤ 4) (hf : kk ≤ W.getD at_.toNat 0) :
    CallK Try.prog 22 [.pointer (some ⟨b, 0, none⟩), .int .i64 at_, .int .i64 kk] w0 (Blk b (.cells [.slice (some ⟨g, 0, none⟩) n c].toArray 58 (0, 0)) :: Own 23 1 (.slice (some ⟨g, 0, none⟩) n c) n (ints .u32 W) :: F) (Gives w0 fun v F2 => v = .tuple #[.bool false, .int .i64 181] ∧ F2 = Blk b (.cells [.slice (some ⟨g, 0, none⟩) n c].toArray 58 (0, 0)) :: Own 23 1 (.slice (some ⟨g, 0, none⟩) n c) n (ints .u32 W) :: F) := by
  obtain ⟨h0, _, h2, h3⟩ := (show 0 ≤ at_ ∧ (0:Int) ≤ 2 ∧ at_ ≤ n ∧ (2:Int) ≤ n - at_ from h)
  obtain ⟨u0, u1⟩ := hU at_.toNat
  obtain ⟨u2, u3⟩ := hU (at_.toNat + 1)
  refine c_enter Try.func22 rfl rfl rfl ?_
  refine g_seq ?_
  refine g_region ?_
  refine l_assign rfl rfl ?_
  refine l_assign rfl rfl ?_
  refine l_nil ?_
  refine g_seq ?_
  refine g_region ?_
  refine l_move rfl rfl ?_
  refine l_move rfl rfl ?_
  refine l_call rfl Try.call29 rfl (rwords_ok _ _ b g n c W hW hc hn _ (by omega) h) ?_; rintro _ _ ⟨rfl, rfl⟩
  refine l_move rfl rfl ?_
  refine l_extract rfl rfl rfl ?_
  refine l_extract rfl rfl rfl ?_
  refine l_extract rfl rfl rfl ?_
  refine l_assign rfl rfl ?_
  refine l_assign rfl rfl ?_
  refine l_assign rfl rfl ?_
  refine l_nil ?_
  refine g_seq ?_
  refine g_seq ?_
  refine g_region ?_
  refine l_move rfl rfl ?_
  refine l_eql rfl rfl rfl ?_
  refine l_nil ?_
  refine g_cond rfl ?_ ?_
  · intro hbr
    have hbr := of_decide_eq_true hbr
    refine g_region ?_
    refine l_move rfl rfl ?_
    refine l_call rfl Try.call30 rfl (rcores_ok _ _ _ hk) ?_; rintro _ _ ⟨rfl, rfl⟩
    refine l_assign rfl rfl ?_
    refine l_nil ?_
    refine g_seq ?_
    refine g_seq ?_
    refine g_region ?_
    refine l_move rfl rfl ?_
    refine l_neq rfl rfl rfl ?_
    refine l_nil ?_
    refine g_cond rfl ?_ ?_
    · intro hbr
      have hbr := of_decide_eq_true hbr
      (exfalso; omega)
    intro hbr
    have hbr := of_decide_eq_false hbr
    refine g_skip ?_
    refine g_seq ?_
    refine g_seq ?_
    refine g_region ?_
    refine l_move rfl rfl ?_
    first | refine l_conv rfl Try.underlying23 Try.underlying3 rfl (w_i64 (by omega) (by omega)) ?_ | refine l_convw rfl Try.underlying23 Try.underlying3 rfl ?_
    refine l_move rfl rfl ?_
    refine l_geq rfl rfl rfl ?_
    refine l_nil ?_
    refine g_cond rfl ?_ ?_
    · intro hbr
      have hbr := of_decide_eq_true hbr
      refine g_seq ?_
      refine g_region ?_
      refine l_assign rfl rfl ?_
      refine l_assign rfl rfl ?_
      refine l_nil ?_
      refine g_ret Try.func22 rfl (.tmp rfl (.tmp rfl .nil)) ?_
      exact Gives.mk ⟨rfl, rfl⟩ .refl
    · intro hbr
      have hbr := of_decide_eq_false hbr
      (exfalso; omega)
  · intro hbr
    have hbr := of_decide_eq_false hbr
    (exfalso; omega)
theorem rcome_ok (w0 : World) (F : List Atom) (b g n c : Nat) (W : List Int) (hW : W.length = n) (hc : n ≤ c) (hn : n ≤ 1073741824) (hU : ∀ i, 0 ≤ W.getD i 0 ∧ W.getD i 0 ≤ 4294967295) (at_ : Int) (a1 : at_ ≤ 9223372036854775807) (h : inR n at_ 2) (kk : Int) (k0 : -9223372036854775808 ≤ kk) (k1 : kk ≤ 9223372036854775807) (hk : 1 ≤ kk ∧ kk ≤ 4) (hf : ¬ kk ≤ W.getD at_.toNat 0) :
    CallK Try.prog 22 [.pointer (some ⟨b, 0, none⟩), .int .i64 at_, .int .i64 kk] w0 (Blk b (.cells [.slice (some ⟨g, 0, none⟩) n c].toArray 58 (0, 0)) :: Own 23 1 (.slice (some ⟨g, 0, none⟩) n c) n (ints .u32 W) :: F) (Gives w0 fun v F2 => v = .tuple #[.bool (decide (W.getD at_.toNat 0 + 1 = kk)), .int .i64 0] ∧ F2 = Blk b (.cells [.slice (some ⟨g, 0, none⟩) n c].toArray 58 (0, 0)) :: Own 23 1 (.slice (some ⟨g, 0, none⟩) n c) n (ints .u32 (W.set at_.toNat (W.getD at_.toNat 0 + 1))) :: F) := by
  obtain ⟨h0, _, h2, h3⟩ := (show 0 ≤ at_ ∧ (0:Int) ≤ 2 ∧ at_ ≤ n ∧ (2:Int) ≤ n - at_ from h)
  obtain ⟨u0, u1⟩ := hU at_.toNat
  obtain ⟨u2, u3⟩ := hU (at_.toNat + 1)
  refine c_enter Try.func22 rfl rfl rfl ?_
  refine g_seq ?_
  refine g_region ?_
  refine l_assign rfl rfl ?_
  refine l_assign rfl rfl ?_
  refine l_nil ?_
  refine g_seq ?_
  refine g_region ?_
  refine l_move rfl rfl ?_
  refine l_move rfl rfl ?_
  refine l_call rfl Try.call29 rfl (rwords_ok _ _ b g n c W hW hc hn _ (by omega) h) ?_; rintro _ _ ⟨rfl, rfl⟩
  refine l_move rfl rfl ?_
  refine l_extract rfl rfl rfl ?_
  refine l_extract rfl rfl rfl ?_
  refine l_extract rfl rfl rfl ?_
  refine l_assign rfl rfl ?_
  refine l_assign rfl rfl ?_
  refine l_assign rfl rfl ?_
  refine l_nil ?_
  refine g_seq ?_
  refine g_seq ?_
  refine g_region ?_
  refine l_move rfl rfl ?_
  refine l_eql rfl rfl rfl ?_
  refine l_nil ?_
  refine g_cond rfl ?_ ?_
  · intro hbr
    have hbr := of_decide_eq_true hbr
    refine g_region ?_
    refine l_move rfl rfl ?_
    refine l_call rfl Try.call30 rfl (rcores_ok _ _ _ hk) ?_; rintro _ _ ⟨rfl, rfl⟩
    refine l_assign rfl rfl ?_
    refine l_nil ?_
    refine g_seq ?_
    refine g_seq ?_
    refine g_region ?_
    refine l_move rfl rfl ?_
    refine l_neq rfl rfl rfl ?_
    refine l_nil ?_
    refine g_cond rfl ?_ ?_
    · intro hbr
      have hbr := of_decide_eq_true hbr
      (exfalso; omega)
    intro hbr
    have hbr := of_decide_eq_false hbr
    refine g_skip ?_
    refine g_seq ?_
    refine g_seq ?_
    refine g_region ?_
    refine l_move rfl rfl ?_
    first | refine l_conv rfl Try.underlying23 Try.underlying3 rfl (w_i64 (by omega) (by omega)) ?_ | refine l_convw rfl Try.underlying23 Try.underlying3 rfl ?_
    refine l_move rfl rfl ?_
    refine l_geq rfl rfl rfl ?_
    refine l_nil ?_
    refine g_cond rfl ?_ ?_
    · intro hbr
      have hbr := of_decide_eq_true hbr
      (exfalso; omega)
    intro hbr
    have hbr := of_decide_eq_false hbr
    refine g_skip ?_
    refine g_seq ?_
    refine g_region ?_
    refine l_move rfl rfl ?_
    refine l_move rfl rfl ?_
    refine l_move rfl rfl ?_
    first | refine l_add rfl rfl rfl (w_u32 (by omega) (by omega)) ?_ | refine l_addm (m := 4294967296) rfl wr_u32 rfl rfl ?_
    refine l_call rfl Try.call24 rfl (rwrite_ok _ _ b g n c W hW hc hn _ _ (by omega) (by unfold inR; omega)) ?_; rintro _ _ ⟨rfl, rfl⟩
    refine l_nil ?_
    refine g_seq ?_
    refine g_region ?_
    refine l_move rfl rfl ?_
    first | refine l_conv rfl Try.underlying23 Try.underlying3 rfl (w_i64 (by omega) (by omega)) ?_ | refine l_convw rfl Try.underlying23 Try.underlying3 rfl ?_
    first | refine l_add rfl rfl rfl (w_i64 (by omega) (by omega)) ?_ | refine l_addw rfl rfl rfl ?_
    refine l_move rfl rfl ?_
    refine l_eql rfl rfl rfl ?_
    refine l_assign rfl rfl ?_
    refine l_assign rfl rfl ?_
    refine l_nil ?_
    refine g_ret Try.func22 rfl (.tmp rfl (.tmp rfl .nil)) ?_
    exact Gives.mk ⟨rfl, rfl⟩ .refl
  · intro hbr
    have hbr := of_decide_eq_false hbr
    (exfalso; omega)
theorem rcome_bad (w0 : World) (F : List Atom) (b g n c : Nat) (W : List Int) (hW : W.length = n) (hc : n ≤ c) (hn : n ≤ 1073741824) (hU : ∀ i, 0 ≤ W.getD i 0 ∧ W.getD i 0 ≤ 4294967295) (at_ : Int) (a1 : at_ ≤ 9223372036854775807) (h : inR n at_ 2) (kk : Int) (k0 : -9223372036854775808 ≤ kk) (k1 : kk ≤ 9223372036854775807) (hk : ¬ (1 ≤ kk ∧ kk ≤ 4)) :
    CallK Try.prog 22 [.pointer (some ⟨b, 0, none⟩), .int .i64 at_, .int .i64 kk] w0 (Blk b (.cells [.slice (some ⟨g, 0, none⟩) n c].toArray 58 (0, 0)) :: Own 23 1 (.slice (some ⟨g, 0, none⟩) n c) n (ints .u32 W) :: F) (Gives w0 fun v F2 => v = .tuple #[.bool false, .int .i64 180] ∧ F2 = Blk b (.cells [.slice (some ⟨g, 0, none⟩) n c].toArray 58 (0, 0)) :: Own 23 1 (.slice (some ⟨g, 0, none⟩) n c) n (ints .u32 W) :: F) := by
  obtain ⟨h0, _, h2, h3⟩ := (show 0 ≤ at_ ∧ (0:Int) ≤ 2 ∧ at_ ≤ n ∧ (2:Int) ≤ n - at_ from h)
  obtain ⟨u0, u1⟩ := hU at_.toNat
  obtain ⟨u2, u3⟩ := hU (at_.toNat + 1)
  refine c_enter Try.func22 rfl rfl rfl ?_
  refine g_seq ?_
  refine g_region ?_
  refine l_assign rfl rfl ?_
  refine l_assign rfl rfl ?_
  refine l_nil ?_
  refine g_seq ?_
  refine g_region ?_
  refine l_move rfl rfl ?_
  refine l_move rfl rfl ?_
  refine l_call rfl Try.call29 rfl (rwords_ok _ _ b g n c W hW hc hn _ (by omega) h) ?_; rintro _ _ ⟨rfl, rfl⟩
  refine l_move rfl rfl ?_
  refine l_extract rfl rfl rfl ?_
  refine l_extract rfl rfl rfl ?_
  refine l_extract rfl rfl rfl ?_
  refine l_assign rfl rfl ?_
  refine l_assign rfl rfl ?_
  refine l_assign rfl rfl ?_
  refine l_nil ?_
  refine g_seq ?_
  refine g_seq ?_
  refine g_region ?_
  refine l_move rfl rfl ?_
  refine l_eql rfl rfl rfl ?_
  refine l_nil ?_
  refine g_cond rfl ?_ ?_
  · intro hbr
    have hbr := of_decide_eq_true hbr
    refine g_region ?_
    refine l_move rfl rfl ?_
    refine l_call rfl Try.call30 rfl (rcores_bad _ _ _ hk) ?_; rintro _ _ ⟨rfl, rfl⟩
    refine l_assign rfl rfl ?_
    refine l_nil ?_
    refine g_seq ?_
    refine g_seq ?_
    refine g_region ?_
    refine l_move rfl rfl ?_
    refine l_neq rfl rfl rfl ?_
    refine l_nil ?_
    refine g_cond rfl ?_ ?_
    · intro hbr
      have hbr := of_decide_eq_true hbr
      refine g_seq ?_
      refine g_region ?_
      refine l_move rfl rfl ?_
      refine l_assign rfl rfl ?_
      refine l_assign rfl rfl ?_
      refine l_nil ?_
      refine g_ret Try.func22 rfl (.tmp rfl (.tmp rfl .nil)) ?_
      exact Gives.mk ⟨rfl, rfl⟩ .refl
    · intro hbr
      have hbr := of_decide_eq_false hbr
      (exfalso; omega)
  · intro hbr
    have hbr := of_decide_eq_false hbr
    (exfalso; omega)
theorem rcome_out (w0 : World) (F : List Atom) (b g n c : Nat) (W : List Int) (hW : W.length = n) (hc : n ≤ c) (hn : n ≤ 1073741824) (at_ : Int) (a0 : -9223372036854775808 ≤ at_) (a1 : at_ ≤ 9223372036854775807) (h : ¬ inR n at_ 2) (kk : Int) (k0 : -9223372036854775808 ≤ kk) (k1 : kk ≤ 9223372036854775807) :
    CallK Try.prog 22 [.pointer (some ⟨b, 0, none⟩), .int .i64 at_, .int .i64 kk] w0 (Blk b (.cells [.slice (some ⟨g, 0, none⟩) n c].toArray 58 (0, 0)) :: Own 23 1 (.slice (some ⟨g, 0, none⟩) n c) n (ints .u32 W) :: F) (Gives w0 fun v F2 => v = .tuple #[.bool false, .int .i64 51] ∧ F2 = Blk b (.cells [.slice (some ⟨g, 0, none⟩) n c].toArray 58 (0, 0)) :: Own 23 1 (.slice (some ⟨g, 0, none⟩) n c) n (ints .u32 W) :: F) := by
  refine c_enter Try.func22 rfl rfl rfl ?_
  refine g_seq ?_
  refine g_region ?_
  refine l_assign rfl rfl ?_
  refine l_assign rfl rfl ?_
  refine l_nil ?_
  refine g_seq ?_
  refine g_region ?_
  refine l_move rfl rfl ?_
  refine l_move rfl rfl ?_
  refine l_call rfl Try.call29 rfl (rwords_out _ _ b g n c W hW hc hn _ (by omega) (by omega) h) ?_; rintro _ _ ⟨⟨x9, rfl⟩, rfl⟩
  refine l_move rfl rfl ?_
  refine l_extract rfl rfl rfl ?_
  refine l_extract rfl rfl rfl ?_
  refine l_extract rfl rfl rfl ?_
  refine l_assign rfl rfl ?_
  refine l_assign rfl rfl ?_
  refine l_assign rfl rfl ?_
  refine l_nil ?_
  refine g_seq ?_
  refine g_seq ?_
  refine g_region ?_
  refine l_move rfl rfl ?_
  refine l_eql rfl rfl rfl ?_
  refine l_nil ?_
  refine g_cond rfl ?_ ?_
  · intro hbr
    have hbr := of_decide_eq_true hbr
    (exfalso; omega)
  intro hbr
  have hbr := of_decide_eq_false hbr
  refine g_skip ?_
  refine g_seq ?_
  refine g_seq ?_
  refine g_region ?_
  refine l_move rfl rfl ?_
  refine l_neq rfl rfl rfl ?_
  refine l_nil ?_
  refine g_cond rfl ?_ ?_
  · intro hbr
    have hbr := of_decide_eq_true hbr
    refine g_seq ?_
    refine g_region ?_
    refine l_move rfl rfl ?_
    refine l_assign rfl rfl ?_
    refine l_assign rfl rfl ?_
    refine l_nil ?_
    refine g_ret Try.func22 rfl (.tmp rfl (.tmp rfl .nil)) ?_
    exact Gives.mk ⟨rfl, rfl⟩ .refl
  · intro hbr
    have hbr := of_decide_eq_false hbr
    (exfalso; omega)
theorem ropen_short (w0 : World) (F : List Atom) (b g n c : Nat) (W : List Int) (hW : W.length = n) (hc : n ≤ c) (hn : n ≤ 1073741824) (hU : ∀ i, 0 ≤ W.getD i 0 ∧ W.getD i 0 ≤ 4294967295) (at_ : Int) (a1 : at_ ≤ 9223372036854775807) (h : inR n at_ 2) (kk : Int) (k0 : -9223372036854775808 ≤ kk) (k1 : kk ≤ 9223372036854775807) (hk : 1 ≤ kk ∧ kk ≤ 4) (hf : W.getD at_.toNat 0 < kk) :
    CallK Try.prog 23 [.pointer (some ⟨b, 0, none⟩), .int .i64 at_, .int .i64 kk] w0 (Blk b (.cells [.slice (some ⟨g, 0, none⟩) n c].toArray 58 (0, 0)) :: Own 23 1 (.slice (some ⟨g, 0, none⟩) n c) n (ints .u32 W) :: F) (Gives w0 fun v F2 => v = .int .i64 182 ∧ F2 = Blk b (.cells [.slice (some ⟨g, 0, none⟩) n c].toArray 58 (0, 0)) :: Own 23 1 (.slice (some ⟨g, 0, none⟩) n c) n (ints .u32 W) :: F) := by
  obtain ⟨h0, _, h2, h3⟩ := (show 0 ≤ at_ ∧ (0:Int) ≤ 2 ∧ at_ ≤ n ∧ (2:Int) ≤ n - at_ from h)
  obtain ⟨u0, u1⟩ := hU at_.toNat
  obtain ⟨u2, u3⟩ := hU (at_.toNat + 1)
  refine c_enter Try.func23 rfl rfl rfl ?_
  refine g_seq ?_
  refine g_region ?_
  refine l_assign rfl rfl ?_
  refine l_nil ?_
  refine g_seq ?_
  refine g_region ?_
  refine l_move rfl rfl ?_
  refine l_move rfl rfl ?_
  refine l_call rfl Try.call29 rfl (rwords_ok _ _ b g n c W hW hc hn _ (by omega) h) ?_; rintro _ _ ⟨rfl, rfl⟩
  refine l_move rfl rfl ?_
  refine l_extract rfl rfl rfl ?_
  refine l_extract rfl rfl rfl ?_
  refine l_extract rfl rfl rfl ?_
  refine l_assign rfl rfl ?_
  refine l_assign rfl rfl ?_
  refine l_assign rfl rfl ?_
  refine l_nil ?_
  refine g_seq ?_
  refine g_seq ?_
  refine g_region ?_
  refine l_move rfl rfl ?_
  refine l_eql rfl rfl rfl ?_
  refine l_nil ?_
  refine g_cond rfl ?_ ?_
  · intro hbr
    have hbr := of_decide_eq_true hbr
    refine g_region ?_
    refine l_move rfl rfl ?_
    refine l_call rfl Try.call30 rfl (rcores_ok _ _ _ hk) ?_; rintro _ _ ⟨rfl, rfl⟩
    refine l_assign rfl rfl ?_
    refine l_nil ?_
    refine g_seq ?_
    refine g_seq ?_
    refine g_region ?_
    refine l_move rfl rfl ?_
    refine l_neq rfl rfl rfl ?_
    refine l_nil ?_
    refine g_cond rfl ?_ ?_
    · intro hbr
      have hbr := of_decide_eq_true hbr
      (exfalso; omega)
    intro hbr
    have hbr := of_decide_eq_false hbr
    refine g_skip ?_
    refine g_seq ?_
    refine g_seq ?_
    refine g_region ?_
    refine l_move rfl rfl ?_
    first | refine l_conv rfl Try.underlying23 Try.underlying3 rfl (w_i64 (by omega) (by omega)) ?_ | refine l_convw rfl Try.underlying23 Try.underlying3 rfl ?_
    refine l_move rfl rfl ?_
    refine l_lss rfl rfl rfl ?_
    refine l_nil ?_
    refine g_cond rfl ?_ ?_
    · intro hbr
      have hbr := of_decide_eq_true hbr
      refine g_seq ?_
      refine g_region ?_
      refine l_assign rfl rfl ?_
      refine l_nil ?_
      refine g_ret Try.func23 rfl (.tmp rfl .nil) ?_
      exact Gives.mk ⟨rfl, rfl⟩ .refl
    · intro hbr
      have hbr := of_decide_eq_false hbr
      (exfalso; omega)
  · intro hbr
    have hbr := of_decide_eq_false hbr
    (exfalso; omega)
theorem ropen_full (w0 : World) (F : List Atom) (b g n c : Nat) (W : List Int) (hW : W.length = n) (hc : n ≤ c) (hn : n ≤ 1073741824) (hU : ∀ i, 0 ≤ W.getD i 0 ∧ W.getD i 0 ≤ 4294967295) (at_ : Int) (a1 : at_ ≤ 9223372036854775807) (h : inR n at_ 2) (kk : Int) (k0 : -9223372036854775808 ≤ kk) (k1 : kk ≤ 9223372036854775807) (hk : 1 ≤ kk ∧ kk ≤ 4) (hf : kk < W.getD at_.toNat 0) :
    CallK Try.prog 23 [.pointer (some ⟨b, 0, none⟩), .int .i64 at_, .int .i64 kk] w0 (Blk b (.cells [.slice (some ⟨g, 0, none⟩) n c].toArray 58 (0, 0)) :: Own 23 1 (.slice (some ⟨g, 0, none⟩) n c) n (ints .u32 W) :: F) (Gives w0 fun v F2 => v = .int .i64 181 ∧ F2 = Blk b (.cells [.slice (some ⟨g, 0, none⟩) n c].toArray 58 (0, 0)) :: Own 23 1 (.slice (some ⟨g, 0, none⟩) n c) n (ints .u32 W) :: F) := by
  obtain ⟨h0, _, h2, h3⟩ := (show 0 ≤ at_ ∧ (0:Int) ≤ 2 ∧ at_ ≤ n ∧ (2:Int) ≤ n - at_ from h)
  obtain ⟨u0, u1⟩ := hU at_.toNat
  obtain ⟨u2, u3⟩ := hU (at_.toNat + 1)
  refine c_enter Try.func23 rfl rfl rfl ?_
  refine g_seq ?_
  refine g_region ?_
  refine l_assign rfl rfl ?_
  refine l_nil ?_
  refine g_seq ?_
  refine g_region ?_
  refine l_move rfl rfl ?_
  refine l_move rfl rfl ?_
  refine l_call rfl Try.call29 rfl (rwords_ok _ _ b g n c W hW hc hn _ (by omega) h) ?_; rintro _ _ ⟨rfl, rfl⟩
  refine l_move rfl rfl ?_
  refine l_extract rfl rfl rfl ?_
  refine l_extract rfl rfl rfl ?_
  refine l_extract rfl rfl rfl ?_
  refine l_assign rfl rfl ?_
  refine l_assign rfl rfl ?_
  refine l_assign rfl rfl ?_
  refine l_nil ?_
  refine g_seq ?_
  refine g_seq ?_
  refine g_region ?_
  refine l_move rfl rfl ?_
  refine l_eql rfl rfl rfl ?_
  refine l_nil ?_
  refine g_cond rfl ?_ ?_
  · intro hbr
    have hbr := of_decide_eq_true hbr
    refine g_region ?_
    refine l_move rfl rfl ?_
    refine l_call rfl Try.call30 rfl (rcores_ok _ _ _ hk) ?_; rintro _ _ ⟨rfl, rfl⟩
    refine l_assign rfl rfl ?_
    refine l_nil ?_
    refine g_seq ?_
    refine g_seq ?_
    refine g_region ?_
    refine l_move rfl rfl ?_
    refine l_neq rfl rfl rfl ?_
    refine l_nil ?_
    refine g_cond rfl ?_ ?_
    · intro hbr
      have hbr := of_decide_eq_true hbr
      (exfalso; omega)
    intro hbr
    have hbr := of_decide_eq_false hbr
    refine g_skip ?_
    refine g_seq ?_
    refine g_seq ?_
    refine g_region ?_
    refine l_move rfl rfl ?_
    first | refine l_conv rfl Try.underlying23 Try.underlying3 rfl (w_i64 (by omega) (by omega)) ?_ | refine l_convw rfl Try.underlying23 Try.underlying3 rfl ?_
    refine l_move rfl rfl ?_
    refine l_lss rfl rfl rfl ?_
    refine l_nil ?_
    refine g_cond rfl ?_ ?_
    · intro hbr
      have hbr := of_decide_eq_true hbr
      (exfalso; omega)
    intro hbr
    have hbr := of_decide_eq_false hbr
    refine g_skip ?_
    refine g_seq ?_
    refine g_seq ?_
    refine g_region ?_
    refine l_move rfl rfl ?_
    first | refine l_conv rfl Try.underlying23 Try.underlying3 rfl (w_i64 (by omega) (by omega)) ?_ | refine l_convw rfl Try.underlying23 Try.underlying3 rfl ?_
    refine l_move rfl rfl ?_
    refine l_gtr rfl rfl rfl ?_
    refine l_nil ?_
    refine g_cond rfl ?_ ?_
    · intro hbr
      have hbr := of_decide_eq_true hbr
      refine g_seq ?_
      refine g_region ?_
      refine l_assign rfl rfl ?_
      refine l_nil ?_
      refine g_ret Try.func23 rfl (.tmp rfl .nil) ?_
      exact Gives.mk ⟨rfl, rfl⟩ .refl
    · intro hbr
      have hbr := of_decide_eq_false hbr
      (exfalso; omega)
  · intro hbr
    have hbr := of_decide_eq_false hbr
    (exfalso; omega)
theorem ropen_ok (w0 : World) (F : List Atom) (b g n c : Nat) (W : List Int) (hW : W.length = n) (hc : n ≤ c) (hn : n ≤ 1073741824) (hU : ∀ i, 0 ≤ W.getD i 0 ∧ W.getD i 0 ≤ 4294967295) (at_ : Int) (a1 : at_ ≤ 9223372036854775807) (h : inR n at_ 2) (kk : Int) (k0 : -9223372036854775808 ≤ kk) (k1 : kk ≤ 9223372036854775807) (hk : 1 ≤ kk ∧ kk ≤ 4) (hf : W.getD at_.toNat 0 = kk) :
    CallK Try.prog 23 [.pointer (some ⟨b, 0, none⟩), .int .i64 at_, .int .i64 kk] w0 (Blk b (.cells [.slice (some ⟨g, 0, none⟩) n c].toArray 58 (0, 0)) :: Own 23 1 (.slice (some ⟨g, 0, none⟩) n c) n (ints .u32 W) :: F) (Gives w0 fun v F2 => v = .int .i64 0 ∧ F2 = Blk b (.cells [.slice (some ⟨g, 0, none⟩) n c].toArray 58 (0, 0)) :: Own 23 1 (.slice (some ⟨g, 0, none⟩) n c) n (ints .u32 ((W.set at_.toNat 0).set (at_.toNat + 1) ((W.getD (at_.toNat + 1) 0 + 1) % 4294967296))) :: F) := by
  obtain ⟨h0, _, h2, h3⟩ := (show 0 ≤ at_ ∧ (0:Int) ≤ 2 ∧ at_ ≤ n ∧ (2:Int) ≤ n - at_ from h)
  obtain ⟨u0, u1⟩ := hU at_.toNat
  obtain ⟨u2, u3⟩ := hU (at_.toNat + 1)
  refine c_enter Try.func23 rfl rfl rfl ?_
  refine g_seq ?_
  refine g_region ?_
  refine l_assign rfl rfl ?_
  refine l_nil ?_
  refine g_seq ?_
  refine g_region ?_
  refine l_move rfl rfl ?_
  refine l_move rfl rfl ?_
  refine l_call rfl Try.call29 rfl (rwords_ok _ _ b g n c W hW hc hn _ (by omega) h) ?_; rintro _ _ ⟨rfl, rfl⟩
  refine l_move rfl rfl ?_
  refine l_extract rfl rfl rfl ?_
  refine l_extract rfl rfl rfl ?_
  refine l_extract rfl rfl rfl ?_
  refine l_assign rfl rfl ?_
  refine l_assign rfl rfl ?_
  refine l_assign rfl rfl ?_
  refine l_nil ?_
  refine g_seq ?_
  refine g_seq ?_
  refine g_region ?_
  refine l_move rfl rfl ?_
  refine l_eql rfl rfl rfl ?_
  refine l_nil ?_
  refine g_cond rfl ?_ ?_
  · intro hbr
    have hbr := of_decide_eq_true hbr
    refine g_region ?_
    refine l_move rfl rfl ?_
    refine l_call rfl Try.call30 rfl (rcores_ok _ _ _ hk) ?_; rintro _ _ ⟨rfl, rfl⟩
    refine l_assign rfl rfl ?_
    refine l_nil ?_
    refine g_seq ?_
    refine g_seq ?_
    refine g_region ?_
    refine l_move rfl rfl ?_
    refine l_neq rfl rfl rfl ?_
    refine l_nil ?_
    refine g_cond rfl ?_ ?_
    · intro hbr
      have hbr := of_decide_eq_true hbr
      (exfalso; omega)
    intro hbr
    have hbr := of_decide_eq_false hbr
    refine g_skip ?_
    refine g_seq ?_
    refine g_seq ?_
    refine g_region ?_
    refine l_move rfl rfl ?_
    first | refine l_conv rfl Try.underlying23 Try.underlying3 rfl (w_i64 (by omega) (by omega)) ?_ | refine l_convw rfl Try.underlying23 Try.underlying3 rfl ?_
    refine l_move rfl rfl ?_
    refine l_lss rfl rfl rfl ?_
    refine l_nil ?_
    refine g_cond rfl ?_ ?_
    · intro hbr
      have hbr := of_decide_eq_true hbr
      (exfalso; omega)
    intro hbr
    have hbr := of_decide_eq_false hbr
    refine g_skip ?_
    refine g_seq ?_
    refine g_seq ?_
    refine g_region ?_
    refine l_move rfl rfl ?_
    first | refine l_conv rfl Try.underlying23 Try.underlying3 rfl (w_i64 (by omega) (by omega)) ?_ | refine l_convw rfl Try.underlying23 Try.underlying3 rfl ?_
    refine l_move rfl rfl ?_
    refine l_gtr rfl rfl rfl ?_
    refine l_nil ?_
    refine g_cond rfl ?_ ?_
    · intro hbr
      have hbr := of_decide_eq_true hbr
      (exfalso; omega)
    intro hbr
    have hbr := of_decide_eq_false hbr
    refine g_skip ?_
    refine g_seq ?_
    refine g_region ?_
    refine l_move rfl rfl ?_
    refine l_move rfl rfl ?_
    refine l_call rfl Try.call24 rfl (rwrite_ok _ _ b g n c W hW hc hn _ _ (by omega) (by unfold inR; omega)) ?_; rintro _ _ ⟨rfl, rfl⟩
    refine l_nil ?_
    refine g_seq ?_
    refine g_region ?_
    refine l_move rfl rfl ?_
    refine l_move rfl rfl ?_
    first | refine l_add rfl rfl rfl (w_i64 (by omega) (by omega)) ?_ | refine l_addw rfl rfl rfl ?_
    refine l_move rfl rfl ?_
    first | refine l_add rfl rfl rfl (w_u32 (by omega) (by omega)) ?_ | refine l_addm (m := 4294967296) rfl wr_u32 rfl rfl ?_
    refine l_call rfl Try.call24 rfl (rwrite_ok _ _ b g n c (W.set at_.toNat 0) (by simpa using hW) hc hn _ _ (by omega) (by unfold inR; omega)) ?_; rintro _ _ ⟨rfl, rfl⟩
    refine l_nil ?_
    refine g_seq ?_
    refine g_region ?_
    refine l_assign rfl rfl ?_
    refine l_nil ?_
    refine g_ret Try.func23 rfl (.tmp rfl .nil) ?_
    exact Gives.mk ⟨rfl, by rw [show at_.toNat + 1 = (at_ + 1).toNat by omega]⟩ .refl
  · intro hbr
    have hbr := of_decide_eq_false hbr
    (exfalso; omega)
theorem ropen_bad (w0 : World) (F : List Atom) (b g n c : Nat) (W : List Int) (hW : W.length = n) (hc : n ≤ c) (hn : n ≤ 1073741824) (hU : ∀ i, 0 ≤ W.getD i 0 ∧ W.getD i 0 ≤ 4294967295) (at_ : Int) (a1 : at_ ≤ 9223372036854775807) (h : inR n at_ 2) (kk : Int) (k0 : -9223372036854775808 ≤ kk) (k1 : kk ≤ 9223372036854775807) (hk : ¬ (1 ≤ kk ∧ kk ≤ 4)) :
    CallK Try.prog 23 [.pointer (some ⟨b, 0, none⟩), .int .i64 at_, .int .i64 kk] w0 (Blk b (.cells [.slice (some ⟨g, 0, none⟩) n c].toArray 58 (0, 0)) :: Own 23 1 (.slice (some ⟨g, 0, none⟩) n c) n (ints .u32 W) :: F) (Gives w0 fun v F2 => v = .int .i64 180 ∧ F2 = Blk b (.cells [.slice (some ⟨g, 0, none⟩) n c].toArray 58 (0, 0)) :: Own 23 1 (.slice (some ⟨g, 0, none⟩) n c) n (ints .u32 W) :: F) := by
  obtain ⟨h0, _, h2, h3⟩ := (show 0 ≤ at_ ∧ (0:Int) ≤ 2 ∧ at_ ≤ n ∧ (2:Int) ≤ n - at_ from h)
  obtain ⟨u0, u1⟩ := hU at_.toNat
  obtain ⟨u2, u3⟩ := hU (at_.toNat + 1)
  refine c_enter Try.func23 rfl rfl rfl ?_
  refine g_seq ?_
  refine g_region ?_
  refine l_assign rfl rfl ?_
  refine l_nil ?_
  refine g_seq ?_
  refine g_region ?_
  refine l_move rfl rfl ?_
  refine l_move rfl rfl ?_
  refine l_call rfl Try.call29 rfl (rwords_ok _ _ b g n c W hW hc hn _ (by omega) h) ?_; rintro _ _ ⟨rfl, rfl⟩
  refine l_move rfl rfl ?_
  refine l_extract rfl rfl rfl ?_
  refine l_extract rfl rfl rfl ?_
  refine l_extract rfl rfl rfl ?_
  refine l_assign rfl rfl ?_
  refine l_assign rfl rfl ?_
  refine l_assign rfl rfl ?_
  refine l_nil ?_
  refine g_seq ?_
  refine g_seq ?_
  refine g_region ?_
  refine l_move rfl rfl ?_
  refine l_eql rfl rfl rfl ?_
  refine l_nil ?_
  refine g_cond rfl ?_ ?_
  · intro hbr
    have hbr := of_decide_eq_true hbr
    refine g_region ?_
    refine l_move rfl rfl ?_
    refine l_call rfl Try.call30 rfl (rcores_bad _ _ _ hk) ?_; rintro _ _ ⟨rfl, rfl⟩
    refine l_assign rfl rfl ?_
    refine l_nil ?_
    refine g_seq ?_
    refine g_seq ?_
    refine g_region ?_
    refine l_move rfl rfl ?_
    refine l_neq rfl rfl rfl ?_
    refine l_nil ?_
    refine g_cond rfl ?_ ?_
    · intro hbr
      have hbr := of_decide_eq_true hbr
      refine g_seq ?_
      refine g_region ?_
      refine l_move rfl rfl ?_
      refine l_assign rfl rfl ?_
      refine l_nil ?_
      refine g_ret Try.func23 rfl (.tmp rfl .nil) ?_
      exact Gives.mk ⟨rfl, rfl⟩ .refl
    · intro hbr
      have hbr := of_decide_eq_false hbr
      (exfalso; omega)
  · intro hbr
    have hbr := of_decide_eq_false hbr
    (exfalso; omega)
theorem ropen_out (w0 : World) (F : List Atom) (b g n c : Nat) (W : List Int) (hW : W.length = n) (hc : n ≤ c) (hn : n ≤ 1073741824) (at_ : Int) (a0 : -9223372036854775808 ≤ at_) (a1 : at_ ≤ 9223372036854775807) (h : ¬ inR n at_ 2) (kk : Int) (k0 : -9223372036854775808 ≤ kk) (k1 : kk ≤ 9223372036854775807) :
    CallK Try.prog 23 [.pointer (some ⟨b, 0, none⟩), .int .i64 at_, .int .i64 kk] w0 (Blk b (.cells [.slice (some ⟨g, 0, none⟩) n c].toArray 58 (0, 0)) :: Own 23 1 (.slice (some ⟨g, 0, none⟩) n c) n (ints .u32 W) :: F) (Gives w0 fun v F2 => v = .int .i64 51 ∧ F2 = Blk b (.cells [.slice (some ⟨g, 0, none⟩) n c].toArray 58 (0, 0)) :: Own 23 1 (.slice (some ⟨g, 0, none⟩) n c) n (ints .u32 W) :: F) := by
  refine c_enter Try.func23 rfl rfl rfl ?_
  refine g_seq ?_
  refine g_region ?_
  refine l_assign rfl rfl ?_
  refine l_nil ?_
  refine g_seq ?_
  refine g_region ?_
  refine l_move rfl rfl ?_
  refine l_move rfl rfl ?_
  refine l_call rfl Try.call29 rfl (rwords_out _ _ b g n c W hW hc hn _ (by omega) (by omega) h) ?_; rintro _ _ ⟨⟨x9, rfl⟩, rfl⟩
  refine l_move rfl rfl ?_
  refine l_extract rfl rfl rfl ?_
  refine l_extract rfl rfl rfl ?_
  refine l_extract rfl rfl rfl ?_
  refine l_assign rfl rfl ?_
  refine l_assign rfl rfl ?_
  refine l_assign rfl rfl ?_
  refine l_nil ?_
  refine g_seq ?_
  refine g_seq ?_
  refine g_region ?_
  refine l_move rfl rfl ?_
  refine l_eql rfl rfl rfl ?_
  refine l_nil ?_
  refine g_cond rfl ?_ ?_
  · intro hbr
    have hbr := of_decide_eq_true hbr
    (exfalso; omega)
  intro hbr
  have hbr := of_decide_eq_false hbr
  refine g_skip ?_
  refine g_seq ?_
  refine g_seq ?_
  refine g_region ?_
  refine l_move rfl rfl ?_
  refine l_neq rfl rfl rfl ?_
  refine l_nil ?_
  refine g_cond rfl ?_ ?_
  · intro hbr
    have hbr := of_decide_eq_true hbr
    refine g_seq ?_
    refine g_region ?_
    refine l_move rfl rfl ?_
    refine l_assign rfl rfl ?_
    refine l_nil ?_
    refine g_ret Try.func23 rfl (.tmp rfl .nil) ?_
    exact Gives.mk ⟨rfl, rfl⟩ .refl
  · intro hbr
    have hbr := of_decide_eq_false hbr
    (exfalso; omega)
end Go.Proofs.Ytoflbmjdpngdiaa.Fw
