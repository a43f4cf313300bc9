import Derived.Test.YthngpcaljljlaaaBase
namespace Go.Proofs.Ythngpcaljljlaaa.Fw
open Go Go.Proofs
set_option linter.unusedVariables false
set_option linter.unusedSimpArgs false
set_option maxRecDepth 10000

def part (W : List Int) (at_ k : Int) : List Int := (W.drop at_.toNat).take k.toNat
theorem part_len {W : List Int} {n : Nat} {at_ k : Int} (hW : W.length = n) (h : inR n at_ k) : (part W at_ k).length = k.toNat := by
  unfold inR at h
  unfold part
  rw [List.length_take, List.length_drop]; omega
def ReadG (W : List Int) (n : Nat) (at_ wd : Int) (h : Nat) (T : List Int) (e : Int) : Prop := (e = 51 ∧ T = [] ∧ ¬ inR n at_ (h + wd)) ∨ (e = 191 ∧ T = [] ∧ inR n at_ (h + wd) ∧ heldV (part W at_ (h + wd)) h = none) ∨ (e = 0 ∧ inR n at_ (h + wd) ∧ heldV (part W at_ (h + wd)) h = some T)
def WdOk (wd : Int) : Prop := 1 ≤ wd ∧ wd ≤ 16
def stageW (M : List Int) (wd : Int) : List Int := spl 2 M (((List.replicate (2 + wd).toNat (0 : Int)).set 0 1).set 1 (M.length : Int))
theorem stageW_len {M : List Int} {wd : Int} (h1 : 1 ≤ M.length) (h2 : (M.length : Int) ≤ wd) : (stageW M wd).length = (2 + wd).toNat := by
  unfold stageW
  rw [spl_length (by simp; omega)]; simp
def PutG (W : List Int) (n : Nat) (at_ wd : Int) (M W2 : List Int) (e : Int) : Prop :=
  (¬ WdOk wd ∧ e = 1 ∧ W2 = W) ∨ (WdOk wd ∧ ¬ inR n at_ (2 + wd) ∧ e = 51 ∧ W2 = W) ∨ (WdOk wd ∧ inR n at_ (2 + wd) ∧ ¬ (1 ≤ M.length ∧ (M.length : Int) ≤ wd) ∧ e = 190 ∧ W2 = W) ∨
  (WdOk wd ∧ inR n at_ (2 + wd) ∧ (1 ≤ M.length ∧ (M.length : Int) ≤ wd) ∧ heldV (part W at_ (2 + wd)) 2 = none ∧ e = 191 ∧ W2 = W) ∨ (WdOk wd ∧ inR n at_ (2 + wd) ∧ (1 ≤ M.length ∧ (M.length : Int) ≤ wd) ∧ (∃ T, heldV (part W at_ (2 + wd)) 2 = some T) ∧ e = 0 ∧ W2 = spl at_.toNat (stageW M wd) W)
def StgG (W : List Int) (n : Nat) (at_ wd k e : Int) : Prop := (¬ WdOk wd ∧ e = 1 ∧ k = 0) ∨ (WdOk wd ∧ ∃ T, ReadG W n at_ wd 2 T e ∧ k = min (T.length : Int) 1)
theorem may_ok (w0 : World) (F : List Atom) (b : Nat) (wd : Int) (wd0 : -9223372036854775808 ≤ wd) (wd1 : wd ≤ 9223372036854775807) :
    CallK Try.prog 28 [.pointer (some ⟨b, 0, none⟩), .int .i64 wd] w0 (F) (Gives w0 fun v F2 => ∃ e, v = .int .i64 e ∧ F2 = F ∧ ((e = 1 ∧ ¬ WdOk wd) ∨ (e = 0 ∧ WdOk wd))) := by
  refine c_enter Try.func28 rfl rfl rfl ?_
  refine g_seq ?_
  refine g_region ?_
  refine l_assign rfl rfl ?_
  refine l_nil ?_
  refine g_seq ?_
  refine g_block ?_
  refine g_seq ?_
  refine g_region ?_
  refine l_move rfl rfl ?_
  refine l_eqpn rfl Try.underlying22 rfl rfl ?_
  refine l_assign rfl rfl ?_
  refine l_nil ?_
  refine g_cond_f rfl ?_
  refine g_seq ?_
  refine g_region ?_
  refine l_move rfl rfl ?_
  refine l_lss rfl rfl rfl ?_
  refine l_move rfl rfl ?_
  refine l_split 11 rfl ?_ ?_
  · intro hbr
    have hbr := of_decide_eq_true hbr
    refine l_guard_no rfl rfl rfl ?_
    refine l_guard_no rfl rfl rfl ?_
    refine l_pick_t rfl rfl rfl ?_
    refine l_assign rfl rfl ?_
    refine l_nil ?_
    refine g_cond_t rfl ?_
    refine g_seq ?_
    refine g_region ?_
    refine l_assign rfl rfl ?_
    refine l_nil ?_
    refine g_ret Try.func28 rfl (.tmp rfl .nil) ?_
    (first | exact Gives.mki ⟨1, rfl, rfl, .inl ⟨rfl, by unfold WdOk; omega⟩⟩ | exact Gives.mki ⟨0, rfl, rfl, .inr ⟨rfl, by unfold WdOk; omega⟩⟩)
  intro hbr
  have hbr := of_decide_eq_false hbr
  refine l_guard_yes rfl rfl ?_
  refine l_move rfl rfl ?_
  refine l_guard_yes rfl rfl ?_
  refine l_gtr rfl rfl rfl ?_
  refine l_pick_f rfl rfl rfl ?_
  refine l_assign rfl rfl ?_
  refine l_nil ?_
  refine g_cond rfl ?_ ?_
  · intro hbr
    have hbr := of_decide_eq_true hbr
    refine g_seq ?_
    refine g_region ?_
    refine l_assign rfl rfl ?_
    refine l_nil ?_
    refine g_ret Try.func28 rfl (.tmp rfl .nil) ?_
    (first | exact Gives.mki ⟨1, rfl, rfl, .inl ⟨rfl, by unfold WdOk; omega⟩⟩ | exact Gives.mki ⟨0, rfl, rfl, .inr ⟨rfl, by unfold WdOk; omega⟩⟩)
  intro hbr
  have hbr := of_decide_eq_false hbr
  refine g_skip ?_
  refine g_inBlock ?_
  refine g_seq ?_
  refine g_region ?_
  refine l_assign rfl rfl ?_
  refine l_nil ?_
  refine g_ret Try.func28 rfl (.tmp rfl .nil) ?_
  (first | exact Gives.mki ⟨1, rfl, rfl, .inl ⟨rfl, by unfold WdOk; omega⟩⟩ | exact Gives.mki ⟨0, rfl, rfl, .inr ⟨rfl, by unfold WdOk; omega⟩⟩)
theorem stands_ok (w0 : World) (F : List Atom) (b g n c : Nat) (W : List Int) (hW : W.length = n) (hc : n ≤ c) (hn : n ≤ 1073741824) (h16 : n % 16 = 0) (at_ : Int) (at_0 : -9223372036854775808 ≤ at_) (at_1 : at_ ≤ 9223372036854775807) (k : Int) (k0 : 0 ≤ k) (k1 : k ≤ 64) :
    CallK Try.prog 29 [.pointer (some ⟨b, 0, none⟩), .int .i64 at_, .int .i64 k] w0 (Blk b (.cells [.slice (some ⟨g, 0, none⟩) n c].toArray 63 (0, 0)) :: Own 28 1 (.slice (some ⟨g, 0, none⟩) n c) n (ints .u32 W) :: F) (Gives w0 fun v F2 => ∃ e, v = .int .i64 e ∧ F2 = Blk b (.cells [.slice (some ⟨g, 0, none⟩) n c].toArray 63 (0, 0)) :: Own 28 1 (.slice (some ⟨g, 0, none⟩) n c) n (ints .u32 W) :: F ∧ ((e = 51 ∧ ¬ inR n at_ k) ∨ (e = 0 ∧ inR n at_ k))) := by
  refine c_enter Try.func29 rfl rfl rfl ?_
  refine g_seq ?_
  refine g_region ?_
  refine l_assign rfl rfl ?_
  refine l_nil ?_
  refine g_seq ?_
  refine g_seq ?_
  refine g_region ?_
  refine l_move rfl rfl ?_
  refine l_lss rfl rfl rfl ?_
  refine l_move rfl rfl ?_
  refine l_split 9 rfl ?_ ?_
  · intro hbr
    have hbr := of_decide_eq_true hbr
    refine l_guard_no rfl rfl rfl ?_
    refine l_guard_no rfl rfl rfl ?_
    refine l_guard_no rfl rfl rfl ?_
    refine l_guard_no rfl rfl rfl ?_
    refine l_guard_no rfl rfl rfl ?_
    refine l_guard_no rfl rfl rfl ?_
    refine l_guard_no rfl rfl rfl ?_
    refine l_pick_t rfl rfl rfl ?_
    refine l_nil ?_
    refine g_cond_t rfl ?_
    refine g_seq ?_
    refine g_region ?_
    refine l_assign rfl rfl ?_
    refine l_nil ?_
    refine g_ret Try.func29 rfl (.tmp rfl .nil) ?_
    (first | exact Gives.mki ⟨51, rfl, rfl, .inl ⟨rfl, by unfold inR; omega⟩⟩ | exact Gives.mki ⟨0, rfl, rfl, .inr ⟨rfl, by unfold inR; omega⟩⟩)
  intro hbr
  have hbr := of_decide_eq_false hbr
  refine l_guard_yes rfl rfl ?_
  refine l_move rfl rfl ?_
  refine l_guard_yes rfl rfl ?_
  refine l_move rfl rfl ?_
  refine l_guard_yes rfl rfl ?_
  refine l_call rfl Try.call43 rfl (frames_ok _ _ b g n c W hW hc hn) ?_; rintro _ _ ⟨rfl, rfl⟩
  refine l_guard_yes rfl rfl ?_
  first | refine l_mul rfl rfl rfl (w_i64 (by omega) (by omega)) ?_ | refine l_mulw rfl rfl rfl ?_
  refine l_guard_yes rfl rfl ?_
  refine l_move rfl rfl ?_
  refine l_guard_yes rfl rfl ?_
  first | refine l_sub_ rfl rfl rfl (w_i64 (by omega) (by omega)) ?_ | refine l_subw rfl rfl rfl ?_
  refine l_guard_yes rfl rfl ?_
  refine l_gtr rfl rfl rfl ?_
  refine l_pick_f rfl rfl rfl ?_
  refine l_nil ?_
  refine g_cond rfl ?_ ?_
  · intro hbr
    have hbr := of_decide_eq_true hbr
    refine g_seq ?_
    refine g_region ?_
    refine l_assign rfl rfl ?_
    refine l_nil ?_
    refine g_ret Try.func29 rfl (.tmp rfl .nil) ?_
    (first | exact Gives.mki ⟨51, rfl, rfl, .inl ⟨rfl, by unfold inR; omega⟩⟩ | exact Gives.mki ⟨0, rfl, rfl, .inr ⟨rfl, by unfold inR; omega⟩⟩)
  intro hbr
  have hbr := of_decide_eq_false hbr
  refine g_skip ?_
  refine g_seq ?_
  refine g_region ?_
  refine l_assign rfl rfl ?_
  refine l_nil ?_
  refine g_ret Try.func29 rfl (.tmp rfl .nil) ?_
  (first | exact Gives.mki ⟨51, rfl, rfl, .inl ⟨rfl, by unfold inR; omega⟩⟩ | exact Gives.mki ⟨0, rfl, rfl, .inr ⟨rfl, by unfold inR; omega⟩⟩)
theorem read_in (w0 : World) (F : List Atom) (b g n c : Nat) (W : List Int) (hW : W.length = n) (hc : n ≤ c) (hn : n ≤ 1073741824) (hU : W32s W) (at_ : Int) (at_0 : -9223372036854775808 ≤ at_) (at_1 : at_ ≤ 9223372036854775807) (wd : Int) (hwd : WdOk wd) (h : Nat) (h1 : 2 ≤ h) (h2 : h ≤ 3) (hi : inR n at_ (h + wd)) :
    CallK Try.prog 30 [.pointer (some ⟨b, 0, none⟩), .int .i64 at_, .int .i64 wd, .int .i64 h] w0 (Blk b (.cells [.slice (some ⟨g, 0, none⟩) n c].toArray 63 (0, 0)) :: Own 28 1 (.slice (some ⟨g, 0, none⟩) n c) n (ints .u32 W) :: F) (Gives w0 fun v F2 => ∃ a q c2 T e, v = .tuple #[.slice a q c2, .int .i64 e] ∧ T.length = q ∧ (q = 0 ∨ ∃ g2, a = some ⟨g2, 0, none⟩) ∧ F2 = Own 28 1 (.slice a q c2) q (ints .u32 T) :: Blk b (.cells [.slice (some ⟨g, 0, none⟩) n c].toArray 63 (0, 0)) :: Own 28 1 (.slice (some ⟨g, 0, none⟩) n c) n (ints .u32 W) :: F ∧ ReadG W n at_ wd h T e) := by
  obtain ⟨wd0, wd1⟩ := id hwd
  obtain ⟨i0, i1, i2, i3⟩ := id hi
  have hpl := part_len hW hi
  refine c_enter Try.func30 rfl rfl rfl ?_
  refine g_seq ?_
  refine g_region ?_
  refine l_assign rfl rfl ?_
  refine l_assign rfl rfl ?_
  refine l_nil ?_
  refine g_seq ?_
  refine g_region ?_
  refine l_move rfl rfl ?_
  refine l_move rfl rfl ?_
  refine l_move rfl rfl ?_
  refine l_move rfl rfl ?_
  first | refine l_add rfl rfl rfl (w_i64 (by omega) (by omega)) ?_ | refine l_addw rfl rfl rfl ?_
  refine l_call rfl Try.call44 rfl (take_ok _ _ b g n c W hW hc hn at_ (h + wd) (by omega) (by omega) hi) ?_; rintro _ _ ⟨q9, rfl, rfl⟩
  refine l_move rfl rfl ?_
  refine l_extract rfl rfl rfl ?_
  refine l_extract rfl rfl rfl ?_
  refine l_assign rfl rfl ?_
  refine l_assign rfl rfl ?_
  refine l_nil ?_
  refine g_seq ?_
  refine g_seq ?_
  refine g_region ?_
  refine l_move rfl rfl ?_
  refine l_neq rfl rfl rfl ?_
  refine l_nil ?_
  refine g_cond rfl ?_ ?_
  · intro hbr
    have hbr := of_decide_eq_true hbr
    (exfalso; omega)
  intro hbr
  have hbr := of_decide_eq_false hbr
  refine g_skip ?_
  refine g_seq ?_
  refine g_region ?_
  refine l_move rfl rfl ?_
  refine l_move rfl rfl ?_
  refine l_call rfl Try.call45 rfl (held_ok _ _ q9 (h + wd).toNat (h + wd).toNat (part W at_ (h + wd)) hpl (Nat.le_refl _) (.own (mem_getO 0 rfl)) (hU.part _ _) (by omega) h (by omega) (by omega) (by omega)) ?_; rintro _ _ ⟨a, q, c2, T, t, rfl, hT, ha, rfl, hG⟩
  refine l_move rfl rfl ?_
  refine l_extract rfl rfl rfl ?_
  refine l_extract rfl rfl rfl ?_
  refine l_assign rfl rfl ?_
  refine l_assign rfl rfl ?_
  refine l_nil ?_
  refine g_seq ?_
  refine g_seq ?_
  refine g_region ?_
  refine l_move rfl rfl ?_
  refine l_not rfl rfl ?_
  refine l_nil ?_
  refine g_cond rfl ?_ ?_
  · intro hbr
    have hb33 := hbr
    refine g_seq ?_
    refine g_region ?_
    refine l_assign rfl rfl ?_
    refine l_assign rfl rfl ?_
    refine l_nil ?_
    refine g_wnil 28 .u32 ?_
    refine g_ret Try.func30 rfl (.tmp rfl (.tmp rfl .nil)) ?_
    (first | exact Gives.mki ⟨none, 0, 0, [], 191, rfl, rfl, .inl rfl, rfl, .inr (.inl ⟨rfl, rfl, hi, by rcases hG with ⟨h8, _⟩ | ⟨_, _, h9⟩; (simp_all); exact h9⟩)⟩ | exact Gives.mki ⟨a, q, c2, T, 0, rfl, hT, ha, rfl, .inr (.inr ⟨rfl, hi, by rcases hG with ⟨_, h9⟩ | ⟨h8, _, _⟩; exact h9; (simp_all)⟩)⟩)
  intro hbr
  have hb33 := hbr
  refine g_skip ?_
  refine g_seq ?_
  refine g_region ?_
  refine l_move rfl rfl ?_
  refine l_assign rfl rfl ?_
  refine l_assign rfl rfl ?_
  refine l_nil ?_
  refine g_wnil 28 .u32 ?_
  refine g_ret Try.func30 rfl (.tmp rfl (.tmp rfl .nil)) ?_
  (first | exact Gives.mki ⟨none, 0, 0, [], 191, rfl, rfl, .inl rfl, rfl, .inr (.inl ⟨rfl, rfl, hi, by rcases hG with ⟨h8, _⟩ | ⟨_, _, h9⟩; (simp_all); exact h9⟩)⟩ | exact Gives.mki ⟨a, q, c2, T, 0, rfl, hT, ha, rfl, .inr (.inr ⟨rfl, hi, by rcases hG with ⟨_, h9⟩ | ⟨h8, _, _⟩; exact h9; (simp_all)⟩)⟩)
theorem read_out (w0 : World) (F : List Atom) (b g n c : Nat) (W : List Int) (hW : W.length = n) (hc : n ≤ c) (hn : n ≤ 1073741824) (hU : W32s W) (at_ : Int) (at_0 : -9223372036854775808 ≤ at_) (at_1 : at_ ≤ 9223372036854775807) (wd : Int) (hwd : WdOk wd) (h : Nat) (h1 : 2 ≤ h) (h2 : h ≤ 3) (hi : ¬ inR n at_ (h + wd)) :
    CallK Try.prog 30 [.pointer (some ⟨b, 0, none⟩), .int .i64 at_, .int .i64 wd, .int .i64 h] w0 (Blk b (.cells [.slice (some ⟨g, 0, none⟩) n c].toArray 63 (0, 0)) :: Own 28 1 (.slice (some ⟨g, 0, none⟩) n c) n (ints .u32 W) :: F) (Gives w0 fun v F2 => ∃ a q c2 T e, v = .tuple #[.slice a q c2, .int .i64 e] ∧ T.length = q ∧ (q = 0 ∨ ∃ g2, a = some ⟨g2, 0, none⟩) ∧ F2 = Own 28 1 (.slice a q c2) q (ints .u32 T) :: Blk b (.cells [.slice (some ⟨g, 0, none⟩) n c].toArray 63 (0, 0)) :: Own 28 1 (.slice (some ⟨g, 0, none⟩) n c) n (ints .u32 W) :: F ∧ ReadG W n at_ wd h T e) := by
  obtain ⟨wd0, wd1⟩ := id hwd
  refine c_enter Try.func30 rfl rfl rfl ?_
  refine g_seq ?_
  refine g_region ?_
  refine l_assign rfl rfl ?_
  refine l_assign rfl rfl ?_
  refine l_nil ?_
  refine g_seq ?_
  refine g_region ?_
  refine l_move rfl rfl ?_
  refine l_move rfl rfl ?_
  refine l_move rfl rfl ?_
  refine l_move rfl rfl ?_
  first | refine l_add rfl rfl rfl (w_i64 (by omega) (by omega)) ?_ | refine l_addw rfl rfl rfl ?_
  refine l_call rfl Try.call44 rfl (take_bad _ _ b g n c W hW hc hn at_ (h + wd) (by omega) (by omega) (by omega) (by omega) hi) ?_; rintro _ _ ⟨rfl, rfl⟩
  refine l_move rfl rfl ?_
  refine l_extract rfl rfl rfl ?_
  refine l_extract rfl rfl rfl ?_
  refine l_assign rfl rfl ?_
  refine l_assign rfl rfl ?_
  refine l_nil ?_
  refine g_seq ?_
  refine g_seq ?_
  refine g_region ?_
  refine l_move rfl rfl ?_
  refine l_neq rfl rfl rfl ?_
  refine l_nil ?_
  refine g_cond rfl ?_ ?_
  · intro hbr
    have hbr := of_decide_eq_true hbr
    refine g_seq ?_
    refine g_region ?_
    refine l_move rfl rfl ?_
    refine l_assign rfl rfl ?_
    refine l_assign rfl rfl ?_
    refine l_nil ?_
    refine g_wnil 28 .u32 ?_
    refine g_ret Try.func30 rfl (.tmp rfl (.tmp rfl .nil)) ?_
    exact Gives.mki ⟨none, 0, 0, [], 51, rfl, rfl, .inl rfl, rfl, .inl ⟨rfl, rfl, hi⟩⟩
  · intro hbr
    have hbr := of_decide_eq_false hbr
    (exfalso; omega)
theorem read_g (w0 : World) (F : List Atom) (b g n c : Nat) (W : List Int) (hW : W.length = n) (hc : n ≤ c) (hn : n ≤ 1073741824) (hU : W32s W) (at_ : Int) (at_0 : -9223372036854775808 ≤ at_) (at_1 : at_ ≤ 9223372036854775807) (wd : Int) (hwd : WdOk wd) (h : Nat) (h1 : 2 ≤ h) (h2 : h ≤ 3) : CallK Try.prog 30 [.pointer (some ⟨b, 0, none⟩), .int .i64 at_, .int .i64 wd, .int .i64 h] w0 (Blk b (.cells [.slice (some ⟨g, 0, none⟩) n c].toArray 63 (0, 0)) :: Own 28 1 (.slice (some ⟨g, 0, none⟩) n c) n (ints .u32 W) :: F) (Gives w0 fun v F2 => ∃ a q c2 T e, v = .tuple #[.slice a q c2, .int .i64 e] ∧ T.length = q ∧ (q = 0 ∨ ∃ g2, a = some ⟨g2, 0, none⟩) ∧ F2 = Own 28 1 (.slice a q c2) q (ints .u32 T) :: Blk b (.cells [.slice (some ⟨g, 0, none⟩) n c].toArray 63 (0, 0)) :: Own 28 1 (.slice (some ⟨g, 0, none⟩) n c) n (ints .u32 W) :: F ∧ ReadG W n at_ wd h T e) := by
  by_cases hi : inR n at_ (h + wd)
  · exact read_in w0 F b g n c W hW hc hn hU at_ at_0 at_1 wd hwd h h1 h2 hi
  · exact read_out w0 F b g n c W hW hc hn hU at_ at_0 at_1 wd hwd h h1 h2 hi
theorem put_ok (w0 : World) (F : List Atom) (b g n c : Nat) (W : List Int) (hW : W.length = n) (hc : n ≤ c) (hn : n ≤ 1073741824) (hU : W32s W) (h16 : n % 16 = 0) (at_ : Int) (at_0 : -9223372036854775808 ≤ at_) (at_1 : at_ ≤ 9223372036854775807) (wd : Int) (wd0 : -9223372036854775808 ≤ wd) (wd1 : wd ≤ 9223372036854775807) (a : Option Addr) (q qc : Nat) (M : List Int) (hM : IR w0 F .u32 a q M) (hq : q ≤ 9223372036854775807) :
    CallK Try.prog 9 [.pointer (some ⟨b, 0, none⟩), .int .i64 at_, .int .i64 wd, .slice a q qc] w0 (Blk b (.cells [.slice (some ⟨g, 0, none⟩) n c].toArray 63 (0, 0)) :: Own 28 1 (.slice (some ⟨g, 0, none⟩) n c) n (ints .u32 W) :: F) (Gives w0 fun v F2 => ∃ W2 e, v = .int .i64 e ∧ W2.length = n ∧ F2 = Blk b (.cells [.slice (some ⟨g, 0, none⟩) n c].toArray 63 (0, 0)) :: Own 28 1 (.slice (some ⟨g, 0, none⟩) n c) n (ints .u32 W2) :: F ∧ PutG W n at_ wd M W2 e) := by
  have hMl := hM.1
  refine c_enter Try.func9 rfl rfl rfl ?_
  refine g_seq ?_
  refine g_region ?_
  refine l_assign rfl rfl ?_
  refine l_nil ?_
  refine g_seq ?_
  refine g_seq ?_
  refine g_region ?_
  refine l_move rfl rfl ?_
  refine l_move rfl rfl ?_
  refine l_call rfl Try.call28 rfl (may_ok _ _ b wd wd0 wd1) ?_; rintro _ F9 ⟨e1, rfl, hF9, he1⟩; rw [hF9]; clear hF9 F9
  unfold WdOk at he1
  refine l_assign rfl rfl ?_
  refine l_nil ?_
  refine g_seq ?_
  refine g_region ?_
  refine l_move rfl rfl ?_
  refine l_neq rfl rfl rfl ?_
  refine l_nil ?_
  refine g_cond rfl ?_ ?_
  · intro hbr
    have hbr := of_decide_eq_true hbr
    refine g_seq ?_
    refine g_region ?_
    refine l_move rfl rfl ?_
    refine l_assign rfl rfl ?_
    refine l_nil ?_
    refine g_ret Try.func9 rfl (.tmp rfl .nil) ?_
    (first | exact Gives.mki ⟨W, e1, rfl, hW, rfl, .inl ⟨by unfold WdOk; omega, by omega, rfl⟩⟩ | exact Gives.mki ⟨W, e2, rfl, hW, rfl, .inr (.inl ⟨by unfold WdOk; omega, by unfold inR; omega, by omega, rfl⟩)⟩ | exact Gives.mki ⟨W, 190, rfl, hW, rfl, .inr (.inr (.inl ⟨by unfold WdOk; omega, by unfold inR; omega, by omega, rfl, rfl⟩))⟩ | exact Gives.mki ⟨W, e4, rfl, hW, rfl, .inr (.inr (.inr (.inl ⟨hwd, hi, by omega, by rcases hRd with h | h | h; exact absurd hi h.2.2; exact h.2.2.2; omega, by omega, rfl⟩)))⟩ | exact Gives.mki ⟨_, 0, rfl, by rw [spl_length (by rw [stageW_len (by omega) (by omega)]; omega)]; exact hW, rfl, .inr (.inr (.inr (.inr ⟨hwd, hi, by omega, by rcases hRd with h | h | h; exact absurd hi h.2.2; omega; exact ⟨T, h.2.2⟩, rfl, rfl⟩)))⟩)
  intro hbr
  have hbr := of_decide_eq_false hbr
  refine g_skip ?_
  refine g_seq ?_
  refine g_seq ?_
  refine g_region ?_
  refine l_move rfl rfl ?_
  refine l_move rfl rfl ?_
  refine l_move rfl rfl ?_
  first | refine l_add rfl rfl rfl (w_i64 (by omega) (by omega)) ?_ | refine l_addw rfl rfl rfl ?_
  refine l_call rfl Try.call29 rfl (stands_ok _ _ b g n c W hW hc hn h16 at_ at_0 at_1 (2 + wd) (by omega) (by omega)) ?_; rintro _ _ ⟨e2, rfl, rfl, he2⟩
  have he3 := he2
  unfold inR at he2
  refine l_assign rfl rfl ?_
  refine l_nil ?_
  refine g_seq ?_
  refine g_region ?_
  refine l_move rfl rfl ?_
  refine l_neq rfl rfl rfl ?_
  refine l_nil ?_
  refine g_cond rfl ?_ ?_
  · intro hbr
    have hbr := of_decide_eq_true hbr
    refine g_seq ?_
    refine g_region ?_
    refine l_move rfl rfl ?_
    refine l_assign rfl rfl ?_
    refine l_nil ?_
    refine g_ret Try.func9 rfl (.tmp rfl .nil) ?_
    (first | exact Gives.mki ⟨W, e1, rfl, hW, rfl, .inl ⟨by unfold WdOk; omega, by omega, rfl⟩⟩ | exact Gives.mki ⟨W, e2, rfl, hW, rfl, .inr (.inl ⟨by unfold WdOk; omega, by unfold inR; omega, by omega, rfl⟩)⟩ | exact Gives.mki ⟨W, 190, rfl, hW, rfl, .inr (.inr (.inl ⟨by unfold WdOk; omega, by unfold inR; omega, by omega, rfl, rfl⟩))⟩ | exact Gives.mki ⟨W, e4, rfl, hW, rfl, .inr (.inr (.inr (.inl ⟨hwd, hi, by omega, by rcases hRd with h | h | h; exact absurd hi h.2.2; exact h.2.2.2; omega, by omega, rfl⟩)))⟩ | exact Gives.mki ⟨_, 0, rfl, by rw [spl_length (by rw [stageW_len (by omega) (by omega)]; omega)]; exact hW, rfl, .inr (.inr (.inr (.inr ⟨hwd, hi, by omega, by rcases hRd with h | h | h; exact absurd hi h.2.2; omega; exact ⟨T, h.2.2⟩, rfl, rfl⟩)))⟩)
  intro hbr
  have hbr := of_decide_eq_false hbr
  refine g_skip ?_
  refine g_seq ?_
  refine g_seq ?_
  refine g_region ?_
  refine l_move rfl rfl ?_
  refine l_len rfl Try.underlying29 rfl ?_
  refine l_lss rfl rfl rfl ?_
  refine l_move rfl rfl ?_
  refine l_split 31 rfl ?_ ?_
  · intro hbr
    have hbr := of_decide_eq_true hbr
    refine l_guard_no rfl rfl rfl ?_
    refine l_guard_no rfl rfl rfl ?_
    refine l_guard_no rfl rfl rfl ?_
    refine l_guard_no rfl rfl rfl ?_
    refine l_pick_t rfl rfl rfl ?_
    refine l_nil ?_
    refine g_cond_t rfl ?_
    refine g_seq ?_
    refine g_region ?_
    refine l_assign rfl rfl ?_
    refine l_nil ?_
    refine g_ret Try.func9 rfl (.tmp rfl .nil) ?_
    (first | exact Gives.mki ⟨W, e1, rfl, hW, rfl, .inl ⟨by unfold WdOk; omega, by omega, rfl⟩⟩ | exact Gives.mki ⟨W, e2, rfl, hW, rfl, .inr (.inl ⟨by unfold WdOk; omega, by unfold inR; omega, by omega, rfl⟩)⟩ | exact Gives.mki ⟨W, 190, rfl, hW, rfl, .inr (.inr (.inl ⟨by unfold WdOk; omega, by unfold inR; omega, by omega, rfl, rfl⟩))⟩ | exact Gives.mki ⟨W, e4, rfl, hW, rfl, .inr (.inr (.inr (.inl ⟨hwd, hi, by omega, by rcases hRd with h | h | h; exact absurd hi h.2.2; exact h.2.2.2; omega, by omega, rfl⟩)))⟩ | exact Gives.mki ⟨_, 0, rfl, by rw [spl_length (by rw [stageW_len (by omega) (by omega)]; omega)]; exact hW, rfl, .inr (.inr (.inr (.inr ⟨hwd, hi, by omega, by rcases hRd with h | h | h; exact absurd hi h.2.2; omega; exact ⟨T, h.2.2⟩, rfl, rfl⟩)))⟩)
  intro hbr
  have hbr := of_decide_eq_false hbr
  refine l_guard_yes rfl rfl ?_
  refine l_move rfl rfl ?_
  refine l_guard_yes rfl rfl ?_
  refine l_len rfl Try.underlying29 rfl ?_
  refine l_guard_yes rfl rfl ?_
  refine l_move rfl rfl ?_
  refine l_guard_yes rfl rfl ?_
  refine l_gtr rfl rfl rfl ?_
  refine l_pick_f rfl rfl rfl ?_
  refine l_nil ?_
  refine g_cond rfl ?_ ?_
  · intro hbr
    have hbr := of_decide_eq_true hbr
    refine g_seq ?_
    refine g_region ?_
    refine l_assign rfl rfl ?_
    refine l_nil ?_
    refine g_ret Try.func9 rfl (.tmp rfl .nil) ?_
    (first | exact Gives.mki ⟨W, e1, rfl, hW, rfl, .inl ⟨by unfold WdOk; omega, by omega, rfl⟩⟩ | exact Gives.mki ⟨W, e2, rfl, hW, rfl, .inr (.inl ⟨by unfold WdOk; omega, by unfold inR; omega, by omega, rfl⟩)⟩ | exact Gives.mki ⟨W, 190, rfl, hW, rfl, .inr (.inr (.inl ⟨by unfold WdOk; omega, by unfold inR; omega, by omega, rfl, rfl⟩))⟩ | exact Gives.mki ⟨W, e4, rfl, hW, rfl, .inr (.inr (.inr (.inl ⟨hwd, hi, by omega, by rcases hRd with h | h | h; exact absurd hi h.2.2; exact h.2.2.2; omega, by omega, rfl⟩)))⟩ | exact Gives.mki ⟨_, 0, rfl, by rw [spl_length (by rw [stageW_len (by omega) (by omega)]; omega)]; exact hW, rfl, .inr (.inr (.inr (.inr ⟨hwd, hi, by omega, by rcases hRd with h | h | h; exact absurd hi h.2.2; omega; exact ⟨T, h.2.2⟩, rfl, rfl⟩)))⟩)
  intro hbr
  have hbr := of_decide_eq_false hbr
  refine g_skip ?_
  refine g_seq ?_
  refine g_seq ?_
  refine g_region ?_
  refine l_move rfl rfl ?_
  refine l_move rfl rfl ?_
  refine l_move rfl rfl ?_
  have hwd : WdOk wd := by unfold WdOk; omega
  have hi : inR n at_ (2 + wd) := by rcases he3 with h | h; omega; exact h.2
  refine l_call rfl Try.call30 rfl (read_g _ _ b g n c W hW hc hn hU at_ at_0 at_1 wd hwd 2 (by omega) (by omega)) ?_; rintro _ _ ⟨ar, qr, cr, T, e4, rfl, hT, har, rfl, hRd⟩
  have he4 : e4 = 191 ∨ e4 = 0 := by rcases hRd with h | h | h; exact absurd hi h.2.2; exact .inl h.1; exact .inr h.1
  refine l_move rfl rfl ?_
  refine l_extract rfl rfl rfl ?_
  refine l_extract rfl rfl rfl ?_
  refine l_assign rfl rfl ?_
  refine l_assign rfl rfl ?_
  refine l_nil ?_
  refine g_seq ?_
  refine g_region ?_
  refine l_move rfl rfl ?_
  refine l_neq rfl rfl rfl ?_
  refine l_nil ?_
  refine g_cond rfl ?_ ?_
  · intro hbr
    have hbr := of_decide_eq_true hbr
    refine g_seq ?_
    refine g_region ?_
    refine l_move rfl rfl ?_
    refine l_assign rfl rfl ?_
    refine l_nil ?_
    refine g_ret Try.func9 rfl (.tmp rfl .nil) ?_
    (first | exact Gives.mki ⟨W, e1, rfl, hW, rfl, .inl ⟨by unfold WdOk; omega, by omega, rfl⟩⟩ | exact Gives.mki ⟨W, e2, rfl, hW, rfl, .inr (.inl ⟨by unfold WdOk; omega, by unfold inR; omega, by omega, rfl⟩)⟩ | exact Gives.mki ⟨W, 190, rfl, hW, rfl, .inr (.inr (.inl ⟨by unfold WdOk; omega, by unfold inR; omega, by omega, rfl, rfl⟩))⟩ | exact Gives.mki ⟨W, e4, rfl, hW, rfl, .inr (.inr (.inr (.inl ⟨hwd, hi, by omega, by rcases hRd with h | h | h; exact absurd hi h.2.2; exact h.2.2.2; omega, by omega, rfl⟩)))⟩ | exact Gives.mki ⟨_, 0, rfl, by rw [spl_length (by rw [stageW_len (by omega) (by omega)]; omega)]; exact hW, rfl, .inr (.inr (.inr (.inr ⟨hwd, hi, by omega, by rcases hRd with h | h | h; exact absurd hi h.2.2; omega; exact ⟨T, h.2.2⟩, rfl, rfl⟩)))⟩)
  intro hbr
  have hbr := of_decide_eq_false hbr
  refine g_skip ?_
  refine g_seq ?_
  refine g_region ?_
  refine l_move rfl rfl ?_
  first | refine l_add rfl rfl rfl (w_i64 (by omega) (by omega)) ?_ | refine l_addw rfl rfl rfl ?_
  obtain ⟨bM, oM, rfl, hrM⟩ := hM.some (i := 0) (by omega)
  refine l_makew rfl Try.underlying29 Try.type28 rfl rfl rfl rfl (by omega) (by show (4 : Int) * _ ≤ _; omega) (by omega) ?_; intro b49
  refine l_assign rfl rfl ?_
  refine l_nil ?_
  refine g_seq ?_
  refine g_region ?_
  refine l_move rfl rfl ?_
  refine l_move rfl rfl ?_
  refine l_move rfl rfl ?_
  refine l_len rfl Try.underlying29 rfl ?_
  first | refine l_conv rfl Try.underlying3 Try.underlying28 rfl (w_u32 (by omega) (by omega)) ?_ | refine l_convm (m := 4294967296) rfl wr_u32 Try.underlying3 Try.underlying28 rfl ?_
  refine l_ixs rfl Try.underlying29 Try.sizeOf28 rfl rfl (by omega) (by omega) ?_
  refine l_storew 0 Try.sizeOf28 rfl rfl rfl (by simp; omega) rfl ?_
  refine l_ixs rfl Try.underlying29 Try.sizeOf28 rfl rfl (by omega) (by omega) ?_
  refine l_storew 0 Try.sizeOf28 rfl rfl rfl (by simp; omega) rfl ?_
  refine l_nil ?_
  refine g_seq ?_
  refine g_region ?_
  refine l_move rfl rfl ?_
  refine l_slice_lo rfl Try.underlying29 Try.sizeOf28 rfl rfl (by omega) (by omega) (by omega) ?_; intro o58 ho58
  refine l_move rfl rfl ?_
  obtain rfl : o58 = 2 := by omega
  refine l_copyw 0 (W := M) rfl Try.underlying29 Try.sizeOf28 rfl rfl rfl ⟨by rw [ints_length]; omega, .inl ⟨_, _, _, rfl, hrM.ex⟩⟩ (by simp; omega) (by rw [show M.take (min q ((2 + wd).toNat - (2 : Int).toNat)) = M from List.take_of_length_le (by omega)]; rfl) ?_
  rw [show spl 2 M (((List.replicate (2 + wd).toNat (0 : Int)).set (0 : Int).toNat 1).set (1 : Int).toNat (q : Int)) = stageW M wd by unfold stageW; rw [hMl]; rfl]
  refine l_nil ?_
  refine g_seq ?_
  refine g_region ?_
  refine l_move rfl rfl ?_
  refine l_move rfl rfl ?_
  refine l_move rfl rfl ?_
  refine l_fronto g ?_
  refine l_frontb b ?_
  refine l_call rfl Try.call31 rfl (lay_ok _ _ b g n c W hW hc hn at_ (by omega) b49 0 (2 + wd).toNat (2 + wd).toNat (stageW M wd) (stageW_len (by omega) (by omega)) (by omega) (.own (mem_getO 0 rfl)) (by unfold inR; omega)) ?_; rintro _ _ ⟨rfl, rfl⟩
  refine l_assign rfl rfl ?_
  refine l_nil ?_
  refine g_ret Try.func9 rfl (.tmp rfl .nil) ?_
  (first | exact Gives.mki ⟨W, e1, rfl, hW, rfl, .inl ⟨by unfold WdOk; omega, by omega, rfl⟩⟩ | exact Gives.mki ⟨W, e2, rfl, hW, rfl, .inr (.inl ⟨by unfold WdOk; omega, by unfold inR; omega, by omega, rfl⟩)⟩ | exact Gives.mki ⟨W, 190, rfl, hW, rfl, .inr (.inr (.inl ⟨by unfold WdOk; omega, by unfold inR; omega, by omega, rfl, rfl⟩))⟩ | exact Gives.mki ⟨W, e4, rfl, hW, rfl, .inr (.inr (.inr (.inl ⟨hwd, hi, by omega, by rcases hRd with h | h | h; exact absurd hi h.2.2; exact h.2.2.2; omega, by omega, rfl⟩)))⟩ | exact Gives.mki ⟨_, 0, rfl, by rw [spl_length (by rw [stageW_len (by omega) (by omega)]; omega)]; exact hW, rfl, .inr (.inr (.inr (.inr ⟨hwd, hi, by omega, by rcases hRd with h | h | h; exact absurd hi h.2.2; omega; exact ⟨T, h.2.2⟩, rfl, rfl⟩)))⟩)
theorem staged_ok (w0 : World) (F : List Atom) (b g n c : Nat) (W : List Int) (hW : W.length = n) (hc : n ≤ c) (hn : n ≤ 1073741824) (hU : W32s W) (h16 : n % 16 = 0) (at_ : Int) (at_0 : -9223372036854775808 ≤ at_) (at_1 : at_ ≤ 9223372036854775807) (wd : Int) (wd0 : -9223372036854775808 ≤ wd) (wd1 : wd ≤ 9223372036854775807) :
    CallK Try.prog 20 [.pointer (some ⟨b, 0, none⟩), .int .i64 at_, .int .i64 wd] w0 (Blk b (.cells [.slice (some ⟨g, 0, none⟩) n c].toArray 63 (0, 0)) :: Own 28 1 (.slice (some ⟨g, 0, none⟩) n c) n (ints .u32 W) :: F) (Gives w0 fun v F2 => ∃ k e, v = .tuple #[.int .i64 k, .int .i64 e] ∧ F2 = Blk b (.cells [.slice (some ⟨g, 0, none⟩) n c].toArray 63 (0, 0)) :: Own 28 1 (.slice (some ⟨g, 0, none⟩) n c) n (ints .u32 W) :: F ∧ StgG W n at_ wd k e) := by
  refine c_enter Try.func20 rfl rfl rfl ?_
  refine g_seq ?_
  refine g_region ?_
  refine l_assign rfl rfl ?_
  refine l_assign rfl rfl ?_
  refine l_nil ?_
  refine g_seq ?_
  refine g_seq ?_
  refine g_region ?_
  refine l_move rfl rfl ?_
  refine l_move rfl rfl ?_
  refine l_call rfl Try.call28 rfl (may_ok _ _ b wd wd0 wd1) ?_; rintro _ F9 ⟨e1, rfl, hF9, he1⟩; rw [hF9]; clear hF9 F9
  unfold WdOk at he1
  refine l_assign rfl rfl ?_
  refine l_nil ?_
  refine g_seq ?_
  refine g_region ?_
  refine l_move rfl rfl ?_
  refine l_neq rfl rfl rfl ?_
  refine l_nil ?_
  refine g_cond rfl ?_ ?_
  · intro hbr
    have hbr := of_decide_eq_true hbr
    refine g_seq ?_
    refine g_region ?_
    refine l_move rfl rfl ?_
    refine l_assign rfl rfl ?_
    refine l_assign rfl rfl ?_
    refine l_nil ?_
    refine g_ret Try.func20 rfl (.tmp rfl (.tmp rfl .nil)) ?_
    (first | exact Gives.mki ⟨0, e1, rfl, rfl, .inl ⟨by unfold WdOk; omega, by omega, rfl⟩⟩ | exact Gives.mki ⟨_, e4, rfl, rfl, .inr ⟨hwd, T, hRd, by rw [hT]⟩⟩)
  intro hbr
  have hbr := of_decide_eq_false hbr
  refine g_skip ?_
  refine g_seq ?_
  refine g_region ?_
  refine l_move rfl rfl ?_
  refine l_move rfl rfl ?_
  refine l_move rfl rfl ?_
  have hwd : WdOk wd := by unfold WdOk; omega
  refine l_call rfl Try.call30 rfl (read_g _ _ b g n c W hW hc hn hU at_ at_0 at_1 wd hwd 2 (by omega) (by omega)) ?_; rintro _ _ ⟨ar, qr, cr, T, e4, rfl, hT, har, rfl, hRd⟩
  refine l_move rfl rfl ?_
  refine l_extract rfl rfl rfl ?_
  refine l_extract rfl rfl rfl ?_
  refine l_assign rfl rfl ?_
  refine l_assign rfl rfl ?_
  refine l_nil ?_
  refine g_seq ?_
  refine g_region ?_
  refine l_move rfl rfl ?_
  refine l_len rfl Try.underlying29 rfl ?_
  refine l_min rfl rfl rfl ?_
  refine l_move rfl rfl ?_
  refine l_assign rfl rfl ?_
  refine l_assign rfl rfl ?_
  refine l_nil ?_
  refine g_ret Try.func20 rfl (.tmp rfl (.tmp rfl .nil)) ?_
  (first | exact Gives.mki ⟨0, e1, rfl, rfl, .inl ⟨by unfold WdOk; omega, by omega, rfl⟩⟩ | exact Gives.mki ⟨_, e4, rfl, rfl, .inr ⟨hwd, T, hRd, by rw [hT]⟩⟩)
end Go.Proofs.Ythngpcaljljlaaa.Fw
