import Derived.Test.YtecibldbnekgbaaProg
import Derived.Test.YtecibldbnekgbaaFw24
namespace Go.Proofs.Ytecibldbnekgbaa.Fw
open Go Go.Proofs
set_option linter.unusedVariables false
set_option linter.unusedSimpArgs false
set_option maxRecDepth 10000
theorem fa_76_0 (a : Addr) (w : World) : (Instr.fieldAt 76 (.pointer (some a)) 0).run Try.prog w = .ok (.pointer (some (a.add 0))) w := by
  simp [Instr.fieldAt, Try.runUnderlying76, Instr.sureAddr, fieldPlace, Try.sizeOf29, Sem.run_bind, Sem.run_pure]
theorem bd_76_0 (a0_0 : Option Addr) (n0_0 c0_0 : Nat) (w : World) : (Instr.build 76 #[(0, .slice a0_0 n0_0 c0_0)]).run Try.prog w = .ok (.agg #[.slice a0_0 n0_0 c0_0]) w := by kernel_rfl
def inR (n : Nat) (at_ k : Int) : Prop := 0 ≤ at_ ∧ 0 ≤ k ∧ at_ ≤ n ∧ k ≤ n - at_
instance (n : Nat) (at_ k : Int) : Decidable (inR n at_ k) := by unfold inR; infer_instance
theorem there_ok (w0 : World) (F : List Atom) (b : Nat) (a : Option Addr) (n c : Nat) (hn : n ≤ 9223372036854775807) (at_ k : Int) (a0 : -9223372036854775808 ≤ at_) (a1 : at_ ≤ 9223372036854775807) (k0 : -9223372036854775808 ≤ k) (k1 : k ≤ 9223372036854775807) (h : inR n at_ k) :
    CallK Try.prog 59 [.pointer (some ⟨b, 0, none⟩), .int .i64 at_, .int .i64 k] w0 (Blk b (.cells [.slice a n c].toArray 76 (0, 0)) :: F) (Gives w0 fun v F2 => v = .int .i64 0 ∧ F2 = Blk b (.cells [.slice a n c].toArray 76 (0, 0)) :: F) := by
  unfold inR at h
  refine c_enter Try.func59 rfl rfl rfl ?_
  refine g_seq ?_
  refine g_region ?_
  refine l_assign rfl rfl ?_
  refine l_nil ?_
  refine g_seq ?_
  refine g_seq ?_
  refine g_region ?_
  refine l_move rfl rfl ?_
  refine l_eqpn rfl Try.underlying22 rfl rfl ?_
  refine l_nil ?_
  first | refine g_cond_f rfl ?_ | refine g_cond_f (congrArg (fun b => some (Value.bool b)) (decide_eq_false hbr)) ?_
  refine g_skip ?_
  refine g_seq ?_
  refine g_seq ?_
  refine g_region ?_
  refine l_move rfl rfl ?_
  refine l_lss rfl rfl rfl ?_
  refine l_move rfl rfl ?_
  refine l_split 11 rfl ?_ ?_
  · intro hbr
    have hbr := of_decide_eq_true hbr
    (exfalso; omega)
  intro hbr
  have hbr := of_decide_eq_false hbr
  refine l_guard_yes rfl rfl ?_
  refine l_move rfl rfl ?_
  refine l_guard_yes rfl rfl ?_
  refine l_lss rfl rfl rfl ?_
  refine l_pick_f rfl rfl rfl ?_
  refine l_move rfl rfl ?_
  refine l_split 15 rfl ?_ ?_
  · intro hbr
    have hbr := of_decide_eq_true hbr
    (exfalso; omega)
  intro hbr
  have hbr := of_decide_eq_false hbr
  refine l_guard_yes rfl rfl ?_
  refine l_move rfl rfl ?_
  refine l_guard_yes rfl rfl ?_
  refine l_move rfl rfl ?_
  refine l_guard_yes rfl rfl ?_
  refine l_nilCheck rfl rfl ?_
  refine l_guard_yes rfl rfl ?_
  refine l_fieldAddr rfl fa_76_0 rfl ?_
  refine l_guard_yes rfl rfl ?_
  refine l_ld rfl Try.isAgg29 rfl rfl ?_
  refine l_guard_yes rfl rfl ?_
  refine l_len rfl Try.underlying29 rfl ?_
  refine l_guard_yes rfl rfl ?_
  refine l_gtr rfl rfl rfl ?_
  refine l_pick_f rfl rfl rfl ?_
  refine l_move rfl rfl ?_
  refine l_split 24 rfl ?_ ?_
  · intro hbr
    have hbr := of_decide_eq_true hbr
    (exfalso; omega)
  intro hbr
  have hbr := of_decide_eq_false hbr
  refine l_guard_yes rfl rfl ?_
  refine l_move rfl rfl ?_
  refine l_guard_yes rfl rfl ?_
  refine l_move rfl rfl ?_
  refine l_guard_yes rfl rfl ?_
  refine l_nilCheck rfl rfl ?_
  refine l_guard_yes rfl rfl ?_
  refine l_fieldAddr rfl fa_76_0 rfl ?_
  refine l_guard_yes rfl rfl ?_
  refine l_ld rfl Try.isAgg29 rfl rfl ?_
  refine l_guard_yes rfl rfl ?_
  refine l_len rfl Try.underlying29 rfl ?_
  refine l_guard_yes rfl rfl ?_
  refine l_move rfl rfl ?_
  refine l_guard_yes rfl rfl ?_
  first | refine l_sub_ rfl rfl rfl (w_i64 (by omega) (by omega)) ?_ | refine l_subw rfl rfl rfl ?_
  refine l_guard_yes rfl rfl ?_
  refine l_gtr rfl rfl rfl ?_
  refine l_pick_f rfl rfl rfl ?_
  refine l_nil ?_
  refine g_cond rfl ?_ ?_
  · intro hbr
    have hbr := of_decide_eq_true hbr
    (exfalso; omega)
  intro hbr
  have hbr := of_decide_eq_false hbr
  refine g_skip ?_
  refine g_seq ?_
  refine g_region ?_
  refine l_assign rfl rfl ?_
  refine l_nil ?_
  refine g_ret Try.func59 rfl (.tmp rfl .nil) ?_
  exact Gives.mk ⟨rfl, rfl⟩ .refl
theorem there_bad (w0 : World) (F : List Atom) (b : Nat) (a : Option Addr) (n c : Nat) (hn : n ≤ 9223372036854775807) (at_ k : Int) (a0 : -9223372036854775808 ≤ at_) (a1 : at_ ≤ 9223372036854775807) (k0 : -9223372036854775808 ≤ k) (k1 : k ≤ 9223372036854775807) (h : ¬ inR n at_ k) :
    CallK Try.prog 59 [.pointer (some ⟨b, 0, none⟩), .int .i64 at_, .int .i64 k] w0 (Blk b (.cells [.slice a n c].toArray 76 (0, 0)) :: F) (Gives w0 fun v F2 => v = .int .i64 51 ∧ F2 = Blk b (.cells [.slice a n c].toArray 76 (0, 0)) :: F) := by
  unfold inR at h
  refine c_enter Try.func59 rfl rfl rfl ?_
  refine g_seq ?_
  refine g_region ?_
  refine l_assign rfl rfl ?_
  refine l_nil ?_
  refine g_seq ?_
  refine g_seq ?_
  refine g_region ?_
  refine l_move rfl rfl ?_
  refine l_eqpn rfl Try.underlying22 rfl rfl ?_
  refine l_nil ?_
  first | refine g_cond_f rfl ?_ | refine g_cond_f (congrArg (fun b => some (Value.bool b)) (decide_eq_false hbr)) ?_
  refine g_skip ?_
  refine g_seq ?_
  refine g_seq ?_
  refine g_region ?_
  refine l_move rfl rfl ?_
  refine l_lss rfl rfl rfl ?_
  refine l_move rfl rfl ?_
  refine l_split 11 rfl ?_ ?_
  · intro hbr
    have hbr := of_decide_eq_true hbr
    refine l_guard_no rfl rfl rfl ?_
    refine l_guard_no rfl rfl rfl ?_
    refine l_pick_t rfl rfl rfl ?_
    refine l_move rfl rfl ?_
    refine l_guard_no rfl rfl rfl ?_
    refine l_guard_no rfl rfl rfl ?_
    refine l_guard_no rfl rfl rfl ?_
    refine l_guard_no rfl rfl rfl ?_
    refine l_guard_no rfl rfl rfl ?_
    refine l_guard_no rfl rfl rfl ?_
    refine l_guard_no rfl rfl rfl ?_
    refine l_pick_t rfl rfl rfl ?_
    refine l_move rfl rfl ?_
    refine l_guard_no rfl rfl rfl ?_
    refine l_guard_no rfl rfl rfl ?_
    refine l_guard_no rfl rfl rfl ?_
    refine l_guard_no rfl rfl rfl ?_
    refine l_guard_no rfl rfl rfl ?_
    refine l_guard_no rfl rfl rfl ?_
    refine l_guard_no rfl rfl rfl ?_
    refine l_guard_no rfl rfl rfl ?_
    refine l_guard_no rfl rfl rfl ?_
    refine l_pick_t rfl rfl rfl ?_
    refine l_nil ?_
    first | refine g_cond_t rfl ?_ | refine g_cond_t (congrArg (fun b => some (Value.bool b)) (decide_eq_true hbr)) ?_
    refine g_seq ?_
    refine g_region ?_
    refine l_assign rfl rfl ?_
    refine l_nil ?_
    refine g_ret Try.func59 rfl (.tmp rfl .nil) ?_
    exact Gives.mk ⟨rfl, rfl⟩ .refl
  intro hbr
  have hbr := of_decide_eq_false hbr
  refine l_guard_yes rfl rfl ?_
  refine l_move rfl rfl ?_
  refine l_guard_yes rfl rfl ?_
  refine l_lss rfl rfl rfl ?_
  refine l_pick_f rfl rfl rfl ?_
  refine l_move rfl rfl ?_
  refine l_split 15 rfl ?_ ?_
  · intro hbr
    have hbr := of_decide_eq_true hbr
    refine l_guard_no rfl rfl rfl ?_
    refine l_guard_no rfl rfl rfl ?_
    refine l_guard_no rfl rfl rfl ?_
    refine l_guard_no rfl rfl rfl ?_
    refine l_guard_no rfl rfl rfl ?_
    refine l_guard_no rfl rfl rfl ?_
    refine l_guard_no rfl rfl rfl ?_
    refine l_pick_t rfl rfl rfl ?_
    refine l_move rfl rfl ?_
    refine l_guard_no rfl rfl rfl ?_
    refine l_guard_no rfl rfl rfl ?_
    refine l_guard_no rfl rfl rfl ?_
    refine l_guard_no rfl rfl rfl ?_
    refine l_guard_no rfl rfl rfl ?_
    refine l_guard_no rfl rfl rfl ?_
    refine l_guard_no rfl rfl rfl ?_
    refine l_guard_no rfl rfl rfl ?_
    refine l_guard_no rfl rfl rfl ?_
    refine l_pick_t rfl rfl rfl ?_
    refine l_nil ?_
    first | refine g_cond_t rfl ?_ | refine g_cond_t (congrArg (fun b => some (Value.bool b)) (decide_eq_true hbr)) ?_
    refine g_seq ?_
    refine g_region ?_
    refine l_assign rfl rfl ?_
    refine l_nil ?_
    refine g_ret Try.func59 rfl (.tmp rfl .nil) ?_
    exact Gives.mk ⟨rfl, rfl⟩ .refl
  intro hbr
  have hbr := of_decide_eq_false hbr
  refine l_guard_yes rfl rfl ?_
  refine l_move rfl rfl ?_
  refine l_guard_yes rfl rfl ?_
  refine l_move rfl rfl ?_
  refine l_guard_yes rfl rfl ?_
  refine l_nilCheck rfl rfl ?_
  refine l_guard_yes rfl rfl ?_
  refine l_fieldAddr rfl fa_76_0 rfl ?_
  refine l_guard_yes rfl rfl ?_
  refine l_ld rfl Try.isAgg29 rfl rfl ?_
  refine l_guard_yes rfl rfl ?_
  refine l_len rfl Try.underlying29 rfl ?_
  refine l_guard_yes rfl rfl ?_
  refine l_gtr rfl rfl rfl ?_
  refine l_pick_f rfl rfl rfl ?_
  refine l_move rfl rfl ?_
  refine l_split 24 rfl ?_ ?_
  · intro hbr
    have hbr := of_decide_eq_true hbr
    refine l_guard_no rfl rfl rfl ?_
    refine l_guard_no rfl rfl rfl ?_
    refine l_guard_no rfl rfl rfl ?_
    refine l_guard_no rfl rfl rfl ?_
    refine l_guard_no rfl rfl rfl ?_
    refine l_guard_no rfl rfl rfl ?_
    refine l_guard_no rfl rfl rfl ?_
    refine l_guard_no rfl rfl rfl ?_
    refine l_guard_no rfl rfl rfl ?_
    refine l_pick_t rfl rfl rfl ?_
    refine l_nil ?_
    first | refine g_cond_t rfl ?_ | refine g_cond_t (congrArg (fun b => some (Value.bool b)) (decide_eq_true hbr)) ?_
    refine g_seq ?_
    refine g_region ?_
    refine l_assign rfl rfl ?_
    refine l_nil ?_
    refine g_ret Try.func59 rfl (.tmp rfl .nil) ?_
    exact Gives.mk ⟨rfl, rfl⟩ .refl
  intro hbr
  have hbr := of_decide_eq_false hbr
  refine l_guard_yes rfl rfl ?_
  refine l_move rfl rfl ?_
  refine l_guard_yes rfl rfl ?_
  refine l_move rfl rfl ?_
  refine l_guard_yes rfl rfl ?_
  refine l_nilCheck rfl rfl ?_
  refine l_guard_yes rfl rfl ?_
  refine l_fieldAddr rfl fa_76_0 rfl ?_
  refine l_guard_yes rfl rfl ?_
  refine l_ld rfl Try.isAgg29 rfl rfl ?_
  refine l_guard_yes rfl rfl ?_
  refine l_len rfl Try.underlying29 rfl ?_
  refine l_guard_yes rfl rfl ?_
  refine l_move rfl rfl ?_
  refine l_guard_yes rfl rfl ?_
  first | refine l_sub_ rfl rfl rfl (w_i64 (by omega) (by omega)) ?_ | refine l_subw rfl rfl rfl ?_
  refine l_guard_yes rfl rfl ?_
  refine l_gtr rfl rfl rfl ?_
  refine l_pick_f rfl rfl rfl ?_
  refine l_nil ?_
  refine g_cond rfl ?_ ?_
  · intro hbr
    have hbr := of_decide_eq_true hbr
    refine g_seq ?_
    refine g_region ?_
    refine l_assign rfl rfl ?_
    refine l_nil ?_
    refine g_ret Try.func59 rfl (.tmp rfl .nil) ?_
    exact Gives.mk ⟨rfl, rfl⟩ .refl
  · intro hbr
    have hbr := of_decide_eq_false hbr
    (exfalso; omega)
theorem inR1 {n : Nat} {at_ : Int} (h : inR n at_ 1) : 0 ≤ at_ ∧ at_ < n := by unfold inR at h; omega
theorem clone_some (w0 : World) (F : List Atom) (b o n c : Nat) (W : List Int) (hW : W.length = n) (hc : n ≤ c) (hn : n ≤ 1073741824) (hr : RowAt w0 F b o (ints .u32 W)) :
    CallK Try.prog 31 [.slice (some ⟨b, o, none⟩) n c] w0 (F) (Gives w0 fun v F2 => ∃ g c2, v = .slice (some ⟨g, 0, none⟩) n c2 ∧ n ≤ c2 ∧ F2 = Own 33 1 (.slice (some ⟨g, 0, none⟩) n c2) n (ints .u32 W) :: F) := by
  refine c_enter Try.func31 rfl rfl rfl ?_
  refine g_seq ?_
  refine g_region ?_
  refine l_assign rfl rfl ?_
  refine l_nil ?_
  refine g_seq ?_
  refine g_seq ?_
  refine g_region ?_
  refine l_move rfl rfl ?_
  refine l_eqsn rfl Try.underlying29 rfl rfl ?_
  refine l_nil ?_
  first | refine g_cond_f rfl ?_ | refine g_cond_f (congrArg (fun b => some (Value.bool b)) (decide_eq_false hbr)) ?_
  refine g_skip ?_
  refine g_seq ?_
  refine g_region ?_
  refine l_buildSlice rfl Try.underlying29 Try.sizeOf33 Try.zeroValue33 rfl rfl rfl rfl rfl rfl ?_; intro b5
  refine l_move rfl rfl ?_
  refine l_appendw 0 (by_ := 4) (V := []) rfl Try.underlying29 Try.type33 rfl rfl rfl rfl rfl rfl rfl ⟨by rw [ints_length]; omega, .inl ⟨_, _, _, rfl, hr.there⟩⟩ (by omega) (by simp only [maxLen]; omega) (Nat.zero_add _) (List.nil_append _) (fun _ => rfl) ?_; intro v7 hv7
  refine l_assign rfl rfl ?_
  refine l_nil ?_
  refine g_fact (own_cases (mem_getO 0 rfl)) ?_
  rintro ⟨_, hm7, hv | ⟨g7, c7, rfl, hc7⟩⟩
  · exact absurd (hv7.1 hv.1).1 (by simp)
  refine g_ret Try.func31 rfl (.tmp rfl .nil) ?_
  exact Gives.mk ⟨g7, c7, rfl, by omega, rfl⟩ .refl
theorem take_ok (w0 : World) (F : List Atom) (b g n c : Nat) (W : List Int) (hW : W.length = n) (hc : n ≤ c) (hn : n ≤ 1073741824) (at_ k : Int) (a1 : at_ ≤ 9223372036854775807) (k1 : k ≤ 9223372036854775807) (h : inR n at_ k) :
    CallK Try.prog 49 [.pointer (some ⟨b, 0, none⟩), .int .i64 at_, .int .i64 k] w0 (Blk b (.cells [.slice (some ⟨g, 0, none⟩) n c].toArray 76 (0, 0)) :: Own 33 1 (.slice (some ⟨g, 0, none⟩) n c) n (ints .u32 W) :: F) (Gives w0 fun v F2 => ∃ q, v = .tuple #[.slice (some ⟨q, 0, none⟩) k.toNat k.toNat, .int .i64 0] ∧ F2 = Own 33 1 (.slice (some ⟨q, 0, none⟩) k.toNat k.toNat) k.toNat (ints .u32 ((W.drop at_.toNat).take k.toNat)) :: Blk b (.cells [.slice (some ⟨g, 0, none⟩) n c].toArray 76 (0, 0)) :: Own 33 1 (.slice (some ⟨g, 0, none⟩) n c) n (ints .u32 W) :: F) := by
  obtain ⟨h0, h1, h2, h3⟩ := (show 0 ≤ at_ ∧ 0 ≤ k ∧ at_ ≤ n ∧ k ≤ n - at_ from h)
  refine c_enter Try.func49 rfl rfl rfl ?_
  refine g_seq ?_
  refine g_region ?_
  refine l_assign rfl rfl ?_
  refine l_assign rfl rfl ?_
  refine l_nil ?_
  refine g_seq ?_
  refine g_seq ?_
  refine g_region ?_
  refine l_move rfl rfl ?_
  refine l_move rfl rfl ?_
  refine l_move rfl rfl ?_
  refine l_call rfl Try.call59 rfl (there_ok _ _ _ _ _ _ (by omega) _ _ (by omega) (by omega) (by omega) (by omega) h) ?_; rintro _ _ ⟨rfl, rfl⟩
  refine l_assign rfl rfl ?_
  refine l_nil ?_
  refine g_seq ?_
  refine g_region ?_
  refine l_move rfl rfl ?_
  refine l_neq rfl rfl rfl ?_
  refine l_nil ?_
  refine g_cond rfl ?_ ?_
  · intro hbr
    have hbr := of_decide_eq_true hbr
    (exfalso; omega)
  intro hbr
  have hbr := of_decide_eq_false hbr
  refine g_skip ?_
  refine g_seq ?_
  refine g_region ?_
  refine l_move rfl rfl ?_
  refine l_makew rfl Try.underlying29 Try.type33 rfl rfl rfl rfl (by omega) (by show (4 : Int) * _ ≤ _; omega) (by omega) ?_; intro b18
  refine l_assign rfl rfl ?_
  refine l_nil ?_
  refine g_seq ?_
  refine g_region ?_
  refine l_move rfl rfl ?_
  refine l_move rfl rfl ?_
  refine l_nilCheck rfl rfl ?_
  refine l_fieldAddr rfl fa_76_0 rfl ?_
  refine l_ld rfl Try.isAgg29 rfl rfl ?_
  refine l_move rfl rfl ?_
  refine l_slice_lo rfl Try.underlying29 Try.sizeOf33 rfl rfl (by omega) (by omega) (by omega) ?_; intro o25 ho25
  refine l_copyw 0 rfl Try.underlying29 Try.sizeOf33 rfl rfl rfl ⟨by rw [ints_length, List.length_drop]; omega, .inl ⟨_, _, _, rfl, words_from (.own (mem_getO 2 rfl)) ho25 (by omega)⟩⟩ (by simp; omega) (by rw [spl_full (by simp) (by simp; omega) (by omega)]; rfl) ?_
  refine l_nil ?_
  refine g_seq ?_
  refine g_region ?_
  refine l_move rfl rfl ?_
  refine l_assign rfl rfl ?_
  refine l_assign rfl rfl ?_
  refine l_nil ?_
  refine g_ret Try.func49 rfl (.tmp rfl (.tmp rfl .nil)) ?_
  exact Gives.mk ⟨_, rfl, rfl⟩ .refl
theorem take_bad (w0 : World) (F : List Atom) (b g n c : Nat) (W : List Int) (hW : W.length = n) (hc : n ≤ c) (hn : n ≤ 1073741824) (at_ k : Int) (a0 : -9223372036854775808 ≤ at_) (a1 : at_ ≤ 9223372036854775807) (k0 : -9223372036854775808 ≤ k) (k1 : k ≤ 9223372036854775807) (h : ¬ inR n at_ k) :
    CallK Try.prog 49 [.pointer (some ⟨b, 0, none⟩), .int .i64 at_, .int .i64 k] w0 (Blk b (.cells [.slice (some ⟨g, 0, none⟩) n c].toArray 76 (0, 0)) :: Own 33 1 (.slice (some ⟨g, 0, none⟩) n c) n (ints .u32 W) :: F) (Gives w0 fun v F2 => v = .tuple #[.slice none 0 0, .int .i64 51] ∧ F2 = Blk b (.cells [.slice (some ⟨g, 0, none⟩) n c].toArray 76 (0, 0)) :: Own 33 1 (.slice (some ⟨g, 0, none⟩) n c) n (ints .u32 W) :: F) := by
  refine c_enter Try.func49 rfl rfl rfl ?_
  refine g_seq ?_
  refine g_region ?_
  refine l_assign rfl rfl ?_
  refine l_assign rfl rfl ?_
  refine l_nil ?_
  refine g_seq ?_
  refine g_seq ?_
  refine g_region ?_
  refine l_move rfl rfl ?_
  refine l_move rfl rfl ?_
  refine l_move rfl rfl ?_
  refine l_call rfl Try.call59 rfl (there_bad _ _ _ _ _ _ (by omega) _ _ (by omega) (by omega) (by omega) (by omega) h) ?_; rintro _ _ ⟨rfl, rfl⟩
  refine l_assign rfl rfl ?_
  refine l_nil ?_
  refine g_seq ?_
  refine g_region ?_
  refine l_move rfl rfl ?_
  refine l_neq rfl rfl rfl ?_
  refine l_nil ?_
  refine g_cond rfl ?_ ?_
  · intro hbr
    have hbr := of_decide_eq_true hbr
    refine g_seq ?_
    refine g_region ?_
    refine l_move rfl rfl ?_
    refine l_assign rfl rfl ?_
    refine l_assign rfl rfl ?_
    refine l_nil ?_
    refine g_ret Try.func49 rfl (.tmp rfl (.tmp rfl .nil)) ?_
    exact Gives.mk ⟨rfl, rfl⟩ .refl
  · intro hbr
    have hbr := of_decide_eq_false hbr
    (exfalso; omega)
theorem lay_fits {at_ : Int} {c o' n q : Nat} {W : List Int} (ho : at_ < c ∧ o' = 0 + at_.toNat * 1 ∨ c ≤ at_ ∧ o' = 0) (h0 : 0 ≤ at_) (h1 : at_ ≤ n) (hW : W.length = n) (hc : n ≤ c) : o' + min q (n - at_.toNat) ≤ W.length := by omega
theorem lay_spl {at_ : Int} {c o' n q : Nat} {W Y : List Int} (ho : at_ < c ∧ o' = 0 + at_.toNat * 1 ∨ c ≤ at_ ∧ o' = 0) (h0 : 0 ≤ at_) (hq : q ≤ n - at_.toNat) (hY : Y.length = q ∧ n ≤ c) : spl o' (Y.take (min q (n - at_.toNat))) W = spl at_.toNat Y W := by
  rw [Nat.min_eq_left hq, List.take_of_length_le (by omega)]
  rcases ho with ⟨_, rfl⟩ | ⟨h, rfl⟩
  · simp
  · have : Y = [] := List.eq_nil_of_length_eq_zero (by omega)
    subst this
    simp [spl_nil]
theorem lay_ok (w0 : World) (F : List Atom) (b g n c : Nat) (W : List Int) (hW : W.length = n) (hc : n ≤ c) (hn : n ≤ 1073741824) (at_ : Int) (a1 : at_ ≤ 9223372036854775807) (b2 o2 q c2 : Nat) (Y : List Int) (hY : Y.length = q) (hq : q ≤ 1073741824) (hr : RowAt w0 F b2 o2 (ints .u32 Y)) (h : inR n at_ q) :
    CallK Try.prog 48 [.pointer (some ⟨b, 0, none⟩), .int .i64 at_, .slice (some ⟨b2, o2, none⟩) q c2] w0 (Blk b (.cells [.slice (some ⟨g, 0, none⟩) n c].toArray 76 (0, 0)) :: Own 33 1 (.slice (some ⟨g, 0, none⟩) n c) n (ints .u32 W) :: F) (Gives w0 fun v F2 => v = .int .i64 0 ∧ F2 = Blk b (.cells [.slice (some ⟨g, 0, none⟩) n c].toArray 76 (0, 0)) :: Own 33 1 (.slice (some ⟨g, 0, none⟩) n c) n (ints .u32 (spl at_.toNat Y W)) :: F) := by
  obtain ⟨h0, h1, h2, h3⟩ := (show 0 ≤ at_ ∧ (0:Int) ≤ q ∧ at_ ≤ n ∧ (q:Int) ≤ n - at_ from h)
  refine c_enter Try.func48 rfl rfl rfl ?_
  refine g_seq ?_
  refine g_region ?_
  refine l_assign rfl rfl ?_
  refine l_nil ?_
  refine g_seq ?_
  refine g_region ?_
  refine l_move rfl rfl ?_
  refine l_move rfl rfl ?_
  refine l_move rfl rfl ?_
  refine l_len rfl Try.underlying29 rfl ?_
  refine l_call rfl Try.call59 rfl (there_ok _ _ _ _ _ _ (by omega) _ _ (by omega) (by omega) (by omega) (by omega) h) ?_; rintro _ _ ⟨rfl, rfl⟩
  refine l_assign rfl rfl ?_
  refine l_nil ?_
  refine g_seq ?_
  refine g_seq ?_
  refine g_region ?_
  refine l_move rfl rfl ?_
  refine l_eql rfl rfl rfl ?_
  refine l_nil ?_
  refine g_cond rfl ?_ ?_
  · intro hbr
    have hbr := of_decide_eq_true hbr
    refine g_region ?_
    refine l_move rfl rfl ?_
    refine l_nilCheck rfl rfl ?_
    refine l_fieldAddr rfl fa_76_0 rfl ?_
    refine l_ld rfl Try.isAgg29 rfl rfl ?_
    refine l_move rfl rfl ?_
    refine l_slice_lo rfl Try.underlying29 Try.sizeOf33 rfl rfl (by omega) (by omega) (by omega) ?_; intro o20 ho20
    refine l_move rfl rfl ?_
    refine l_copyw 1 rfl Try.underlying29 Try.sizeOf33 rfl rfl rfl ⟨by rw [ints_length]; omega, .inl ⟨_, _, _, rfl, hr.there.there⟩⟩ (lay_fits ho20 (by omega) (by omega) (by omega) (by omega)) (by rw [lay_spl ho20 (by omega) (by omega) ⟨by omega, by omega⟩]; rfl) ?_
    refine l_nil ?_
    refine g_seq ?_
    refine g_region ?_
    refine l_move rfl rfl ?_
    refine l_assign rfl rfl ?_
    refine l_nil ?_
    refine g_ret Try.func48 rfl (.tmp rfl .nil) ?_
    exact Gives.mk ⟨rfl, rfl⟩ .refl
  · intro hbr
    have hbr := of_decide_eq_false hbr
    (exfalso; omega)
theorem lay_bad (w0 : World) (F : List Atom) (b g n c : Nat) (W : List Int) (hW : W.length = n) (hc : n ≤ c) (hn : n ≤ 1073741824) (at_ : Int) (a0 : -9223372036854775808 ≤ at_) (a1 : at_ ≤ 9223372036854775807) (a : Option Addr) (q c2 : Nat) (hq : q ≤ 9223372036854775807) (h : ¬ inR n at_ q) :
    CallK Try.prog 48 [.pointer (some ⟨b, 0, none⟩), .int .i64 at_, .slice a q c2] w0 (Blk b (.cells [.slice (some ⟨g, 0, none⟩) n c].toArray 76 (0, 0)) :: Own 33 1 (.slice (some ⟨g, 0, none⟩) n c) n (ints .u32 W) :: F) (Gives w0 fun v F2 => v = .int .i64 51 ∧ F2 = Blk b (.cells [.slice (some ⟨g, 0, none⟩) n c].toArray 76 (0, 0)) :: Own 33 1 (.slice (some ⟨g, 0, none⟩) n c) n (ints .u32 W) :: F) := by
  refine c_enter Try.func48 rfl rfl rfl ?_
  refine g_seq ?_
  refine g_region ?_
  refine l_assign rfl rfl ?_
  refine l_nil ?_
  refine g_seq ?_
  refine g_region ?_
  refine l_move rfl rfl ?_
  refine l_move rfl rfl ?_
  refine l_move rfl rfl ?_
  refine l_len rfl Try.underlying29 rfl ?_
  refine l_call rfl Try.call59 rfl (there_bad _ _ _ _ _ _ (by omega) _ _ (by omega) (by omega) (by omega) (by omega) h) ?_; rintro _ _ ⟨rfl, rfl⟩
  refine l_assign rfl rfl ?_
  refine l_nil ?_
  refine g_seq ?_
  refine g_seq ?_
  refine g_region ?_
  refine l_move rfl rfl ?_
  refine l_eql rfl rfl rfl ?_
  refine l_nil ?_
  refine g_cond rfl ?_ ?_
  · intro hbr
    have hbr := of_decide_eq_true hbr
    (exfalso; omega)
  intro hbr
  have hbr := of_decide_eq_false hbr
  refine g_skip ?_
  refine g_seq ?_
  refine g_region ?_
  refine l_move rfl rfl ?_
  refine l_assign rfl rfl ?_
  refine l_nil ?_
  refine g_ret Try.func48 rfl (.tmp rfl .nil) ?_
  exact Gives.mk ⟨rfl, rfl⟩ .refl
theorem words_ok (w0 : World) (F : List Atom) (b g n c : Nat) (W : List Int) (hW : W.length = n) (hc : n ≤ c) (hn : n ≤ 1073741824) :
    CallK Try.prog 21 [.pointer (some ⟨b, 0, none⟩)] w0 (Blk b (.cells [.slice (some ⟨g, 0, none⟩) n c].toArray 76 (0, 0)) :: Own 33 1 (.slice (some ⟨g, 0, none⟩) n c) n (ints .u32 W) :: F) (Gives w0 fun v F2 => ∃ q c2, v = .slice (some ⟨q, 0, none⟩) n c2 ∧ n ≤ c2 ∧ F2 = Own 33 1 (.slice (some ⟨q, 0, none⟩) n c2) n (ints .u32 W) :: Blk b (.cells [.slice (some ⟨g, 0, none⟩) n c].toArray 76 (0, 0)) :: Own 33 1 (.slice (some ⟨g, 0, none⟩) n c) n (ints .u32 W) :: F) := by
  refine c_enter Try.func21 rfl rfl rfl ?_
  refine g_seq ?_
  refine g_region ?_
  refine l_assign rfl rfl ?_
  refine l_nil ?_
  refine g_seq ?_
  refine g_seq ?_
  refine g_region ?_
  refine l_move rfl rfl ?_
  refine l_eqpn rfl Try.underlying22 rfl rfl ?_
  refine l_nil ?_
  first | refine g_cond_f rfl ?_ | refine g_cond_f (congrArg (fun b => some (Value.bool b)) (decide_eq_false hbr)) ?_
  refine g_skip ?_
  refine g_seq ?_
  refine g_region ?_
  refine l_move rfl rfl ?_
  refine l_nilCheck rfl rfl ?_
  refine l_fieldAddr rfl fa_76_0 rfl ?_
  refine l_ld rfl Try.isAgg29 rfl rfl ?_
  refine l_call rfl Try.call31 rfl (clone_some _ _ _ _ _ _ _ hW hc hn (.own (mem_getO 1 rfl))) ?_; rintro _ _ ⟨g9, c9, rfl, hc9, rfl⟩
  refine l_assign rfl rfl ?_
  refine l_nil ?_
  refine g_ret Try.func21 rfl (.tmp rfl .nil) ?_
  exact Gives.mk ⟨g9, c9, rfl, hc9, rfl⟩ .refl
theorem new_ok (w0 : World) (F : List Atom) (m : Int) (m0 : 1 ≤ m) (m1 : m ≤ 1024) :
    CallK Try.prog 13 [.int .i64 m] w0 (F) (Gives w0 fun v F2 => ∃ b g c, v = .tuple #[.pointer (some ⟨b, 0, none⟩), .int .i64 0] ∧ (m * 16).toNat ≤ c ∧ F2 = Blk b (.cells [.slice (some ⟨g, 0, none⟩) (m * 16).toNat c].toArray 76 (0, 0)) :: Own 33 1 (.slice (some ⟨g, 0, none⟩) (m * 16).toNat c) (m * 16).toNat (ints .u32 (List.replicate (m * 16).toNat 0)) :: F) := by
  refine c_enter Try.func13 rfl rfl rfl ?_
  refine g_seq ?_
  refine g_region ?_
  refine l_assign rfl rfl ?_
  refine l_assign rfl rfl ?_
  refine l_nil ?_
  refine g_seq ?_
  refine g_seq ?_
  refine g_region ?_
  refine l_move rfl rfl ?_
  refine l_lss rfl rfl rfl ?_
  refine l_move rfl rfl ?_
  refine l_split 7 rfl ?_ ?_
  · intro hbr
    have hbr := of_decide_eq_true hbr
    (exfalso; omega)
  intro hbr
  have hbr := of_decide_eq_false hbr
  refine l_guard_yes rfl rfl ?_
  refine l_move rfl rfl ?_
  refine l_guard_yes rfl rfl ?_
  refine l_gtr rfl rfl rfl ?_
  refine l_pick_f rfl rfl rfl ?_
  refine l_nil ?_
  refine g_cond rfl ?_ ?_
  · intro hbr
    have hbr := of_decide_eq_true hbr
    (exfalso; omega)
  intro hbr
  have hbr := of_decide_eq_false hbr
  refine g_skip ?_
  refine g_seq ?_
  refine g_region ?_
  refine l_move rfl rfl ?_
  first | refine l_mul rfl rfl rfl (w_i64 (by omega) (by omega)) ?_ | refine l_mulw rfl rfl rfl ?_
  refine l_makew rfl Try.underlying29 Try.type33 rfl rfl rfl rfl (by omega) (by show (4 : Int) * _ ≤ _; omega) (by omega) ?_; intro b13
  refine l_assign rfl rfl ?_
  refine l_nil ?_
  refine g_seq ?_
  refine g_region ?_
  refine l_move rfl rfl ?_
  refine l_clear 0 Try.underlying29 Try.zeroValue33 rfl rfl rfl rfl ?_
  refine l_nil ?_
  refine g_seq ?_
  refine g_region ?_
  refine l_move rfl rfl ?_
  refine l_build rfl rfl (fun w => bd_76_0 _ _ _ w) ?_
  refine l_boxs rfl rfl ?_; intro b17
  refine l_assign rfl rfl ?_
  refine l_assign rfl rfl ?_
  refine l_nil ?_
  refine g_ret Try.func13 rfl (.tmp rfl (.tmp rfl .nil)) ?_
  exact Gives.mk ⟨_, _, _, rfl, Nat.le_refl _, rfl⟩ (by rw [ints_rep]; exact .refl)
theorem new_bad (w0 : World) (F : List Atom) (m : Int) (m0 : m < 1 ∨ 1024 < m) :
    CallK Try.prog 13 [.int .i64 m] w0 (F) (Gives w0 fun v F2 => v = .tuple #[.pointer none, .int .i64 50] ∧ F2 = F) := by
  refine c_enter Try.func13 rfl rfl rfl ?_
  refine g_seq ?_
  refine g_region ?_
  refine l_assign rfl rfl ?_
  refine l_assign rfl rfl ?_
  refine l_nil ?_
  refine g_seq ?_
  refine g_seq ?_
  refine g_region ?_
  refine l_move rfl rfl ?_
  refine l_lss rfl rfl rfl ?_
  refine l_move rfl rfl ?_
  refine l_split 7 rfl ?_ ?_
  · intro hbr
    have hbr := of_decide_eq_true hbr
    refine l_guard_no rfl rfl rfl ?_
    refine l_guard_no rfl rfl rfl ?_
    refine l_pick_t rfl rfl rfl ?_
    refine l_nil ?_
    first | refine g_cond_t rfl ?_ | refine g_cond_t (congrArg (fun b => some (Value.bool b)) (decide_eq_true hbr)) ?_
    refine g_seq ?_
    refine g_region ?_
    refine l_assign rfl rfl ?_
    refine l_assign rfl rfl ?_
    refine l_nil ?_
    refine g_ret Try.func13 rfl (.tmp rfl (.tmp rfl .nil)) ?_
    exact Gives.mk ⟨rfl, rfl⟩ .refl
  intro hbr
  have hbr := of_decide_eq_false hbr
  refine l_guard_yes rfl rfl ?_
  refine l_move rfl rfl ?_
  refine l_guard_yes rfl rfl ?_
  refine l_gtr rfl rfl rfl ?_
  refine l_pick_f rfl rfl rfl ?_
  refine l_nil ?_
  refine g_cond rfl ?_ ?_
  · intro hbr
    have hbr := of_decide_eq_true hbr
    refine g_seq ?_
    refine g_region ?_
    refine l_assign rfl rfl ?_
    refine l_assign rfl rfl ?_
    refine l_nil ?_
    refine g_ret Try.func13 rfl (.tmp rfl (.tmp rfl .nil)) ?_
    exact Gives.mk ⟨rfl, rfl⟩ .refl
  · intro hbr
    have hbr := of_decide_eq_false hbr
    (exfalso; omega)
theorem of_ok (w0 : World) (F : List Atom) (b2 o2 n c2 : Nat) (W : List Int) (hW : W.length = n) (hc : n ≤ c2) (hr : RowAt w0 F b2 o2 (ints .u32 W)) (h1 : n ≤ 16384) (h2 : 0 < n) (h3 : n % 16 = 0) :
    CallK Try.prog 18 [.slice (some ⟨b2, o2, none⟩) n c2] w0 (F) (Gives w0 fun v F2 => ∃ b g c, v = .tuple #[.pointer (some ⟨b, 0, none⟩), .int .i64 0] ∧ n ≤ c ∧ F2 = Blk b (.cells [.slice (some ⟨g, 0, none⟩) n c].toArray 76 (0, 0)) :: Own 33 1 (.slice (some ⟨g, 0, none⟩) n c) n (ints .u32 W) :: F) := by
  refine c_enter Try.func18 rfl rfl rfl ?_
  refine g_seq ?_
  refine g_region ?_
  refine l_assign rfl rfl ?_
  refine l_assign rfl rfl ?_
  refine l_nil ?_
  refine g_seq ?_
  refine g_seq ?_
  refine g_region ?_
  refine l_move rfl rfl ?_
  refine l_len rfl Try.underlying29 rfl ?_
  refine l_gtr rfl rfl rfl ?_
  refine l_nil ?_
  refine g_cond rfl ?_ ?_
  · intro hbr
    have hbr := of_decide_eq_true hbr
    (exfalso; omega)
  intro hbr
  have hbr := of_decide_eq_false hbr
  refine g_skip ?_
  refine g_seq ?_
  refine g_seq ?_
  refine g_region ?_
  refine l_move rfl rfl ?_
  refine l_len rfl Try.underlying29 rfl ?_
  refine l_eql rfl rfl rfl ?_
  refine l_move rfl rfl ?_
  refine l_split 10 rfl ?_ ?_
  · intro hbr
    have hbr := of_decide_eq_true hbr
    (exfalso; omega)
  intro hbr
  have hbr := of_decide_eq_false hbr
  refine l_guard_yes rfl rfl ?_
  refine l_move rfl rfl ?_
  refine l_guard_yes rfl rfl ?_
  refine l_len rfl Try.underlying29 rfl ?_
  refine l_guard_yes rfl rfl ?_
  refine l_rem rfl rfl rfl (by omega) (by omega) (w_i64 (by omega) (by omega)) ?_
  refine l_guard_yes rfl rfl ?_
  refine l_neq rfl rfl rfl ?_
  refine l_pick_f rfl rfl rfl ?_
  refine l_nil ?_
  refine g_cond rfl ?_ ?_
  · intro hbr
    have hbr := of_decide_eq_true hbr
    (exfalso; omega)
  intro hbr
  have hbr := of_decide_eq_false hbr
  refine g_skip ?_
  refine g_seq ?_
  refine g_region ?_
  refine l_move rfl rfl ?_
  refine l_call rfl Try.call31 rfl (clone_some _ _ _ _ _ _ _ hW hc (by omega) hr) ?_; rintro _ _ ⟨g9, c9, rfl, hc9, rfl⟩
  refine l_build rfl rfl (fun w => bd_76_0 _ _ _ w) ?_
  refine l_boxs rfl rfl ?_; intro b19
  refine l_assign rfl rfl ?_
  refine l_assign rfl rfl ?_
  refine l_nil ?_
  refine g_ret Try.func18 rfl (.tmp rfl (.tmp rfl .nil)) ?_
  exact Gives.mk ⟨_, g9, c9, rfl, hc9, rfl⟩ .refl
theorem of_long (w0 : World) (F : List Atom) (a : Option Addr) (n c2 : Nat) (hn : n ≤ 9223372036854775807) (h1 : 16384 < n) :
    CallK Try.prog 18 [.slice a n c2] w0 (F) (Gives w0 fun v F2 => v = .tuple #[.pointer none, .int .i64 2] ∧ F2 = F) := by
  refine c_enter Try.func18 rfl rfl rfl ?_
  refine g_seq ?_
  refine g_region ?_
  refine l_assign rfl rfl ?_
  refine l_assign rfl rfl ?_
  refine l_nil ?_
  refine g_seq ?_
  refine g_seq ?_
  refine g_region ?_
  refine l_move rfl rfl ?_
  refine l_len rfl Try.underlying29 rfl ?_
  refine l_gtr rfl rfl rfl ?_
  refine l_nil ?_
  refine g_cond rfl ?_ ?_
  · intro hbr
    have hbr := of_decide_eq_true hbr
    refine g_seq ?_
    refine g_region ?_
    refine l_assign rfl rfl ?_
    refine l_assign rfl rfl ?_
    refine l_nil ?_
    refine g_ret Try.func18 rfl (.tmp rfl (.tmp rfl .nil)) ?_
    exact Gives.mk ⟨rfl, rfl⟩ .refl
  · intro hbr
    have hbr := of_decide_eq_false hbr
    (exfalso; omega)
theorem of_bad (w0 : World) (F : List Atom) (a : Option Addr) (n c2 : Nat) (hn : n ≤ 9223372036854775807) (h1 : n ≤ 16384) (h2 : n = 0 ∨ n % 16 ≠ 0) :
    CallK Try.prog 18 [.slice a n c2] w0 (F) (Gives w0 fun v F2 => v = .tuple #[.pointer none, .int .i64 50] ∧ F2 = F) := by
  refine c_enter Try.func18 rfl rfl rfl ?_
  refine g_seq ?_
  refine g_region ?_
  refine l_assign rfl rfl ?_
  refine l_assign rfl rfl ?_
  refine l_nil ?_
  refine g_seq ?_
  refine g_seq ?_
  refine g_region ?_
  refine l_move rfl rfl ?_
  refine l_len rfl Try.underlying29 rfl ?_
  refine l_gtr rfl rfl rfl ?_
  refine l_nil ?_
  refine g_cond rfl ?_ ?_
  · intro hbr
    have hbr := of_decide_eq_true hbr
    (exfalso; omega)
  intro hbr
  have hbr := of_decide_eq_false hbr
  refine g_skip ?_
  refine g_seq ?_
  refine g_seq ?_
  refine g_region ?_
  refine l_move rfl rfl ?_
  refine l_len rfl Try.underlying29 rfl ?_
  refine l_eql rfl rfl rfl ?_
  refine l_move rfl rfl ?_
  refine l_split 10 rfl ?_ ?_
  · intro hbr
    have hbr := of_decide_eq_true hbr
    refine l_guard_no rfl rfl rfl ?_
    refine l_guard_no rfl rfl rfl ?_
    refine l_guard_no rfl rfl rfl ?_
    refine l_guard_no rfl rfl rfl ?_
    refine l_pick_t rfl rfl rfl ?_
    refine l_nil ?_
    first | refine g_cond_t rfl ?_ | refine g_cond_t (congrArg (fun b => some (Value.bool b)) (decide_eq_true hbr)) ?_
    refine g_seq ?_
    refine g_region ?_
    refine l_assign rfl rfl ?_
    refine l_assign rfl rfl ?_
    refine l_nil ?_
    refine g_ret Try.func18 rfl (.tmp rfl (.tmp rfl .nil)) ?_
    exact Gives.mk ⟨rfl, rfl⟩ .refl
  intro hbr
  have hbr := of_decide_eq_false hbr
  refine l_guard_yes rfl rfl ?_
  refine l_move rfl rfl ?_
  refine l_guard_yes rfl rfl ?_
  refine l_len rfl Try.underlying29 rfl ?_
  refine l_guard_yes rfl rfl ?_
  refine l_rem rfl rfl rfl (by omega) (by omega) (w_i64 (by omega) (by omega)) ?_
  refine l_guard_yes rfl rfl ?_
  refine l_neq rfl rfl rfl ?_
  refine l_pick_f rfl rfl rfl ?_
  refine l_nil ?_
  refine g_cond rfl ?_ ?_
  · intro hbr
    have hbr := of_decide_eq_true hbr
    refine g_seq ?_
    refine g_region ?_
    refine l_assign rfl rfl ?_
    refine l_assign rfl rfl ?_
    refine l_nil ?_
    refine g_ret Try.func18 rfl (.tmp rfl (.tmp rfl .nil)) ?_
    exact Gives.mk ⟨rfl, rfl⟩ .refl
  · intro hbr
    have hbr := of_decide_eq_false hbr
    (exfalso; omega)
end Go.Proofs.Ytecibldbnekgbaa.Fw
