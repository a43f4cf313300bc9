import Derived.Test.YtecibldbnekgbaaPX
import Derived.Test.YtecibldbnekgbaaQCase
import Derived.Test.YtecibldbnekgbaaFwS
namespace Go.Proofs.Ytecibldbnekgbaa.Fw
open Go Go.Proofs
set_option linter.unusedVariables false
set_option linter.unusedSimpArgs false
set_option maxRecDepth 10000

theorem bdb {wd dp : Int} (h : ¬ QOk wd dp) : ¬ QOk wd dp := h
theorem rstgd_in (w0 : World) (F : List Atom) (wd dp : Nat) (w1 : 1 ≤ wd) (w2 : wd ≤ 16) (d1 : 1 ≤ dp) (d2 : dp ≤ 8) (g n c : Nat) (W : List Int) (hW : W.length = n) (hc : n ≤ c) (hn : n ≤ 1073741824) (hU : W32s W) (at_ : Int) (hi : inR n at_ ((1 + dp * (1 + wd) : Nat) : Int)) :
    CallK Try.prog 38 [.slice (some ⟨g, 0, none⟩) n c, .int .i64 at_, .int .i64 (wd : Int), .int .i64 (dp : Int)] w0 (Own 33 1 (.slice (some ⟨g, 0, none⟩) n c) n (ints .u32 W) :: F) (Gives w0 fun v F2 => ∃ k e, v = .tuple #[.int .i64 k, .int .i64 e] ∧ F2 = Own 33 1 (.slice (some ⟨g, 0, none⟩) n c) n (ints .u32 W) :: F ∧ StgdQ W at_ wd dp k e) := by
  refine c_enter Try.func38 rfl rfl rfl ?_
  refine g_seq ?_
  refine g_region ?_
  refine l_assign rfl rfl ?_
  refine l_assign rfl rfl ?_
  refine l_nil ?_
  refine g_seq ?_
  refine g_seq ?_
  refine g_region ?_
  refine l_move rfl rfl ?_
  refine l_move rfl rfl ?_
  refine l_call rfl Try.call52 rfl (bounds_ok _ _ wd dp w1 w2 d1 d2) ?_; rintro _ F9 ⟨rfl, hF9⟩; rw [hF9]; clear hF9 F9
  refine l_not rfl rfl ?_
  refine l_nil ?_
  first | refine g_cond_f rfl ?_ | refine g_cond_f (congrArg (fun b => some (Value.bool b)) (decide_eq_false hbr)) ?_
  refine g_skip ?_
  refine g_seq ?_
  refine g_region ?_
  refine l_move rfl rfl ?_
  refine l_move rfl rfl ?_
  refine l_move rfl rfl ?_
  refine l_move rfl rfl ?_
  refine l_call rfl Try.call53 rfl (rstage_in _ _ wd dp w1 w2 d1 d2 g 0 n c W ⟨hW, .own (by first | exact mem_getO 0 rfl | exact mem_getO 1 rfl | exact mem_getO 2 rfl | exact mem_getO 3 rfl), hU⟩ hn at_ hi) ?_; rintro _ _ ⟨fx, ao, co, ms, Ts, ls, e, rfl, rfl, hMs, hao, hR⟩
  have hml := hMs.1
  refine l_move rfl rfl ?_
  refine l_extract rfl rfl rfl ?_
  refine l_extract rfl rfl rfl ?_
  refine l_allocs rfl Try.zeroValue97 ?_; intro b10
  refine l_sts Try.sizeOf97 rfl rfl rfl rfl rfl ?_
  refine l_assign rfl rfl ?_
  refine l_nil ?_
  refine g_seq ?_
  refine g_region ?_
  refine l_fieldAddr rfl fa_97_1 rfl ?_
  refine l_ld rfl Try.isAgg40 rfl rfl ?_
  refine l_len rfl Try.underlying40 rfl ?_
  refine l_move rfl rfl ?_
  refine l_assign rfl rfl ?_
  refine l_assign rfl rfl ?_
  refine l_nil ?_
  refine g_ret Try.func38 rfl (.tmp rfl (.tmp rfl .nil)) ?_
  exact Gives.mki ⟨_, e, rfl, rfl, by rcases hR with ⟨h1, h2, h3⟩ | ⟨h1, h2⟩; (exact .inl ⟨h1, by rw [hml, h2]; rfl, h3⟩); (exact .inr ⟨h1, Ts, h2, by rw [hml]⟩)⟩
theorem rstgd_out (w0 : World) (F : List Atom) (wd dp : Nat) (w1 : 1 ≤ wd) (w2 : wd ≤ 16) (d1 : 1 ≤ dp) (d2 : dp ≤ 8) (g n c : Nat) (W : List Int) (hW : W.length = n) (hc : n ≤ c) (hn : n ≤ 1073741824) (hU : W32s W) (at_ : Int) (at_0 : -9223372036854775808 ≤ at_) (at_1 : at_ ≤ 9223372036854775807) (hi : ¬ inR n at_ ((1 + dp * (1 + wd) : Nat) : Int)) :
    CallK Try.prog 38 [.slice (some ⟨g, 0, none⟩) n c, .int .i64 at_, .int .i64 (wd : Int), .int .i64 (dp : Int)] w0 (Own 33 1 (.slice (some ⟨g, 0, none⟩) n c) n (ints .u32 W) :: F) (Gives w0 fun v F2 => v = .tuple #[.int .i64 0, .int .i64 51] ∧ F2 = Own 33 1 (.slice (some ⟨g, 0, none⟩) n c) n (ints .u32 W) :: F) := by
  refine c_enter Try.func38 rfl rfl rfl ?_
  refine g_seq ?_
  refine g_region ?_
  refine l_assign rfl rfl ?_
  refine l_assign rfl rfl ?_
  refine l_nil ?_
  refine g_seq ?_
  refine g_seq ?_
  refine g_region ?_
  refine l_move rfl rfl ?_
  refine l_move rfl rfl ?_
  refine l_call rfl Try.call52 rfl (bounds_ok _ _ wd dp w1 w2 d1 d2) ?_; rintro _ F9 ⟨rfl, hF9⟩; rw [hF9]; clear hF9 F9
  refine l_not rfl rfl ?_
  refine l_nil ?_
  first | refine g_cond_f rfl ?_ | refine g_cond_f (congrArg (fun b => some (Value.bool b)) (decide_eq_false hbr)) ?_
  refine g_skip ?_
  refine g_seq ?_
  refine g_region ?_
  refine l_move rfl rfl ?_
  refine l_move rfl rfl ?_
  refine l_move rfl rfl ?_
  refine l_move rfl rfl ?_
  refine l_call rfl Try.call53 rfl (rstage_out _ _ wd dp w1 w2 d1 d2 g 0 n c W ⟨hW, .own (by first | exact mem_getO 0 rfl | exact mem_getO 1 rfl | exact mem_getO 2 rfl | exact mem_getO 3 rfl), hU⟩ hn at_ at_0 at_1 hi) ?_; rintro _ F9 ⟨rfl, hF9⟩; rw [hF9]; clear hF9 F9
  refine l_move rfl rfl ?_
  refine l_extract rfl rfl rfl ?_
  refine l_extract rfl rfl rfl ?_
  refine l_allocs rfl Try.zeroValue97 ?_; intro b10
  refine l_sts Try.sizeOf97 rfl rfl rfl rfl rfl ?_
  refine l_assign rfl rfl ?_
  refine l_nil ?_
  refine g_seq ?_
  refine g_region ?_
  refine l_fieldAddr rfl fa_97_1 rfl ?_
  refine l_ld rfl Try.isAgg40 rfl rfl ?_
  refine l_len rfl Try.underlying40 rfl ?_
  refine l_move rfl rfl ?_
  refine l_assign rfl rfl ?_
  refine l_assign rfl rfl ?_
  refine l_nil ?_
  refine g_ret Try.func38 rfl (.tmp rfl (.tmp rfl .nil)) ?_
  exact Gives.mki ⟨rfl, rfl⟩
theorem rstgd_bad (w0 : World) (F : List Atom) (g n c : Nat) (wd dp at_ : Int) (hq : ¬ QOk wd dp) :
    CallK Try.prog 38 [.slice (some ⟨g, 0, none⟩) n c, .int .i64 at_, .int .i64 wd, .int .i64 dp] w0 (F) (Gives w0 fun v F2 => v = .tuple #[.int .i64 0, .int .i64 1] ∧ F2 = F) := by
  refine c_enter Try.func38 rfl rfl rfl ?_
  refine g_seq ?_
  refine g_region ?_
  refine l_assign rfl rfl ?_
  refine l_assign rfl rfl ?_
  refine l_nil ?_
  refine g_seq ?_
  refine g_seq ?_
  refine g_region ?_
  refine l_move rfl rfl ?_
  refine l_move rfl rfl ?_
  refine l_call rfl Try.call52 rfl (bounds_bad _ _ wd dp hq) ?_; rintro _ F9 ⟨rfl, hF9⟩; rw [hF9]; clear hF9 F9
  refine l_not rfl rfl ?_
  refine l_nil ?_
  first | refine g_cond_t rfl ?_ | refine g_cond_t (congrArg (fun b => some (Value.bool b)) (decide_eq_true hbr)) ?_
  refine g_seq ?_
  refine g_region ?_
  refine l_assign rfl rfl ?_
  refine l_assign rfl rfl ?_
  refine l_nil ?_
  refine g_ret Try.func38 rfl (.tmp rfl (.tmp rfl .nil)) ?_
  exact Gives.mki ⟨rfl, rfl⟩
theorem rcount_in (w0 : World) (F : List Atom) (wd dp : Nat) (w1 : 1 ≤ wd) (w2 : wd ≤ 16) (d1 : 1 ≤ dp) (d2 : dp ≤ 8) (g n c : Nat) (W : List Int) (hW : W.length = n) (hc : n ≤ c) (hn : n ≤ 1073741824) (hU : W32s W) (at_ : Int) (hi : inR n at_ ((3 + dp * (1 + wd) : Nat) : Int)) :
    CallK Try.prog 45 [.slice (some ⟨g, 0, none⟩) n c, .int .i64 at_, .int .i64 (wd : Int), .int .i64 (dp : Int)] w0 (Own 33 1 (.slice (some ⟨g, 0, none⟩) n c) n (ints .u32 W) :: F) (Gives w0 fun v F2 => ∃ k ls e, v = .tuple #[.int .i64 k, .int .u32 ls, .int .i64 e] ∧ F2 = Own 33 1 (.slice (some ⟨g, 0, none⟩) n c) n (ints .u32 W) :: F ∧ CntQ W at_ wd dp k ls e) := by
  refine c_enter Try.func45 rfl rfl rfl ?_
  refine g_seq ?_
  refine g_region ?_
  refine l_assign rfl rfl ?_
  refine l_assign rfl rfl ?_
  refine l_assign rfl rfl ?_
  refine l_nil ?_
  refine g_seq ?_
  refine g_seq ?_
  refine g_region ?_
  refine l_move rfl rfl ?_
  refine l_move rfl rfl ?_
  refine l_call rfl Try.call52 rfl (bounds_ok _ _ wd dp w1 w2 d1 d2) ?_; rintro _ F9 ⟨rfl, hF9⟩; rw [hF9]; clear hF9 F9
  refine l_not rfl rfl ?_
  refine l_nil ?_
  first | refine g_cond_f rfl ?_ | refine g_cond_f (congrArg (fun b => some (Value.bool b)) (decide_eq_false hbr)) ?_
  refine g_skip ?_
  refine g_seq ?_
  refine g_region ?_
  refine l_move rfl rfl ?_
  refine l_move rfl rfl ?_
  refine l_move rfl rfl ?_
  refine l_move rfl rfl ?_
  refine l_call rfl Try.call57 rfl (rport_in _ _ wd dp w1 w2 d1 d2 g 0 n c W ⟨hW, .own (by first | exact mem_getO 0 rfl | exact mem_getO 1 rfl | exact mem_getO 2 rfl | exact mem_getO 3 rfl), hU⟩ hn at_ hi) ?_; rintro _ _ ⟨fx, ao, co, ms, Ts, ls, e, rfl, rfl, hMs, hao, hR⟩
  have hml := hMs.1
  refine l_move rfl rfl ?_
  refine l_extract rfl rfl rfl ?_
  refine l_extract rfl rfl rfl ?_
  refine l_allocs rfl Try.zeroValue97 ?_; intro b11
  refine l_sts Try.sizeOf97 rfl rfl rfl rfl rfl ?_
  refine l_assign rfl rfl ?_
  refine l_nil ?_
  refine g_seq ?_
  refine gp_start mo (by kernel_rfl) (by kernel_rfl) ?_
  refine gp_quiet 0 rfl rfl rfl rfl rfl rfl (q_fieldAddr fa_97_1 rfl) ?_
  refine gp_quiet 1 rfl rfl rfl rfl rfl rfl (q_ld Try.isAgg40 rfl rfl) ?_
  refine gp_quiet 2 rfl rfl rfl rfl rfl rfl (q_len Try.underlying40 rfl) ?_
  refine gp_quiet 3 rfl rfl rfl rfl rfl rfl (q_fieldAddr fa_97_2 rfl) ?_
  first | refine gp_quiet 4 rfl rfl rfl rfl rfl rfl (q_ld Try.isAgg33 rfl rfl) ?_ | refine gp_quiet 4 rfl rfl rfl rfl rfl rfl (q_ldw Try.isAgg33 rfl (by omega)) ?_
  refine gp_quiet 5 rfl rfl rfl rfl rfl rfl (q_move rfl) ?_
  refine gp_quiet 6 rfl rfl rfl rfl rfl rfl (q_assign rfl) ?_
  refine gp_quiet 7 rfl rfl rfl rfl rfl rfl (q_assign rfl) ?_
  refine gp_quiet 8 rfl rfl rfl rfl rfl rfl (q_assign rfl) ?_
  refine gp_end rfl rfl ?_
  refine g_ret Try.func45 rfl (.tmp rfl (.tmp rfl (.tmp rfl .nil))) ?_
  exact Gives.mki ⟨_, ls, e, rfl, rfl, by rcases hR with ⟨h1, h2, _, h4, h5⟩ | ⟨h1, h2, _, h4⟩; (exact .inl ⟨h1, by rw [hml, h2]; rfl, h4, h5⟩); (exact .inr ⟨h1, Ts, h2, by rw [hml], h4⟩)⟩
theorem rcount_out (w0 : World) (F : List Atom) (wd dp : Nat) (w1 : 1 ≤ wd) (w2 : wd ≤ 16) (d1 : 1 ≤ dp) (d2 : dp ≤ 8) (g n c : Nat) (W : List Int) (hW : W.length = n) (hc : n ≤ c) (hn : n ≤ 1073741824) (hU : W32s W) (at_ : Int) (at_0 : -9223372036854775808 ≤ at_) (at_1 : at_ ≤ 9223372036854775807) (hi : ¬ inR n at_ ((3 + dp * (1 + wd) : Nat) : Int)) :
    CallK Try.prog 45 [.slice (some ⟨g, 0, none⟩) n c, .int .i64 at_, .int .i64 (wd : Int), .int .i64 (dp : Int)] w0 (Own 33 1 (.slice (some ⟨g, 0, none⟩) n c) n (ints .u32 W) :: F) (Gives w0 fun v F2 => v = .tuple #[.int .i64 0, .int .u32 0, .int .i64 51] ∧ F2 = Own 33 1 (.slice (some ⟨g, 0, none⟩) n c) n (ints .u32 W) :: F) := by
  refine c_enter Try.func45 rfl rfl rfl ?_
  refine g_seq ?_
  refine g_region ?_
  refine l_assign rfl rfl ?_
  refine l_assign rfl rfl ?_
  refine l_assign rfl rfl ?_
  refine l_nil ?_
  refine g_seq ?_
  refine g_seq ?_
  refine g_region ?_
  refine l_move rfl rfl ?_
  refine l_move rfl rfl ?_
  refine l_call rfl Try.call52 rfl (bounds_ok _ _ wd dp w1 w2 d1 d2) ?_; rintro _ F9 ⟨rfl, hF9⟩; rw [hF9]; clear hF9 F9
  refine l_not rfl rfl ?_
  refine l_nil ?_
  first | refine g_cond_f rfl ?_ | refine g_cond_f (congrArg (fun b => some (Value.bool b)) (decide_eq_false hbr)) ?_
  refine g_skip ?_
  refine g_seq ?_
  refine g_region ?_
  refine l_move rfl rfl ?_
  refine l_move rfl rfl ?_
  refine l_move rfl rfl ?_
  refine l_move rfl rfl ?_
  refine l_call rfl Try.call57 rfl (rport_out _ _ wd dp w1 w2 d1 d2 g 0 n c W ⟨hW, .own (by first | exact mem_getO 0 rfl | exact mem_getO 1 rfl | exact mem_getO 2 rfl | exact mem_getO 3 rfl), hU⟩ hn at_ at_0 at_1 hi) ?_; rintro _ F9 ⟨rfl, hF9⟩; rw [hF9]; clear hF9 F9
  refine l_move rfl rfl ?_
  refine l_extract rfl rfl rfl ?_
  refine l_extract rfl rfl rfl ?_
  refine l_allocs rfl Try.zeroValue97 ?_; intro b11
  refine l_sts Try.sizeOf97 rfl rfl rfl rfl rfl ?_
  refine l_assign rfl rfl ?_
  refine l_nil ?_
  refine g_seq ?_
  refine gp_start mo (by kernel_rfl) (by kernel_rfl) ?_
  refine gp_quiet 0 rfl rfl rfl rfl rfl rfl (q_fieldAddr fa_97_1 rfl) ?_
  refine gp_quiet 1 rfl rfl rfl rfl rfl rfl (q_ld Try.isAgg40 rfl rfl) ?_
  refine gp_quiet 2 rfl rfl rfl rfl rfl rfl (q_len Try.underlying40 rfl) ?_
  refine gp_quiet 3 rfl rfl rfl rfl rfl rfl (q_fieldAddr fa_97_2 rfl) ?_
  first | refine gp_quiet 4 rfl rfl rfl rfl rfl rfl (q_ld Try.isAgg33 rfl rfl) ?_ | refine gp_quiet 4 rfl rfl rfl rfl rfl rfl (q_ldw Try.isAgg33 rfl (by omega)) ?_
  refine gp_quiet 5 rfl rfl rfl rfl rfl rfl (q_move rfl) ?_
  refine gp_quiet 6 rfl rfl rfl rfl rfl rfl (q_assign rfl) ?_
  refine gp_quiet 7 rfl rfl rfl rfl rfl rfl (q_assign rfl) ?_
  refine gp_quiet 8 rfl rfl rfl rfl rfl rfl (q_assign rfl) ?_
  refine gp_end rfl rfl ?_
  refine g_ret Try.func45 rfl (.tmp rfl (.tmp rfl (.tmp rfl .nil))) ?_
  exact Gives.mki ⟨rfl, rfl⟩
theorem rcount_bad (w0 : World) (F : List Atom) (g n c : Nat) (wd dp at_ : Int) (hq : ¬ QOk wd dp) :
    CallK Try.prog 45 [.slice (some ⟨g, 0, none⟩) n c, .int .i64 at_, .int .i64 wd, .int .i64 dp] w0 (F) (Gives w0 fun v F2 => v = .tuple #[.int .i64 0, .int .u32 0, .int .i64 1] ∧ F2 = F) := by
  refine c_enter Try.func45 rfl rfl rfl ?_
  refine g_seq ?_
  refine g_region ?_
  refine l_assign rfl rfl ?_
  refine l_assign rfl rfl ?_
  refine l_assign rfl rfl ?_
  refine l_nil ?_
  refine g_seq ?_
  refine g_seq ?_
  refine g_region ?_
  refine l_move rfl rfl ?_
  refine l_move rfl rfl ?_
  refine l_call rfl Try.call52 rfl (bounds_bad _ _ wd dp hq) ?_; rintro _ F9 ⟨rfl, hF9⟩; rw [hF9]; clear hF9 F9
  refine l_not rfl rfl ?_
  refine l_nil ?_
  first | refine g_cond_t rfl ?_ | refine g_cond_t (congrArg (fun b => some (Value.bool b)) (decide_eq_true hbr)) ?_
  refine g_seq ?_
  refine g_region ?_
  refine l_assign rfl rfl ?_
  refine l_assign rfl rfl ?_
  refine l_assign rfl rfl ?_
  refine l_nil ?_
  refine g_ret Try.func45 rfl (.tmp rfl (.tmp rfl (.tmp rfl .nil))) ?_
  exact Gives.mki ⟨rfl, rfl⟩
set_option maxHeartbeats 2000000 in
theorem rlook_in (w0 : World) (F : List Atom) (wd dp : Nat) (w1 : 1 ≤ wd) (w2 : wd ≤ 16) (d1 : 1 ≤ dp) (d2 : dp ≤ 8) (g n c : Nat) (W : List Int) (hW : W.length = n) (hc : n ≤ c) (hn : n ≤ 1073741824) (hU : W32s W) (at_ : Int) (hi : inR n at_ ((3 + dp * (1 + wd) : Nat) : Int)) :
    CallK Try.prog 42 [.slice (some ⟨g, 0, none⟩) n c, .int .i64 at_, .int .i64 (wd : Int), .int .i64 (dp : Int)] w0 (Own 33 1 (.slice (some ⟨g, 0, none⟩) n c) n (ints .u32 W) :: F) (Gives w0 fun v F2 => ∃ a q c2 T th e, v = .tuple #[.slice a q c2, .bool th, .int .i64 e] ∧ F2 = Own 33 1 (.slice a q c2) q (ints .u32 T) :: Own 33 1 (.slice (some ⟨g, 0, none⟩) n c) n (ints .u32 W) :: F ∧ T.length = q ∧ (q = 0 ∨ ∃ g, a = some ⟨g, 0, none⟩) ∧ LookQ W at_ wd dp T th e) := by
  refine c_enter Try.func42 rfl rfl rfl ?_
  refine g_seq ?_
  refine g_region ?_
  refine l_assign rfl rfl ?_
  refine l_assign rfl rfl ?_
  refine l_assign rfl rfl ?_
  refine l_nil ?_
  refine g_seq ?_
  refine g_seq ?_
  refine g_region ?_
  refine l_move rfl rfl ?_
  refine l_move rfl rfl ?_
  refine l_call rfl Try.call52 rfl (bounds_ok _ _ wd dp w1 w2 d1 d2) ?_; rintro _ F9 ⟨rfl, hF9⟩; rw [hF9]; clear hF9 F9
  refine l_not rfl rfl ?_
  refine l_nil ?_
  first | refine g_cond_f rfl ?_ | refine g_cond_f (congrArg (fun b => some (Value.bool b)) (decide_eq_false hbr)) ?_
  refine g_skip ?_
  refine g_seq ?_
  refine g_region ?_
  refine l_move rfl rfl ?_
  refine l_move rfl rfl ?_
  refine l_move rfl rfl ?_
  refine l_move rfl rfl ?_
  refine l_call rfl Try.call57 rfl (rport_in _ _ wd dp w1 w2 d1 d2 g 0 n c W ⟨hW, .own (by first | exact mem_getO 0 rfl | exact mem_getO 1 rfl | exact mem_getO 2 rfl | exact mem_getO 3 rfl), hU⟩ hn at_ hi) ?_; rintro _ _ ⟨fx, ao, co, ms, Ts, ls, e, rfl, rfl, hMs, hao, hR⟩
  have hml := hMs.1
  refine l_move rfl rfl ?_
  refine l_extract rfl rfl rfl ?_
  refine l_extract rfl rfl rfl ?_
  refine l_allocs rfl Try.zeroValue97 ?_; intro b11
  refine l_sts Try.sizeOf97 rfl rfl rfl rfl rfl ?_
  refine l_assign rfl rfl ?_
  refine l_nil ?_
  refine g_seq ?_
  refine g_seq ?_
  refine g_region ?_
  refine l_move rfl rfl ?_
  refine l_neq rfl rfl rfl ?_
  refine l_move rfl rfl ?_
  refine l_split 27 rfl ?_ ?_
  · intro hbr
    have hbr := of_decide_eq_true hbr
    refine l_guard_no rfl rfl rfl ?_
    refine l_guard_no rfl rfl rfl ?_
    refine l_guard_no rfl rfl rfl ?_
    refine l_guard_no rfl rfl rfl ?_
    refine l_pick_t rfl rfl rfl ?_
    refine l_nil ?_
    first | refine g_cond_t rfl ?_ | refine g_cond_t (congrArg (fun b => some (Value.bool b)) (decide_eq_true hbr)) ?_
    refine g_seq ?_
    refine g_region ?_
    refine l_move rfl rfl ?_
    refine l_assign rfl rfl ?_
    refine l_assign rfl rfl ?_
    refine l_assign rfl rfl ?_
    refine l_nil ?_
    refine g_wnil 33 .u32 ?_
    refine g_ret Try.func42 rfl (.tmp rfl (.tmp rfl (.tmp rfl .nil))) ?_
    (first | exact Gives.mki ⟨(lat ms 0).a, (lat ms 0).n, (lat ms 0).c, tat Ts 0, true, 0, rfl, rfl, hM0.1, hM0.2, .inr ⟨rfl, rfl, Ts, hR, by omega, rfl⟩⟩ | exact Gives.mki ⟨none, 0, 0, [], false, e, rfl, rfl, rfl, .inl rfl, .inl ⟨rfl, rfl, by rcases hR with ⟨h1, _, _, _, h5⟩ | ⟨h1, h2, _⟩; (exact .inl ⟨h1, h5⟩); (exact .inr ⟨h1, by have h9 : Ts = [] := List.length_eq_zero_iff.1 (by omega); rw [h9] at h2; exact h2⟩)⟩⟩)
  intro hbr
  have hbr := of_decide_eq_false hbr
  refine l_guard_yes rfl rfl ?_
  refine l_fieldAddr rfl fa_97_1 rfl ?_
  refine l_guard_yes rfl rfl ?_
  refine l_ld rfl Try.isAgg40 rfl rfl ?_
  refine l_guard_yes rfl rfl ?_
  refine l_len rfl Try.underlying40 rfl ?_
  refine l_guard_yes rfl rfl ?_
  refine l_eql rfl rfl rfl ?_
  refine l_pick_f rfl rfl rfl ?_
  refine l_nil ?_
  refine g_cond rfl ?_ ?_
  · intro hbr
    have hbr := of_decide_eq_true hbr
    refine g_seq ?_
    refine g_region ?_
    refine l_move rfl rfl ?_
    refine l_assign rfl rfl ?_
    refine l_assign rfl rfl ?_
    refine l_assign rfl rfl ?_
    refine l_nil ?_
    refine g_wnil 33 .u32 ?_
    refine g_ret Try.func42 rfl (.tmp rfl (.tmp rfl (.tmp rfl .nil))) ?_
    (first | exact Gives.mki ⟨(lat ms 0).a, (lat ms 0).n, (lat ms 0).c, tat Ts 0, true, 0, rfl, rfl, hM0.1, hM0.2, .inr ⟨rfl, rfl, Ts, hR, by omega, rfl⟩⟩ | exact Gives.mki ⟨none, 0, 0, [], false, e, rfl, rfl, rfl, .inl rfl, .inl ⟨rfl, rfl, by rcases hR with ⟨h1, _, _, _, h5⟩ | ⟨h1, h2, _⟩; (exact .inl ⟨h1, h5⟩); (exact .inr ⟨h1, by have h9 : Ts = [] := List.length_eq_zero_iff.1 (by omega); rw [h9] at h2; exact h2⟩)⟩⟩)
  intro hbr
  have hbr := of_decide_eq_false hbr
  refine g_skip ?_
  refine g_seq ?_
  refine g_region ?_
  have hR0 : e = 0 ∧ PrtR W at_ wd dp Ts true ∧ fx = W.getD at_.toNat 0 ∧ ls = W.getD (at_.toNat + 2) 0 := by rcases hR with ⟨h, _⟩ | h; omega; exact h
  clear hR
  obtain ⟨rfl, hR, hfi, hls⟩ := hR0
  obtain ⟨gr, rfl⟩ := hao.resolve_left (by omega)
  have hM0 := hMs.2 0 (by omega)
  refine l_fieldAddr rfl fa_97_1 rfl ?_
  refine l_ld rfl Try.isAgg40 rfl rfl ?_
  refine l_ixs rfl Try.underlying40 Try.sizeOf29 rfl rfl (by omega) (by omega) ?_
  refine l_loadc (v := .slice (lat ms 0).a (lat ms 0).n (lat ms 0).c) rfl Try.isAgg29 rfl (own_cell (i := 0) (lat_get (by omega))) ?_
  refine gl_heap (F' := Own 33 1 (.slice (lat ms 0).a (lat ms 0).n (lat ms 0).c) (lat ms 0).n (ints .u32 (tat Ts 0)) :: Own 33 1 (.slice (some ⟨g, 0, none⟩) n c) n (ints .u32 W) :: F) (fun w hw => SPI.holds (BigF.focus (SPI.holds (F' := BigF ms.length (fun j => Own 33 1 (.slice (lat ms j).a (lat ms j).n (lat ms j).c) (lat ms j).n (ints .u32 (tat Ts j))) :: Own 33 1 (.slice (some ⟨g, 0, none⟩) n c) n (ints .u32 W) :: F) hw) (i := 0) (by omega))) ?_
  refine l_assign rfl rfl ?_
  refine l_assign rfl rfl ?_
  refine l_assign rfl rfl ?_
  refine l_nil ?_
  refine g_ret Try.func42 rfl (.tmp rfl (.tmp rfl (.tmp rfl .nil))) ?_
  (first | exact Gives.mki ⟨(lat ms 0).a, (lat ms 0).n, (lat ms 0).c, tat Ts 0, true, 0, rfl, rfl, hM0.1, hM0.2, .inr ⟨rfl, rfl, Ts, hR, by omega, rfl⟩⟩ | exact Gives.mki ⟨none, 0, 0, [], false, e, rfl, rfl, rfl, .inl rfl, .inl ⟨rfl, rfl, by rcases hR with ⟨h1, _, _, _, h5⟩ | ⟨h1, h2, _⟩; (exact .inl ⟨h1, h5⟩); (exact .inr ⟨h1, by have h9 : Ts = [] := List.length_eq_zero_iff.1 (by omega); rw [h9] at h2; exact h2⟩)⟩⟩)
theorem rlook_out (w0 : World) (F : List Atom) (wd dp : Nat) (w1 : 1 ≤ wd) (w2 : wd ≤ 16) (d1 : 1 ≤ dp) (d2 : dp ≤ 8) (g n c : Nat) (W : List Int) (hW : W.length = n) (hc : n ≤ c) (hn : n ≤ 1073741824) (hU : W32s W) (at_ : Int) (at_0 : -9223372036854775808 ≤ at_) (at_1 : at_ ≤ 9223372036854775807) (hi : ¬ inR n at_ ((3 + dp * (1 + wd) : Nat) : Int)) :
    CallK Try.prog 42 [.slice (some ⟨g, 0, none⟩) n c, .int .i64 at_, .int .i64 (wd : Int), .int .i64 (dp : Int)] w0 (Own 33 1 (.slice (some ⟨g, 0, none⟩) n c) n (ints .u32 W) :: F) (Gives w0 fun v F2 => v = .tuple #[.slice none 0 0, .bool false, .int .i64 51] ∧ F2 = Own 33 1 (.slice (some ⟨g, 0, none⟩) n c) n (ints .u32 W) :: F) := by
  refine c_enter Try.func42 rfl rfl rfl ?_
  refine g_seq ?_
  refine g_region ?_
  refine l_assign rfl rfl ?_
  refine l_assign rfl rfl ?_
  refine l_assign rfl rfl ?_
  refine l_nil ?_
  refine g_seq ?_
  refine g_seq ?_
  refine g_region ?_
  refine l_move rfl rfl ?_
  refine l_move rfl rfl ?_
  refine l_call rfl Try.call52 rfl (bounds_ok _ _ wd dp w1 w2 d1 d2) ?_; rintro _ F9 ⟨rfl, hF9⟩; rw [hF9]; clear hF9 F9
  refine l_not rfl rfl ?_
  refine l_nil ?_
  first | refine g_cond_f rfl ?_ | refine g_cond_f (congrArg (fun b => some (Value.bool b)) (decide_eq_false hbr)) ?_
  refine g_skip ?_
  refine g_seq ?_
  refine g_region ?_
  refine l_move rfl rfl ?_
  refine l_move rfl rfl ?_
  refine l_move rfl rfl ?_
  refine l_move rfl rfl ?_
  refine l_call rfl Try.call57 rfl (rport_out _ _ wd dp w1 w2 d1 d2 g 0 n c W ⟨hW, .own (by first | exact mem_getO 0 rfl | exact mem_getO 1 rfl | exact mem_getO 2 rfl | exact mem_getO 3 rfl), hU⟩ hn at_ at_0 at_1 hi) ?_; rintro _ F9 ⟨rfl, hF9⟩; rw [hF9]; clear hF9 F9
  refine l_move rfl rfl ?_
  refine l_extract rfl rfl rfl ?_
  refine l_extract rfl rfl rfl ?_
  refine l_allocs rfl Try.zeroValue97 ?_; intro b11
  refine l_sts Try.sizeOf97 rfl rfl rfl rfl rfl ?_
  refine l_assign rfl rfl ?_
  refine l_nil ?_
  refine g_seq ?_
  refine g_seq ?_
  refine g_region ?_
  refine l_move rfl rfl ?_
  refine l_neq rfl rfl rfl ?_
  refine l_move rfl rfl ?_
  refine l_split 27 rfl ?_ ?_
  · intro hbr
    have hbr := of_decide_eq_true hbr
    refine l_guard_no rfl rfl rfl ?_
    refine l_guard_no rfl rfl rfl ?_
    refine l_guard_no rfl rfl rfl ?_
    refine l_guard_no rfl rfl rfl ?_
    refine l_pick_t rfl rfl rfl ?_
    refine l_nil ?_
    first | refine g_cond_t rfl ?_ | refine g_cond_t (congrArg (fun b => some (Value.bool b)) (decide_eq_true hbr)) ?_
    refine g_seq ?_
    refine g_region ?_
    refine l_move rfl rfl ?_
    refine l_assign rfl rfl ?_
    refine l_assign rfl rfl ?_
    refine l_assign rfl rfl ?_
    refine l_nil ?_
    refine g_ret Try.func42 rfl (.tmp rfl (.tmp rfl (.tmp rfl .nil))) ?_
    exact Gives.mki ⟨rfl, rfl⟩
  · intro hbr
    have hbr := of_decide_eq_false hbr
    (exfalso; first | omega | (simp at hbr; done))
theorem rlook_bad (w0 : World) (F : List Atom) (g n c : Nat) (wd dp at_ : Int) (hq : ¬ QOk wd dp) :
    CallK Try.prog 42 [.slice (some ⟨g, 0, none⟩) n c, .int .i64 at_, .int .i64 wd, .int .i64 dp] w0 (F) (Gives w0 fun v F2 => v = .tuple #[.slice none 0 0, .bool false, .int .i64 1] ∧ F2 = F) := by
  refine c_enter Try.func42 rfl rfl rfl ?_
  refine g_seq ?_
  refine g_region ?_
  refine l_assign rfl rfl ?_
  refine l_assign rfl rfl ?_
  refine l_assign rfl rfl ?_
  refine l_nil ?_
  refine g_seq ?_
  refine g_seq ?_
  refine g_region ?_
  refine l_move rfl rfl ?_
  refine l_move rfl rfl ?_
  refine l_call rfl Try.call52 rfl (bounds_bad _ _ wd dp hq) ?_; rintro _ F9 ⟨rfl, hF9⟩; rw [hF9]; clear hF9 F9
  refine l_not rfl rfl ?_
  refine l_nil ?_
  first | refine g_cond_t rfl ?_ | refine g_cond_t (congrArg (fun b => some (Value.bool b)) (decide_eq_true hbr)) ?_
  refine g_seq ?_
  refine g_region ?_
  refine l_assign rfl rfl ?_
  refine l_assign rfl rfl ?_
  refine l_assign rfl rfl ?_
  refine l_nil ?_
  refine g_ret Try.func42 rfl (.tmp rfl (.tmp rfl (.tmp rfl .nil))) ?_
  exact Gives.mki ⟨rfl, rfl⟩
set_option maxHeartbeats 4000000 in
theorem rtake_in (w0 : World) (F : List Atom) (wd dp : Nat) (w1 : 1 ≤ wd) (w2 : wd ≤ 16) (d1 : 1 ≤ dp) (d2 : dp ≤ 8) (g n c : Nat) (W : List Int) (hW : W.length = n) (hc : n ≤ c) (hn : n ≤ 1073741824) (hU : W32s W) (at_ : Int) (hi : inR n at_ ((3 + dp * (1 + wd) : Nat) : Int)) :
    CallK Try.prog 44 [.slice (some ⟨g, 0, none⟩) n c, .int .i64 at_, .int .i64 (wd : Int), .int .i64 (dp : Int)] w0 (Own 33 1 (.slice (some ⟨g, 0, none⟩) n c) n (ints .u32 W) :: F) (Gives w0 fun v F2 => ∃ g2 c2 ok e W2, v = .tuple #[.slice (some ⟨g2, 0, none⟩) n c2, .bool ok, .int .i64 e] ∧ n ≤ c2 ∧ W2.length = n ∧ F2 = Own 33 1 (.slice (some ⟨g2, 0, none⟩) n c2) n (ints .u32 W2) :: F ∧ TakQ W at_ wd dp ok e W2) := by
  have hpw := pw_bd w1 w2 d1 d2
  have hi2 := hi
  unfold inR at hi2
  refine c_enter Try.func44 rfl rfl rfl ?_
  refine g_seq ?_
  refine g_region ?_
  refine l_assign rfl rfl ?_
  refine l_assign rfl rfl ?_
  refine l_assign rfl rfl ?_
  refine l_nil ?_
  refine g_seq ?_
  refine g_seq ?_
  refine g_region ?_
  refine l_move rfl rfl ?_
  refine l_move rfl rfl ?_
  refine l_call rfl Try.call52 rfl (bounds_ok _ _ wd dp w1 w2 d1 d2) ?_; rintro _ F9 ⟨rfl, hF9⟩; rw [hF9]; clear hF9 F9
  refine l_not rfl rfl ?_
  refine l_nil ?_
  first | refine g_cond_f rfl ?_ | refine g_cond_f (congrArg (fun b => some (Value.bool b)) (decide_eq_false hbr)) ?_
  refine g_skip ?_
  refine g_seq ?_
  refine g_region ?_
  refine l_move rfl rfl ?_
  refine l_move rfl rfl ?_
  refine l_move rfl rfl ?_
  refine l_move rfl rfl ?_
  refine l_call rfl Try.call57 rfl (rport_in _ _ wd dp w1 w2 d1 d2 g 0 n c W ⟨hW, .own (by first | exact mem_getO 0 rfl | exact mem_getO 1 rfl | exact mem_getO 2 rfl | exact mem_getO 3 rfl), hU⟩ hn at_ hi) ?_; rintro _ _ ⟨fx, ao, co, ms, Ts, ls, e, rfl, rfl, hMs, hao, hR⟩
  have hml := hMs.1
  refine l_move rfl rfl ?_
  refine l_extract rfl rfl rfl ?_
  refine l_extract rfl rfl rfl ?_
  refine l_allocs rfl Try.zeroValue97 ?_; intro b11
  refine l_sts Try.sizeOf97 rfl rfl rfl rfl rfl ?_
  refine l_assign rfl rfl ?_
  refine l_nil ?_
  refine g_seq ?_
  refine g_seq ?_
  refine g_region ?_
  refine l_move rfl rfl ?_
  refine l_neq rfl rfl rfl ?_
  refine l_move rfl rfl ?_
  refine l_split 29 rfl ?_ ?_
  · intro hbr
    have hbr := of_decide_eq_true hbr
    refine l_guard_no rfl rfl rfl ?_
    refine l_guard_no rfl rfl rfl ?_
    refine l_guard_no rfl rfl rfl ?_
    refine l_guard_no rfl rfl rfl ?_
    refine l_pick_t rfl rfl rfl ?_
    refine l_nil ?_
    first | refine g_cond_t rfl ?_ | refine g_cond_t (congrArg (fun b => some (Value.bool b)) (decide_eq_true hbr)) ?_
    refine g_seq ?_
    refine g_region ?_
    refine l_move rfl rfl ?_
    refine l_move rfl rfl ?_
    refine l_assign rfl rfl ?_
    refine l_assign rfl rfl ?_
    refine l_assign rfl rfl ?_
    refine l_nil ?_
    refine g_ret Try.func44 rfl (.tmp rfl (.tmp rfl (.tmp rfl .nil))) ?_
    (first | exact Gives.mki ⟨g5, n, true, 0, (spl at_.toNat (portL wd dp ((fn + 1) % dp) ls (Ts.drop 1) (ms.length - 1)) W), rfl, Nat.le_refl _, by rw [spl_length (by rw [portL_len (by omega) (fun j hj => by rw [tat_drop]; exact (hbd.2.2.2 (j + 1) (by omega)).2)]; omega)]; exact hW, rfl, .inr ⟨rfl, rfl, Ts, hR, by omega, by rw [hfn2, ← hls, hml]⟩⟩ | exact Gives.mki ⟨g, c, false, e, W, rfl, hc, hW, rfl, .inl ⟨rfl, rfl, by rcases hR with ⟨h1, _, _, _, h5⟩ | ⟨h1, h2, _⟩; (exact .inl ⟨h1, h5⟩); (exact .inr ⟨h1, by have h9 : Ts = [] := List.length_eq_zero_iff.1 (by omega); rw [h9] at h2; exact h2⟩)⟩⟩)
  intro hbr
  have hbr := of_decide_eq_false hbr
  refine l_guard_yes rfl rfl ?_
  refine l_fieldAddr rfl fa_97_1 rfl ?_
  refine l_guard_yes rfl rfl ?_
  refine l_ld rfl Try.isAgg40 rfl rfl ?_
  refine l_guard_yes rfl rfl ?_
  refine l_len rfl Try.underlying40 rfl ?_
  refine l_guard_yes rfl rfl ?_
  refine l_eql rfl rfl rfl ?_
  refine l_pick_f rfl rfl rfl ?_
  refine l_nil ?_
  refine g_cond rfl ?_ ?_
  · intro hbr
    have hbr := of_decide_eq_true hbr
    refine g_seq ?_
    refine g_region ?_
    refine l_move rfl rfl ?_
    refine l_move rfl rfl ?_
    refine l_assign rfl rfl ?_
    refine l_assign rfl rfl ?_
    refine l_assign rfl rfl ?_
    refine l_nil ?_
    refine g_ret Try.func44 rfl (.tmp rfl (.tmp rfl (.tmp rfl .nil))) ?_
    (first | exact Gives.mki ⟨g5, n, true, 0, (spl at_.toNat (portL wd dp ((fn + 1) % dp) ls (Ts.drop 1) (ms.length - 1)) W), rfl, Nat.le_refl _, by rw [spl_length (by rw [portL_len (by omega) (fun j hj => by rw [tat_drop]; exact (hbd.2.2.2 (j + 1) (by omega)).2)]; omega)]; exact hW, rfl, .inr ⟨rfl, rfl, Ts, hR, by omega, by rw [hfn2, ← hls, hml]⟩⟩ | exact Gives.mki ⟨g, c, false, e, W, rfl, hc, hW, rfl, .inl ⟨rfl, rfl, by rcases hR with ⟨h1, _, _, _, h5⟩ | ⟨h1, h2, _⟩; (exact .inl ⟨h1, h5⟩); (exact .inr ⟨h1, by have h9 : Ts = [] := List.length_eq_zero_iff.1 (by omega); rw [h9] at h2; exact h2⟩)⟩⟩)
  intro hbr
  have hbr := of_decide_eq_false hbr
  refine g_skip ?_
  refine g_seq ?_
  refine g_region ?_
  have hR0 : e = 0 ∧ PrtR W at_ wd dp Ts true ∧ fx = W.getD at_.toNat 0 ∧ ls = W.getD (at_.toNat + 2) 0 := by rcases hR with ⟨h, _⟩ | h; omega; exact h
  clear hR
  obtain ⟨rfl, hR, hfi, hls⟩ := hR0
  obtain ⟨gr, rfl⟩ := hao.resolve_left (by omega)
  have hlb := hU (at_.toNat + 2)
  have hbd := RowR.bd hR.row (by omega)
  have hl1 := hbd.1
  have hl2 := hbd.2.1
  have hl3 := hbd.2.2.1
  obtain ⟨fn, hfn⟩ := Int.eq_ofNat_of_zero_le (hU at_.toNat).1
  rw [hfn] at hfi
  have hfn2 : (W.getD at_.toNat 0).toNat = fn := by rw [hfn]; rfl
  rw [hfn2] at hl3
  subst hfi
  refine l_fact (own_cases (show Own 29 1 (.slice (some ⟨gr, 0, none⟩) ms.length co) ms.length (ms.map lvV) ∈ _ from (by first | exact mem_getO 0 rfl | exact mem_getO 1 rfl | exact mem_getO 2 rfl | exact mem_getO 3 rfl | exact mem_getO 4 rfl | exact mem_getO 5 rfl | exact mem_getO 6 rfl | exact mem_getO 7 rfl))) ?_; intro hown
  have hcap : ms.length ≤ co := by
    rcases hown.2.2 with ⟨h, _⟩ | ⟨g9, cp, h, h2⟩
    · cases h
    · cases h
      exact h2
  clear hown
  refine l_move rfl rfl ?_
  refine l_call rfl Try.call54 rfl (copied_ok _ _ g 0 n c W ⟨hW, .own (by first | exact mem_getO 0 rfl | exact mem_getO 1 rfl | exact mem_getO 2 rfl | exact mem_getO 3 rfl | exact mem_getO 4 rfl | exact mem_getO 5 rfl | exact mem_getO 6 rfl | exact mem_getO 7 rfl), hU⟩ hn) ?_; rintro _ _ ⟨g5, rfl, rfl⟩
  refine l_assign rfl rfl ?_
  refine l_nil ?_
  refine g_seq ?_
  refine g_region ?_
  refine l_fieldAddr rfl fa_97_1 rfl ?_
  refine l_ld rfl Try.isAgg40 rfl rfl ?_
  refine l_slice_lo rfl Try.underlying40 Try.sizeOf29 rfl rfl (by omega) (by omega) (by omega) ?_; intro o41 ho41
  refine l_fieldAddr rfl fa_97_1 rfl ?_
  refine l_st Try.sizeOf40 rfl rfl rfl rfl ?_
  refine l_nil ?_
  refine g_seq ?_
  refine g_region ?_
  refine l_fieldAddr rfl fa_97_0 rfl ?_
  first | refine l_ld rfl Try.isAgg3 rfl rfl ?_ | refine l_ldw rfl Try.isAgg3 rfl (by omega) ?_
  first | refine l_add rfl rfl rfl (w_i64 (by omega) (by omega)) ?_ | refine l_addw rfl rfl rfl ?_
  refine l_move rfl rfl ?_
  have hmn : ((fn : Int) + 1) % (dp : Int) = (((fn + 1) % dp : Nat) : Int) := (mod_nat (first := fn) (dp := dp) (i := 1) (by omega) (by omega)).1
  have hmd := Nat.mod_lt (fn + 1) (show 0 < dp by omega)
  refine l_rem rfl rfl rfl (by omega) (by omega) (by rw [hmn]; exact w_i64 (by omega) (by omega)) ?_
  rw [hmn]
  refine l_fieldAddr rfl fa_97_0 rfl ?_
  first | refine l_st Try.sizeOf3 rfl rfl rfl rfl ?_ | refine l_stw Try.sizeOf3 rfl rfl (by omega) ?_
  refine l_nil ?_
  refine g_seq ?_
  refine g_region ?_
  refine l_move rfl rfl ?_
  refine l_move rfl rfl ?_
  refine l_move rfl rfl ?_
  refine l_move rfl rfl ?_
  refine l_lds rfl Try.isAgg97 Try.sizeOf97 rfl rfl ?_
  refine l_fronto g5 ?_
  refine l_call rfl Try.call58 rfl (rlayp_ok _ _ wd dp w1 w2 d1 d2 g5 n n W hW (Nat.le_refl _) hn at_ hi ((fn + 1) % dp) (Nat.mod_lt _ (by omega)) ls (by omega) (by omega) (some ⟨gr, o41, none⟩) (ms.length - 1) (co - 1) (ms.drop 1) (Ts.drop 1) (by rw [List.length_drop]) (by omega) (.inr ⟨gr, o41, rfl, by rw [List.map_drop]; exact lv_sub (RowAt.own (E := 29) (sz := 1) (n := ms.length) (cap := co) (by first | exact mem_getO 0 rfl | exact mem_getO 1 rfl | exact mem_getO 2 rfl | exact mem_getO 3 rfl | exact mem_getO 4 rfl | exact mem_getO 5 rfl | exact mem_getO 6 rfl | exact mem_getO 7 rfl)) ho41 (by rw [List.length_map]; omega)⟩) (ms_rd (by first | exact List.mem_cons_self .. | exact List.mem_cons_of_mem _ (List.mem_cons_self ..) | exact List.mem_cons_of_mem _ (List.mem_cons_of_mem _ (List.mem_cons_self ..)) | exact List.mem_cons_of_mem _ (List.mem_cons_of_mem _ (List.mem_cons_of_mem _ (List.mem_cons_self ..))) | exact List.mem_cons_of_mem _ (List.mem_cons_of_mem _ (List.mem_cons_of_mem _ (List.mem_cons_of_mem _ (List.mem_cons_self ..)))) | exact List.mem_cons_of_mem _ (List.mem_cons_of_mem _ (List.mem_cons_of_mem _ (List.mem_cons_of_mem _ (List.mem_cons_of_mem _ (List.mem_cons_self ..))))) | exact List.mem_cons_of_mem _ (List.mem_cons_of_mem _ (List.mem_cons_of_mem _ (List.mem_cons_of_mem _ (List.mem_cons_of_mem _ (List.mem_cons_of_mem _ (List.mem_cons_self ..)))))) | exact List.mem_cons_of_mem _ (List.mem_cons_of_mem _ (List.mem_cons_of_mem _ (List.mem_cons_of_mem _ (List.mem_cons_of_mem _ (List.mem_cons_of_mem _ (List.mem_cons_of_mem _ (List.mem_cons_self ..))))))) | exact List.mem_cons_of_mem _ (List.mem_cons_of_mem _ (List.mem_cons_of_mem _ (List.mem_cons_of_mem _ (List.mem_cons_of_mem _ (List.mem_cons_of_mem _ (List.mem_cons_of_mem _ (List.mem_cons_of_mem _ (List.mem_cons_self ..)))))))) | exact List.mem_cons_of_mem _ (List.mem_cons_of_mem _ (List.mem_cons_of_mem _ (List.mem_cons_of_mem _ (List.mem_cons_of_mem _ (List.mem_cons_of_mem _ (List.mem_cons_of_mem _ (List.mem_cons_of_mem _ (List.mem_cons_of_mem _ (List.mem_cons_self ..))))))))) | exact List.mem_cons_of_mem _ (List.mem_cons_of_mem _ (List.mem_cons_of_mem _ (List.mem_cons_of_mem _ (List.mem_cons_of_mem _ (List.mem_cons_of_mem _ (List.mem_cons_of_mem _ (List.mem_cons_of_mem _ (List.mem_cons_of_mem _ (List.mem_cons_of_mem _ (List.mem_cons_self ..)))))))))) | exact List.mem_cons_of_mem _ (List.mem_cons_of_mem _ (List.mem_cons_of_mem _ (List.mem_cons_of_mem _ (List.mem_cons_of_mem _ (List.mem_cons_of_mem _ (List.mem_cons_of_mem _ (List.mem_cons_of_mem _ (List.mem_cons_of_mem _ (List.mem_cons_of_mem _ (List.mem_cons_of_mem _ (List.mem_cons_self ..)))))))))))) hMs hbd.2.2.2).drop) ?_; rintro _ _ rfl
  refine l_nil ?_
  refine g_seq ?_
  refine g_region ?_
  refine l_move rfl rfl ?_
  refine l_assign rfl rfl ?_
  refine l_assign rfl rfl ?_
  refine l_assign rfl rfl ?_
  refine l_nil ?_
  refine g_ret Try.func44 rfl (.tmp rfl (.tmp rfl (.tmp rfl .nil))) ?_
  (first | exact Gives.mki ⟨g5, n, true, 0, (spl at_.toNat (portL wd dp ((fn + 1) % dp) ls (Ts.drop 1) (ms.length - 1)) W), rfl, Nat.le_refl _, by rw [spl_length (by rw [portL_len (by omega) (fun j hj => by rw [tat_drop]; exact (hbd.2.2.2 (j + 1) (by omega)).2)]; omega)]; exact hW, rfl, .inr ⟨rfl, rfl, Ts, hR, by omega, by rw [hfn2, ← hls, hml]⟩⟩ | exact Gives.mki ⟨g, c, false, e, W, rfl, hc, hW, rfl, .inl ⟨rfl, rfl, by rcases hR with ⟨h1, _, _, _, h5⟩ | ⟨h1, h2, _⟩; (exact .inl ⟨h1, h5⟩); (exact .inr ⟨h1, by have h9 : Ts = [] := List.length_eq_zero_iff.1 (by omega); rw [h9] at h2; exact h2⟩)⟩⟩)
theorem rtake_out (w0 : World) (F : List Atom) (wd dp : Nat) (w1 : 1 ≤ wd) (w2 : wd ≤ 16) (d1 : 1 ≤ dp) (d2 : dp ≤ 8) (g n c : Nat) (W : List Int) (hW : W.length = n) (hc : n ≤ c) (hn : n ≤ 1073741824) (hU : W32s W) (at_ : Int) (at_0 : -9223372036854775808 ≤ at_) (at_1 : at_ ≤ 9223372036854775807) (hi : ¬ inR n at_ ((3 + dp * (1 + wd) : Nat) : Int)) :
    CallK Try.prog 44 [.slice (some ⟨g, 0, none⟩) n c, .int .i64 at_, .int .i64 (wd : Int), .int .i64 (dp : Int)] w0 (Own 33 1 (.slice (some ⟨g, 0, none⟩) n c) n (ints .u32 W) :: F) (Gives w0 fun v F2 => v = .tuple #[.slice (some ⟨g, 0, none⟩) n c, .bool false, .int .i64 51] ∧ F2 = Own 33 1 (.slice (some ⟨g, 0, none⟩) n c) n (ints .u32 W) :: F) := by
  refine c_enter Try.func44 rfl rfl rfl ?_
  refine g_seq ?_
  refine g_region ?_
  refine l_assign rfl rfl ?_
  refine l_assign rfl rfl ?_
  refine l_assign rfl rfl ?_
  refine l_nil ?_
  refine g_seq ?_
  refine g_seq ?_
  refine g_region ?_
  refine l_move rfl rfl ?_
  refine l_move rfl rfl ?_
  refine l_call rfl Try.call52 rfl (bounds_ok _ _ wd dp w1 w2 d1 d2) ?_; rintro _ F9 ⟨rfl, hF9⟩; rw [hF9]; clear hF9 F9
  refine l_not rfl rfl ?_
  refine l_nil ?_
  first | refine g_cond_f rfl ?_ | refine g_cond_f (congrArg (fun b => some (Value.bool b)) (decide_eq_false hbr)) ?_
  refine g_skip ?_
  refine g_seq ?_
  refine g_region ?_
  refine l_move rfl rfl ?_
  refine l_move rfl rfl ?_
  refine l_move rfl rfl ?_
  refine l_move rfl rfl ?_
  refine l_call rfl Try.call57 rfl (rport_out _ _ wd dp w1 w2 d1 d2 g 0 n c W ⟨hW, .own (by first | exact mem_getO 0 rfl | exact mem_getO 1 rfl | exact mem_getO 2 rfl | exact mem_getO 3 rfl), hU⟩ hn at_ at_0 at_1 hi) ?_; rintro _ F9 ⟨rfl, hF9⟩; rw [hF9]; clear hF9 F9
  refine l_move rfl rfl ?_
  refine l_extract rfl rfl rfl ?_
  refine l_extract rfl rfl rfl ?_
  refine l_allocs rfl Try.zeroValue97 ?_; intro b11
  refine l_sts Try.sizeOf97 rfl rfl rfl rfl rfl ?_
  refine l_assign rfl rfl ?_
  refine l_nil ?_
  refine g_seq ?_
  refine g_seq ?_
  refine g_region ?_
  refine l_move rfl rfl ?_
  refine l_neq rfl rfl rfl ?_
  refine l_move rfl rfl ?_
  refine l_split 29 rfl ?_ ?_
  · intro hbr
    have hbr := of_decide_eq_true hbr
    refine l_guard_no rfl rfl rfl ?_
    refine l_guard_no rfl rfl rfl ?_
    refine l_guard_no rfl rfl rfl ?_
    refine l_guard_no rfl rfl rfl ?_
    refine l_pick_t rfl rfl rfl ?_
    refine l_nil ?_
    first | refine g_cond_t rfl ?_ | refine g_cond_t (congrArg (fun b => some (Value.bool b)) (decide_eq_true hbr)) ?_
    refine g_seq ?_
    refine g_region ?_
    refine l_move rfl rfl ?_
    refine l_move rfl rfl ?_
    refine l_assign rfl rfl ?_
    refine l_assign rfl rfl ?_
    refine l_assign rfl rfl ?_
    refine l_nil ?_
    refine g_ret Try.func44 rfl (.tmp rfl (.tmp rfl (.tmp rfl .nil))) ?_
    exact Gives.mki ⟨rfl, rfl⟩
  · intro hbr
    have hbr := of_decide_eq_false hbr
    (exfalso; first | omega | (simp at hbr; done))
theorem rtake_bad (w0 : World) (F : List Atom) (g n c : Nat) (wd dp at_ : Int) (hq : ¬ QOk wd dp) :
    CallK Try.prog 44 [.slice (some ⟨g, 0, none⟩) n c, .int .i64 at_, .int .i64 wd, .int .i64 dp] w0 (F) (Gives w0 fun v F2 => v = .tuple #[.slice (some ⟨g, 0, none⟩) n c, .bool false, .int .i64 1] ∧ F2 = F) := by
  refine c_enter Try.func44 rfl rfl rfl ?_
  refine g_seq ?_
  refine g_region ?_
  refine l_assign rfl rfl ?_
  refine l_assign rfl rfl ?_
  refine l_assign rfl rfl ?_
  refine l_nil ?_
  refine g_seq ?_
  refine g_seq ?_
  refine g_region ?_
  refine l_move rfl rfl ?_
  refine l_move rfl rfl ?_
  refine l_call rfl Try.call52 rfl (bounds_bad _ _ wd dp hq) ?_; rintro _ F9 ⟨rfl, hF9⟩; rw [hF9]; clear hF9 F9
  refine l_not rfl rfl ?_
  refine l_nil ?_
  first | refine g_cond_t rfl ?_ | refine g_cond_t (congrArg (fun b => some (Value.bool b)) (decide_eq_true hbr)) ?_
  refine g_seq ?_
  refine g_region ?_
  refine l_move rfl rfl ?_
  refine l_assign rfl rfl ?_
  refine l_assign rfl rfl ?_
  refine l_assign rfl rfl ?_
  refine l_nil ?_
  refine g_ret Try.func44 rfl (.tmp rfl (.tmp rfl (.tmp rfl .nil))) ?_
  exact Gives.mki ⟨rfl, rfl⟩
theorem rput_bad (w0 : World) (F : List Atom) (g n c : Nat) (wd dp at_ : Int) (hq : ¬ QOk wd dp) (a : Option Addr) (q qc : Nat) :
    CallK Try.prog 35 [.slice (some ⟨g, 0, none⟩) n c, .int .i64 at_, .int .i64 wd, .int .i64 dp, .slice a q qc] w0 (F) (Gives w0 fun v F2 => v = .tuple #[.slice (some ⟨g, 0, none⟩) n c, .bool false, .int .i64 1] ∧ F2 = F) := by
  refine c_enter Try.func35 rfl rfl rfl ?_
  refine g_seq ?_
  refine g_region ?_
  refine l_assign rfl rfl ?_
  refine l_assign rfl rfl ?_
  refine l_assign rfl rfl ?_
  refine l_nil ?_
  refine g_seq ?_
  refine g_seq ?_
  refine g_region ?_
  refine l_move rfl rfl ?_
  refine l_move rfl rfl ?_
  refine l_call rfl Try.call52 rfl (bounds_bad _ _ wd dp hq) ?_; rintro _ F9 ⟨rfl, hF9⟩; rw [hF9]; clear hF9 F9
  refine l_not rfl rfl ?_
  refine l_nil ?_
  first | refine g_cond_t rfl ?_ | refine g_cond_t (congrArg (fun b => some (Value.bool b)) (decide_eq_true hbr)) ?_
  refine g_seq ?_
  refine g_region ?_
  refine l_move rfl rfl ?_
  refine l_assign rfl rfl ?_
  refine l_assign rfl rfl ?_
  refine l_assign rfl rfl ?_
  refine l_nil ?_
  refine g_ret Try.func35 rfl (.tmp rfl (.tmp rfl (.tmp rfl .nil))) ?_
  exact Gives.mki ⟨rfl, rfl⟩
theorem rput_words (w0 : World) (F : List Atom) (g n c : Nat) (wd dp : Nat) (w1 : 1 ≤ wd) (w2 : wd ≤ 16) (d1 : 1 ≤ dp) (d2 : dp ≤ 8) (at_ : Int) (a : Option Addr) (q qc : Nat) (hq : q = 0 ∨ wd < q) (hq2 : q ≤ 9223372036854775807) :
    CallK Try.prog 35 [.slice (some ⟨g, 0, none⟩) n c, .int .i64 at_, .int .i64 (wd : Int), .int .i64 (dp : Int), .slice a q qc] w0 (F) (Gives w0 fun v F2 => v = .tuple #[.slice (some ⟨g, 0, none⟩) n c, .bool false, .int .i64 200] ∧ F2 = F) := by
  refine c_enter Try.func35 rfl rfl rfl ?_
  refine g_seq ?_
  refine g_region ?_
  refine l_assign rfl rfl ?_
  refine l_assign rfl rfl ?_
  refine l_assign rfl rfl ?_
  refine l_nil ?_
  refine g_seq ?_
  refine g_seq ?_
  refine g_region ?_
  refine l_move rfl rfl ?_
  refine l_move rfl rfl ?_
  refine l_call rfl Try.call52 rfl (bounds_ok _ _ wd dp w1 w2 d1 d2) ?_; rintro _ F9 ⟨rfl, hF9⟩; rw [hF9]; clear hF9 F9
  refine l_not rfl rfl ?_
  refine l_nil ?_
  first | refine g_cond_f rfl ?_ | refine g_cond_f (congrArg (fun b => some (Value.bool b)) (decide_eq_false hbr)) ?_
  refine g_skip ?_
  refine g_seq ?_
  refine g_seq ?_
  refine g_region ?_
  refine l_move rfl rfl ?_
  refine l_len rfl Try.underlying29 rfl ?_
  refine l_lss rfl rfl rfl ?_
  refine l_move rfl rfl ?_
  refine l_split 24 rfl ?_ ?_
  · intro hbr
    have hbr := of_decide_eq_true hbr
    refine l_guard_no rfl rfl rfl ?_
    refine l_guard_no rfl rfl rfl ?_
    refine l_guard_no rfl rfl rfl ?_
    refine l_guard_no rfl rfl rfl ?_
    refine l_pick_t rfl rfl rfl ?_
    refine l_nil ?_
    first | refine g_cond_t rfl ?_ | refine g_cond_t (congrArg (fun b => some (Value.bool b)) (decide_eq_true hbr)) ?_
    refine g_seq ?_
    refine g_region ?_
    refine l_move rfl rfl ?_
    refine l_assign rfl rfl ?_
    refine l_assign rfl rfl ?_
    refine l_assign rfl rfl ?_
    refine l_nil ?_
    refine g_ret Try.func35 rfl (.tmp rfl (.tmp rfl (.tmp rfl .nil))) ?_
    exact Gives.mki ⟨rfl, rfl⟩
  intro hbr
  have hbr := of_decide_eq_false hbr
  refine l_guard_yes rfl rfl ?_
  refine l_move rfl rfl ?_
  refine l_guard_yes rfl rfl ?_
  refine l_len rfl Try.underlying29 rfl ?_
  refine l_guard_yes rfl rfl ?_
  refine l_move rfl rfl ?_
  refine l_guard_yes rfl rfl ?_
  refine l_gtr rfl rfl rfl ?_
  refine l_pick_f rfl rfl rfl ?_
  refine l_nil ?_
  refine g_cond rfl ?_ ?_
  · intro hbr
    have hbr := of_decide_eq_true hbr
    refine g_seq ?_
    refine g_region ?_
    refine l_move rfl rfl ?_
    refine l_assign rfl rfl ?_
    refine l_assign rfl rfl ?_
    refine l_assign rfl rfl ?_
    refine l_nil ?_
    refine g_ret Try.func35 rfl (.tmp rfl (.tmp rfl (.tmp rfl .nil))) ?_
    exact Gives.mki ⟨rfl, rfl⟩
  · intro hbr
    have hbr := of_decide_eq_false hbr
    (exfalso; first | omega | (simp at hbr; done))
theorem rput_out (w0 : World) (F : List Atom) (wd dp : Nat) (w1 : 1 ≤ wd) (w2 : wd ≤ 16) (d1 : 1 ≤ dp) (d2 : dp ≤ 8) (g n c : Nat) (W : List Int) (hW : W.length = n) (hc : n ≤ c) (hn : n ≤ 1073741824) (hU : W32s W) (at_ : Int) (at_0 : -9223372036854775808 ≤ at_) (at_1 : at_ ≤ 9223372036854775807) (hi : ¬ inR n at_ ((1 + dp * (1 + wd) : Nat) : Int)) (a : Option Addr) (q qc : Nat) (h1 : 1 ≤ q) (h2 : q ≤ wd) :
    CallK Try.prog 35 [.slice (some ⟨g, 0, none⟩) n c, .int .i64 at_, .int .i64 (wd : Int), .int .i64 (dp : Int), .slice a q qc] w0 (Own 33 1 (.slice (some ⟨g, 0, none⟩) n c) n (ints .u32 W) :: F) (Gives w0 fun v F2 => v = .tuple #[.slice (some ⟨g, 0, none⟩) n c, .bool false, .int .i64 51] ∧ F2 = Own 33 1 (.slice (some ⟨g, 0, none⟩) n c) n (ints .u32 W) :: F) := by
  refine c_enter Try.func35 rfl rfl rfl ?_
  refine g_seq ?_
  refine g_region ?_
  refine l_assign rfl rfl ?_
  refine l_assign rfl rfl ?_
  refine l_assign rfl rfl ?_
  refine l_nil ?_
  refine g_seq ?_
  refine g_seq ?_
  refine g_region ?_
  refine l_move rfl rfl ?_
  refine l_move rfl rfl ?_
  refine l_call rfl Try.call52 rfl (bounds_ok _ _ wd dp w1 w2 d1 d2) ?_; rintro _ F9 ⟨rfl, hF9⟩; rw [hF9]; clear hF9 F9
  refine l_not rfl rfl ?_
  refine l_nil ?_
  first | refine g_cond_f rfl ?_ | refine g_cond_f (congrArg (fun b => some (Value.bool b)) (decide_eq_false hbr)) ?_
  refine g_skip ?_
  refine g_seq ?_
  refine g_seq ?_
  refine g_region ?_
  refine l_move rfl rfl ?_
  refine l_len rfl Try.underlying29 rfl ?_
  refine l_lss rfl rfl rfl ?_
  refine l_move rfl rfl ?_
  refine l_split 24 rfl ?_ ?_
  · intro hbr
    have hbr := of_decide_eq_true hbr
    (exfalso; first | omega | (simp at hbr; done))
  intro hbr
  have hbr := of_decide_eq_false hbr
  refine l_guard_yes rfl rfl ?_
  refine l_move rfl rfl ?_
  refine l_guard_yes rfl rfl ?_
  refine l_len rfl Try.underlying29 rfl ?_
  refine l_guard_yes rfl rfl ?_
  refine l_move rfl rfl ?_
  refine l_guard_yes rfl rfl ?_
  refine l_gtr rfl rfl rfl ?_
  refine l_pick_f rfl rfl rfl ?_
  refine l_nil ?_
  refine g_cond rfl ?_ ?_
  · intro hbr
    have hbr := of_decide_eq_true hbr
    (exfalso; first | omega | (simp at hbr; done))
  intro hbr
  have hbr := of_decide_eq_false hbr
  refine g_skip ?_
  refine g_seq ?_
  refine g_region ?_
  refine l_move rfl rfl ?_
  refine l_move rfl rfl ?_
  refine l_move rfl rfl ?_
  refine l_move rfl rfl ?_
  refine l_call rfl Try.call53 rfl (rstage_out _ _ wd dp w1 w2 d1 d2 g 0 n c W ⟨hW, .own (by first | exact mem_getO 0 rfl | exact mem_getO 1 rfl | exact mem_getO 2 rfl | exact mem_getO 3 rfl), hU⟩ hn at_ at_0 at_1 hi) ?_; rintro _ F9 ⟨rfl, hF9⟩; rw [hF9]; clear hF9 F9
  refine l_move rfl rfl ?_
  refine l_extract rfl rfl rfl ?_
  refine l_extract rfl rfl rfl ?_
  refine l_allocs rfl Try.zeroValue97 ?_; intro b13
  refine l_sts Try.sizeOf97 rfl rfl rfl rfl rfl ?_
  refine l_assign rfl rfl ?_
  refine l_nil ?_
  refine g_seq ?_
  refine g_seq ?_
  refine g_region ?_
  refine l_move rfl rfl ?_
  refine l_neq rfl rfl rfl ?_
  refine l_move rfl rfl ?_
  refine l_split 41 rfl ?_ ?_
  · intro hbr
    have hbr := of_decide_eq_true hbr
    refine l_guard_no rfl rfl rfl ?_
    refine l_guard_no rfl rfl rfl ?_
    refine l_guard_no rfl rfl rfl ?_
    refine l_guard_no rfl rfl rfl ?_
    refine l_guard_no rfl rfl rfl ?_
    refine l_pick_t rfl rfl rfl ?_
    refine l_nil ?_
    first | refine g_cond_t rfl ?_ | refine g_cond_t (congrArg (fun b => some (Value.bool b)) (decide_eq_true hbr)) ?_
    refine g_seq ?_
    refine g_region ?_
    refine l_move rfl rfl ?_
    refine l_move rfl rfl ?_
    refine l_assign rfl rfl ?_
    refine l_assign rfl rfl ?_
    refine l_assign rfl rfl ?_
    refine l_nil ?_
    refine g_ret Try.func35 rfl (.tmp rfl (.tmp rfl (.tmp rfl .nil))) ?_
    exact Gives.mki ⟨rfl, rfl⟩
  · intro hbr
    have hbr := of_decide_eq_false hbr
    (exfalso; first | omega | (simp at hbr; done))
set_option maxHeartbeats 4000000 in
theorem rput_in (w0 : World) (F : List Atom) (wd dp : Nat) (w1 : 1 ≤ wd) (w2 : wd ≤ 16) (d1 : 1 ≤ dp) (d2 : dp ≤ 8) (g n c : Nat) (W : List Int) (hW : W.length = n) (hc : n ≤ c) (hn : n ≤ 1073741824) (hU : W32s W) (at_ : Int) (hi : inR n at_ ((1 + dp * (1 + wd) : Nat) : Int)) (a : Option Addr) (q qc : Nat) (M : List Int) (hM : IR w0 F .u32 a q M) (hMU : W32s M) (h1 : 1 ≤ q) (h2 : q ≤ wd) :
    CallK Try.prog 35 [.slice (some ⟨g, 0, none⟩) n c, .int .i64 at_, .int .i64 (wd : Int), .int .i64 (dp : Int), .slice a q qc] w0 (Own 33 1 (.slice (some ⟨g, 0, none⟩) n c) n (ints .u32 W) :: F) (Gives w0 fun v F2 => ∃ g2 c2 ok e W2, v = .tuple #[.slice (some ⟨g2, 0, none⟩) n c2, .bool ok, .int .i64 e] ∧ n ≤ c2 ∧ W2.length = n ∧ F2 = Own 33 1 (.slice (some ⟨g2, 0, none⟩) n c2) n (ints .u32 W2) :: F ∧ PutQ W at_ wd dp M ok e W2) := by
  obtain ⟨bM, oM, rfl, hrM⟩ := hM.some (i := 0) (by omega)
  have hpw := pw_bd w1 w2 d1 d2
  have hi2 := hi
  unfold inR at hi2
  refine c_enter Try.func35 rfl rfl rfl ?_
  refine g_seq ?_
  refine g_region ?_
  refine l_assign rfl rfl ?_
  refine l_assign rfl rfl ?_
  refine l_assign rfl rfl ?_
  refine l_nil ?_
  refine g_seq ?_
  refine g_seq ?_
  refine g_region ?_
  refine l_move rfl rfl ?_
  refine l_move rfl rfl ?_
  refine l_call rfl Try.call52 rfl (bounds_ok _ _ wd dp w1 w2 d1 d2) ?_; rintro _ F9 ⟨rfl, hF9⟩; rw [hF9]; clear hF9 F9
  refine l_not rfl rfl ?_
  refine l_nil ?_
  first | refine g_cond_f rfl ?_ | refine g_cond_f (congrArg (fun b => some (Value.bool b)) (decide_eq_false hbr)) ?_
  refine g_skip ?_
  refine g_seq ?_
  refine g_seq ?_
  refine g_region ?_
  refine l_move rfl rfl ?_
  refine l_len rfl Try.underlying29 rfl ?_
  refine l_lss rfl rfl rfl ?_
  refine l_move rfl rfl ?_
  refine l_split 24 rfl ?_ ?_
  · intro hbr
    have hbr := of_decide_eq_true hbr
    (exfalso; first | omega | (simp at hbr; done))
  intro hbr
  have hbr := of_decide_eq_false hbr
  refine l_guard_yes rfl rfl ?_
  refine l_move rfl rfl ?_
  refine l_guard_yes rfl rfl ?_
  refine l_len rfl Try.underlying29 rfl ?_
  refine l_guard_yes rfl rfl ?_
  refine l_move rfl rfl ?_
  refine l_guard_yes rfl rfl ?_
  refine l_gtr rfl rfl rfl ?_
  refine l_pick_f rfl rfl rfl ?_
  refine l_nil ?_
  refine g_cond rfl ?_ ?_
  · intro hbr
    have hbr := of_decide_eq_true hbr
    (exfalso; first | omega | (simp at hbr; done))
  intro hbr
  have hbr := of_decide_eq_false hbr
  refine g_skip ?_
  refine g_seq ?_
  refine g_region ?_
  refine l_move rfl rfl ?_
  refine l_move rfl rfl ?_
  refine l_move rfl rfl ?_
  refine l_move rfl rfl ?_
  refine l_call rfl Try.call53 rfl (rstage_in _ _ wd dp w1 w2 d1 d2 g 0 n c W ⟨hW, .own (by first | exact mem_getO 0 rfl | exact mem_getO 1 rfl | exact mem_getO 2 rfl | exact mem_getO 3 rfl), hU⟩ hn at_ hi) ?_; rintro _ _ ⟨fx, ao, co, ms, Ts, ls, e, rfl, rfl, hMs, hao, hR⟩
  have hml := hMs.1
  refine l_move rfl rfl ?_
  refine l_extract rfl rfl rfl ?_
  refine l_extract rfl rfl rfl ?_
  refine l_allocs rfl Try.zeroValue97 ?_; intro b13
  refine l_sts Try.sizeOf97 rfl rfl rfl rfl rfl ?_
  refine l_assign rfl rfl ?_
  refine l_nil ?_
  refine g_seq ?_
  refine g_seq ?_
  refine g_region ?_
  refine l_move rfl rfl ?_
  refine l_neq rfl rfl rfl ?_
  refine l_move rfl rfl ?_
  refine l_split 41 rfl ?_ ?_
  · intro hbr
    have hbr := of_decide_eq_true hbr
    refine l_guard_no rfl rfl rfl ?_
    refine l_guard_no rfl rfl rfl ?_
    refine l_guard_no rfl rfl rfl ?_
    refine l_guard_no rfl rfl rfl ?_
    refine l_guard_no rfl rfl rfl ?_
    refine l_pick_t rfl rfl rfl ?_
    refine l_nil ?_
    first | refine g_cond_t rfl ?_ | refine g_cond_t (congrArg (fun b => some (Value.bool b)) (decide_eq_true hbr)) ?_
    refine g_seq ?_
    refine g_region ?_
    refine l_move rfl rfl ?_
    refine l_move rfl rfl ?_
    refine l_assign rfl rfl ?_
    refine l_assign rfl rfl ?_
    refine l_assign rfl rfl ?_
    refine l_nil ?_
    refine g_ret Try.func35 rfl (.tmp rfl (.tmp rfl (.tmp rfl .nil))) ?_
    (first | exact Gives.mki ⟨g5, n, true, 0, (spl at_.toNat (layN wd dp [((ms.length + 1 : Nat) : Int)] 0 (Ts ++ [M]) (ms.length + 1)) W), rfl, Nat.le_refl _, by rw [spl_length (by rw [layN_len (by omega) _ (put_le hml hM.1 h2 hbd.2.2.2)]; show _ + (1 + _) ≤ _; omega)]; exact hW, rfl, .inr ⟨rfl, rfl, Ts, hR, by omega, by rw [hml]⟩⟩ | exact Gives.mki ⟨g, c, false, e, W, rfl, hc, hW, rfl, .inl ⟨rfl, rfl, by rcases hR with ⟨h3, h4, h5⟩ | ⟨h3, h4⟩; (exact .inl ⟨h3, h5⟩); (have h9 := RowR.bd h4 (by omega); exact .inr ⟨h3, Ts, h4, by omega⟩)⟩⟩)
  intro hbr
  have hbr := of_decide_eq_false hbr
  refine l_guard_yes rfl rfl ?_
  refine l_fieldAddr rfl fa_97_1 rfl ?_
  refine l_guard_yes rfl rfl ?_
  refine l_ld rfl Try.isAgg40 rfl rfl ?_
  refine l_guard_yes rfl rfl ?_
  refine l_len rfl Try.underlying40 rfl ?_
  refine l_guard_yes rfl rfl ?_
  refine l_move rfl rfl ?_
  refine l_guard_yes rfl rfl ?_
  refine l_eql rfl rfl rfl ?_
  refine l_pick_f rfl rfl rfl ?_
  refine l_nil ?_
  refine g_cond rfl ?_ ?_
  · intro hbr
    have hbr := of_decide_eq_true hbr
    refine g_seq ?_
    refine g_region ?_
    refine l_move rfl rfl ?_
    refine l_move rfl rfl ?_
    refine l_assign rfl rfl ?_
    refine l_assign rfl rfl ?_
    refine l_assign rfl rfl ?_
    refine l_nil ?_
    refine g_ret Try.func35 rfl (.tmp rfl (.tmp rfl (.tmp rfl .nil))) ?_
    (first | exact Gives.mki ⟨g5, n, true, 0, (spl at_.toNat (layN wd dp [((ms.length + 1 : Nat) : Int)] 0 (Ts ++ [M]) (ms.length + 1)) W), rfl, Nat.le_refl _, by rw [spl_length (by rw [layN_len (by omega) _ (put_le hml hM.1 h2 hbd.2.2.2)]; show _ + (1 + _) ≤ _; omega)]; exact hW, rfl, .inr ⟨rfl, rfl, Ts, hR, by omega, by rw [hml]⟩⟩ | exact Gives.mki ⟨g, c, false, e, W, rfl, hc, hW, rfl, .inl ⟨rfl, rfl, by rcases hR with ⟨h3, h4, h5⟩ | ⟨h3, h4⟩; (exact .inl ⟨h3, h5⟩); (have h9 := RowR.bd h4 (by omega); exact .inr ⟨h3, Ts, h4, by omega⟩)⟩⟩)
  intro hbr
  have hbr := of_decide_eq_false hbr
  refine g_skip ?_
  refine g_seq ?_
  refine g_region ?_
  have hR0 : e = 0 ∧ StgR W at_ wd dp Ts true := by rcases hR with ⟨h, _⟩ | h; omega; exact h
  clear hR
  obtain ⟨rfl, hR⟩ := hR0
  have hbd := RowR.bd hR (by omega)
  have hl1 := hbd.1
  have hl2 := hbd.2.1
  refine l_move rfl rfl ?_
  refine l_call rfl Try.call54 rfl (copied_ok _ _ g 0 n c W ⟨hW, .own (by first | exact mem_getO 0 rfl | exact mem_getO 1 rfl | exact mem_getO 2 rfl | exact mem_getO 3 rfl | exact mem_getO 4 rfl | exact mem_getO 5 rfl | exact mem_getO 6 rfl | exact mem_getO 7 rfl), hU⟩ hn) ?_; rintro _ _ ⟨g5, rfl, rfl⟩
  refine l_assign rfl rfl ?_
  refine l_nil ?_
  refine g_seq ?_
  refine gp_start mo (by kernel_rfl) (by kernel_rfl) ?_
  refine gp_quiet 0 rfl rfl rfl rfl rfl rfl (q_fieldAddr fa_97_1 rfl) ?_
  refine gp_quiet 1 rfl rfl rfl rfl rfl rfl (q_ld Try.isAgg40 rfl rfl) ?_
  refine gp_quiet 2 rfl rfl rfl rfl rfl rfl (q_move rfl) ?_
  refine gp_effa 3 [2] [1, 0] rfl rfl rfl rfl rfl rfl rfl (does_call Try.call54 rfl (copied_ok _ _ bM oM q qc M ⟨hM.1, hrM.ex, hMU⟩ (by omega))) ?_
  rintro _ _ ⟨gC, rfl, rfl⟩
  refine ⟨?_, ?_⟩
  · refine .cons rfl rfl rfl rfl rfl (q_ld Try.isAgg40 rfl rfl) ?_
    refine .cons rfl rfl rfl rfl rfl (q_fieldAddr fa_97_1 rfl) ?_
    exact .nil
  refine gp_eff 4 rfl rfl rfl rfl rfl rfl (does_buildSlice Try.underlying40 Try.sizeOf29 Try.zeroValue29 rfl rfl rfl rfl rfl rfl) ?_
  rintro _ _ ⟨b56, rfl, rfl⟩
  refine ⟨?_, ?_⟩
  · refine .cons rfl rfl rfl rfl rfl (q_ld Try.isAgg40 rfl rfl) ?_
    refine .cons rfl rfl rfl rfl rfl (q_fieldAddr fa_97_1 rfl) ?_
    exact .nil
  refine gp_frontv (.slice ao ms.length co) ?_
  refine gp_effa 5 [1] [0] rfl rfl rfl rfl rfl rfl rfl (does_appendS 0 (sz := 1) (by_ := 24) (m2 := 1) (news := [Value.slice (some ⟨gC, 0, none⟩) q q]) (m3 := ms.length + 1) (X3 := (ms ++ [(LV.mk (some ⟨gC, 0, none⟩) q q)]).map lvV) Try.underlying40 Try.type29 rfl rfl rfl rfl rfl rfl rfl rfl ⟨rfl, .inl ⟨_, _, _, rfl, .own (mem_getO 1 rfl)⟩⟩ rfl (by omega) (by simp only [maxLen]; omega) rfl (by simp [lvV]) (fun _ _ => rfl)) ?_
  rintro _ _ ⟨a57, c57, h57, rfl, rfl⟩
  refine ⟨?_, ?_⟩
  · refine .cons rfl rfl rfl rfl rfl (q_fieldAddr fa_97_1 rfl) ?_
    exact .nil
  refine gp_quiet 6 rfl rfl rfl rfl rfl rfl (q_fieldAddr fa_97_1 rfl) ?_
  refine gp_effa 7 [0, 6] [] rfl rfl rfl rfl rfl rfl rfl (does_st Try.sizeOf40 rfl rfl rfl rfl) ?_
  rintro _ _ ⟨rfl, rfl⟩
  refine ⟨?_, ?_⟩
  · exact .nil
  refine gp_end rfl rfl ?_
  refine g_seq ?_
  refine g_region ?_
  obtain ⟨g57, rfl⟩ := h57.resolve_left (by omega)
  refine l_move rfl rfl ?_
  refine l_move rfl rfl ?_
  refine l_move rfl rfl ?_
  refine l_move rfl rfl ?_
  refine l_lds rfl Try.isAgg97 Try.sizeOf97 rfl rfl ?_
  refine l_fronto g5 ?_
  refine l_call rfl Try.call55 rfl (rlays_ok _ _ wd dp w1 w2 d1 d2 g5 n n W hW (Nat.le_refl _) hn at_ hi fx ls (some ⟨g57, 0, none⟩) (ms.length + 1) c57 (ms ++ [(LV.mk (some ⟨gC, 0, none⟩) q q)]) (Ts ++ [M]) (by simp) (by omega) (.inr ⟨g57, 0, rfl, .own (E := 29) (sz := 1) (n := ms.length + 1) (cap := c57) (by first | exact mem_getO 0 rfl | exact mem_getO 1 rfl | exact mem_getO 2 rfl | exact mem_getO 3 rfl | exact mem_getO 4 rfl | exact mem_getO 5 rfl | exact mem_getO 6 rfl | exact mem_getO 7 rfl)⟩) (MsRd.snoc (ms_rd (by first | exact List.mem_cons_self .. | exact List.mem_cons_of_mem _ (List.mem_cons_self ..) | exact List.mem_cons_of_mem _ (List.mem_cons_of_mem _ (List.mem_cons_self ..)) | exact List.mem_cons_of_mem _ (List.mem_cons_of_mem _ (List.mem_cons_of_mem _ (List.mem_cons_self ..))) | exact List.mem_cons_of_mem _ (List.mem_cons_of_mem _ (List.mem_cons_of_mem _ (List.mem_cons_of_mem _ (List.mem_cons_self ..)))) | exact List.mem_cons_of_mem _ (List.mem_cons_of_mem _ (List.mem_cons_of_mem _ (List.mem_cons_of_mem _ (List.mem_cons_of_mem _ (List.mem_cons_self ..))))) | exact List.mem_cons_of_mem _ (List.mem_cons_of_mem _ (List.mem_cons_of_mem _ (List.mem_cons_of_mem _ (List.mem_cons_of_mem _ (List.mem_cons_of_mem _ (List.mem_cons_self ..)))))) | exact List.mem_cons_of_mem _ (List.mem_cons_of_mem _ (List.mem_cons_of_mem _ (List.mem_cons_of_mem _ (List.mem_cons_of_mem _ (List.mem_cons_of_mem _ (List.mem_cons_of_mem _ (List.mem_cons_self ..))))))) | exact List.mem_cons_of_mem _ (List.mem_cons_of_mem _ (List.mem_cons_of_mem _ (List.mem_cons_of_mem _ (List.mem_cons_of_mem _ (List.mem_cons_of_mem _ (List.mem_cons_of_mem _ (List.mem_cons_of_mem _ (List.mem_cons_self ..)))))))) | exact List.mem_cons_of_mem _ (List.mem_cons_of_mem _ (List.mem_cons_of_mem _ (List.mem_cons_of_mem _ (List.mem_cons_of_mem _ (List.mem_cons_of_mem _ (List.mem_cons_of_mem _ (List.mem_cons_of_mem _ (List.mem_cons_of_mem _ (List.mem_cons_self ..))))))))) | exact List.mem_cons_of_mem _ (List.mem_cons_of_mem _ (List.mem_cons_of_mem _ (List.mem_cons_of_mem _ (List.mem_cons_of_mem _ (List.mem_cons_of_mem _ (List.mem_cons_of_mem _ (List.mem_cons_of_mem _ (List.mem_cons_of_mem _ (List.mem_cons_of_mem _ (List.mem_cons_self ..)))))))))) | exact List.mem_cons_of_mem _ (List.mem_cons_of_mem _ (List.mem_cons_of_mem _ (List.mem_cons_of_mem _ (List.mem_cons_of_mem _ (List.mem_cons_of_mem _ (List.mem_cons_of_mem _ (List.mem_cons_of_mem _ (List.mem_cons_of_mem _ (List.mem_cons_of_mem _ (List.mem_cons_of_mem _ (List.mem_cons_self ..)))))))))))) hMs hbd.2.2.2) hml ⟨hM.1, .inr ⟨gC, 0, rfl, .own (E := 33) (sz := 1) (n := q) (cap := q) (by first | exact mem_getO 0 rfl | exact mem_getO 1 rfl | exact mem_getO 2 rfl | exact mem_getO 3 rfl | exact mem_getO 4 rfl | exact mem_getO 5 rfl | exact mem_getO 6 rfl | exact mem_getO 7 rfl)⟩⟩ h1 h2)) ?_; rintro _ _ rfl
  refine l_nil ?_
  refine g_seq ?_
  refine g_region ?_
  refine l_move rfl rfl ?_
  refine l_assign rfl rfl ?_
  refine l_assign rfl rfl ?_
  refine l_assign rfl rfl ?_
  refine l_nil ?_
  refine g_ret Try.func35 rfl (.tmp rfl (.tmp rfl (.tmp rfl .nil))) ?_
  (first | exact Gives.mki ⟨g5, n, true, 0, (spl at_.toNat (layN wd dp [((ms.length + 1 : Nat) : Int)] 0 (Ts ++ [M]) (ms.length + 1)) W), rfl, Nat.le_refl _, by rw [spl_length (by rw [layN_len (by omega) _ (put_le hml hM.1 h2 hbd.2.2.2)]; show _ + (1 + _) ≤ _; omega)]; exact hW, rfl, .inr ⟨rfl, rfl, Ts, hR, by omega, by rw [hml]⟩⟩ | exact Gives.mki ⟨g, c, false, e, W, rfl, hc, hW, rfl, .inl ⟨rfl, rfl, by rcases hR with ⟨h3, h4, h5⟩ | ⟨h3, h4⟩; (exact .inl ⟨h3, h5⟩); (have h9 := RowR.bd h4 (by omega); exact .inr ⟨h3, Ts, h4, by omega⟩)⟩⟩)
theorem look_bad (w0 : World) (F : List Atom) (b : Nat) (wd dp at_ : Int) (hq : ¬ QOk wd dp) :
    CallK Try.prog 10 [.pointer (some ⟨b, 0, none⟩), .int .i64 at_, .int .i64 wd, .int .i64 dp] w0 (F) (Gives w0 fun v F2 => v = .tuple #[.slice none 0 0, .bool false, .int .i64 1] ∧ F2 = F) := by
  refine c_enter Try.func10 rfl rfl rfl ?_
  refine g_seq ?_
  refine g_region ?_
  refine l_assign rfl rfl ?_
  refine l_assign rfl rfl ?_
  refine l_assign rfl rfl ?_
  refine l_nil ?_
  refine g_seq ?_
  refine g_region ?_
  refine l_move rfl rfl ?_
  refine l_move rfl rfl ?_
  refine l_move rfl rfl ?_
  refine l_move rfl rfl ?_
  refine l_call rfl Try.call30 rfl (ported_bad _ _ b wd dp at_ hq) ?_; rintro _ F9 ⟨rfl, hF9⟩; rw [hF9]; clear hF9 F9
  refine l_move rfl rfl ?_
  refine l_extract rfl rfl rfl ?_
  refine l_extract rfl rfl rfl ?_
  refine l_extract rfl rfl rfl ?_
  refine l_allocs rfl Try.zeroValue61 ?_; intro b11
  refine l_allocs rfl Try.zeroValue64 ?_; intro b12
  refine l_sts Try.sizeOf61 rfl rfl rfl rfl rfl ?_
  refine l_sts Try.sizeOf64 rfl rfl rfl rfl rfl ?_
  refine l_assign rfl rfl ?_
  refine l_nil ?_
  refine g_seq ?_
  refine g_seq ?_
  refine g_region ?_
  refine l_move rfl rfl ?_
  refine l_neq rfl rfl rfl ?_
  refine l_move rfl rfl ?_
  refine l_split 25 rfl ?_ ?_
  · intro hbr
    have hbr := of_decide_eq_true hbr
    refine l_guard_no rfl rfl rfl ?_
    refine l_guard_no rfl rfl rfl ?_
    refine l_guard_no rfl rfl rfl ?_
    refine l_guard_no rfl rfl rfl ?_
    refine l_pick_t rfl rfl rfl ?_
    refine l_nil ?_
    first | refine g_cond_t rfl ?_ | refine g_cond_t (congrArg (fun b => some (Value.bool b)) (decide_eq_true hbr)) ?_
    refine g_seq ?_
    refine g_region ?_
    refine l_move rfl rfl ?_
    refine l_assign rfl rfl ?_
    refine l_assign rfl rfl ?_
    refine l_assign rfl rfl ?_
    refine l_nil ?_
    refine g_ret Try.func10 rfl (.tmp rfl (.tmp rfl (.tmp rfl .nil))) ?_
    exact Gives.mki ⟨rfl, rfl⟩
  · intro hbr
    have hbr := of_decide_eq_false hbr
    (exfalso; omega)
theorem takeq_bad (w0 : World) (F : List Atom) (b : Nat) (wd dp at_ : Int) (hq : ¬ QOk wd dp) :
    CallK Try.prog 11 [.pointer (some ⟨b, 0, none⟩), .int .i64 at_, .int .i64 wd, .int .i64 dp] w0 (F) (Gives w0 fun v F2 => v = .tuple #[.bool false, .int .i64 1] ∧ F2 = F) := by
  refine c_enter Try.func11 rfl rfl rfl ?_
  refine g_seq ?_
  refine g_region ?_
  refine l_assign rfl rfl ?_
  refine l_assign rfl rfl ?_
  refine l_nil ?_
  refine g_seq ?_
  refine g_region ?_
  refine l_move rfl rfl ?_
  refine l_move rfl rfl ?_
  refine l_move rfl rfl ?_
  refine l_move rfl rfl ?_
  refine l_call rfl Try.call30 rfl (ported_bad _ _ b wd dp at_ hq) ?_; rintro _ F9 ⟨rfl, hF9⟩; rw [hF9]; clear hF9 F9
  refine l_move rfl rfl ?_
  refine l_extract rfl rfl rfl ?_
  refine l_extract rfl rfl rfl ?_
  refine l_extract rfl rfl rfl ?_
  refine l_allocs rfl Try.zeroValue61 ?_; intro b10
  refine l_allocs rfl Try.zeroValue64 ?_; intro b11
  refine l_sts Try.sizeOf61 rfl rfl rfl rfl rfl ?_
  refine l_sts Try.sizeOf64 rfl rfl rfl rfl rfl ?_
  refine l_assign rfl rfl ?_
  refine l_nil ?_
  refine g_seq ?_
  refine g_seq ?_
  refine g_region ?_
  refine l_move rfl rfl ?_
  refine l_neq rfl rfl rfl ?_
  refine l_move rfl rfl ?_
  refine l_split 24 rfl ?_ ?_
  · intro hbr
    have hbr := of_decide_eq_true hbr
    refine l_guard_no rfl rfl rfl ?_
    refine l_guard_no rfl rfl rfl ?_
    refine l_guard_no rfl rfl rfl ?_
    refine l_guard_no rfl rfl rfl ?_
    refine l_pick_t rfl rfl rfl ?_
    refine l_nil ?_
    first | refine g_cond_t rfl ?_ | refine g_cond_t (congrArg (fun b => some (Value.bool b)) (decide_eq_true hbr)) ?_
    refine g_seq ?_
    refine g_region ?_
    refine l_move rfl rfl ?_
    refine l_assign rfl rfl ?_
    refine l_assign rfl rfl ?_
    refine l_nil ?_
    refine g_ret Try.func11 rfl (.tmp rfl (.tmp rfl .nil)) ?_
    exact Gives.mki ⟨rfl, rfl⟩
  · intro hbr
    have hbr := of_decide_eq_false hbr
    (exfalso; omega)
theorem count_bad (w0 : World) (F : List Atom) (b : Nat) (wd dp at_ : Int) (hq : ¬ QOk wd dp) :
    CallK Try.prog 12 [.pointer (some ⟨b, 0, none⟩), .int .i64 at_, .int .i64 wd, .int .i64 dp] w0 (F) (Gives w0 fun v F2 => v = .tuple #[.int .i64 0, .int .u32 0, .int .i64 1] ∧ F2 = F) := by
  refine c_enter Try.func12 rfl rfl rfl ?_
  refine g_seq ?_
  refine g_region ?_
  refine l_assign rfl rfl ?_
  refine l_assign rfl rfl ?_
  refine l_assign rfl rfl ?_
  refine l_nil ?_
  refine g_seq ?_
  refine g_region ?_
  refine l_move rfl rfl ?_
  refine l_move rfl rfl ?_
  refine l_move rfl rfl ?_
  refine l_move rfl rfl ?_
  refine l_call rfl Try.call30 rfl (ported_bad _ _ b wd dp at_ hq) ?_; rintro _ F9 ⟨rfl, hF9⟩; rw [hF9]; clear hF9 F9
  refine l_move rfl rfl ?_
  refine l_extract rfl rfl rfl ?_
  refine l_extract rfl rfl rfl ?_
  refine l_extract rfl rfl rfl ?_
  refine l_allocs rfl Try.zeroValue61 ?_; intro b11
  refine l_allocs rfl Try.zeroValue64 ?_; intro b12
  refine l_sts Try.sizeOf61 rfl rfl rfl rfl rfl ?_
  refine l_sts Try.sizeOf64 rfl rfl rfl rfl rfl ?_
  refine l_assign rfl rfl ?_
  refine l_nil ?_
  refine g_seq ?_
  refine gp_start mo (by kernel_rfl) (by kernel_rfl) ?_
  refine gp_quiet 0 rfl rfl rfl rfl rfl rfl (q_fieldAddr fa_64_2 rfl) ?_
  refine gp_quiet 1 rfl rfl rfl rfl rfl rfl (q_ld Try.isAgg40 rfl rfl) ?_
  refine gp_quiet 2 rfl rfl rfl rfl rfl rfl (q_len Try.underlying40 rfl) ?_
  refine gp_quiet 3 rfl rfl rfl rfl rfl rfl (q_fieldAddr fa_64_1 rfl) ?_
  first | refine gp_quiet 4 rfl rfl rfl rfl rfl rfl (q_ld Try.isAgg33 rfl rfl) ?_ | refine gp_quiet 4 rfl rfl rfl rfl rfl rfl (q_ldw Try.isAgg33 rfl (by omega)) ?_
  refine gp_quiet 5 rfl rfl rfl rfl rfl rfl (q_move rfl) ?_
  refine gp_quiet 6 rfl rfl rfl rfl rfl rfl (q_assign rfl) ?_
  refine gp_quiet 7 rfl rfl rfl rfl rfl rfl (q_assign rfl) ?_
  refine gp_after 8 rfl rfl rfl rfl rfl rfl rfl rfl (q_assign rfl) ?_
  refine gp_end rfl rfl ?_
  refine g_ret Try.func12 rfl (.tmp rfl (.tmp rfl (.tmp rfl .nil))) ?_
  exact Gives.mki ⟨rfl, rfl⟩
noncomputable def stgT (W : List Int) (a : Int) (wd dp : Nat) : List (List Int) := rowT ((stL W a (1 + dp * (1 + wd))).drop 1) wd dp 0 (W.getD a.toNat 0).toNat
noncomputable def prtT (W : List Int) (a : Int) (wd dp : Nat) : List (List Int) := rowT ((stL W a (3 + dp * (1 + wd))).drop 3) wd dp (W.getD a.toNat 0).toNat (W.getD (a.toNat + 1) 0).toNat
theorem StgR.eq {W : List Int} {a : Int} {wd dp : Nat} {Ts : List (List Int)} (h : StgR W a wd dp Ts true) : Ts = stgT W a wd dp := by
  rcases h with ⟨_, _, _, _, h⟩ | ⟨h, _⟩
  · exact h
  · cases h
theorem PrtR.eq {W : List Int} {a : Int} {wd dp : Nat} {Ts : List (List Int)} (h : PrtR W a wd dp Ts true) : Ts = prtT W a wd dp := by
  rcases h.row with ⟨_, _, _, _, h⟩ | ⟨h, _⟩
  · exact h
  · cases h
/-- What a port holds and has lost behind the stage's messages. -/
noncomputable def dlP (W : List Int) (wd dp : Nat) (Ss : List (List Int)) (p : Int) : List (List Int) × Int := delN dp (prtT W p wd dp) (W.getD (p.toNat + 2) 0) Ss Ss.length
/-- The words when so many ports are laid. -/
noncomputable def dlW (W : List Int) (wd dp : Nat) (Ss : List (List Int)) (L : List Int) : Nat → List Int
  | 0 => W
  | i + 1 => spl (L.getD i 0).toNat (portL wd dp (W.getD (L.getD i 0).toNat 0).toNat (dlP W wd dp Ss (L.getD i 0)).2 (dlP W wd dp Ss (L.getD i 0)).1 (dlP W wd dp Ss (L.getD i 0)).1.length) (dlW W wd dp Ss L i)
def RngD (n : Nat) (st : Int) (wd dp : Nat) (L : List Int) : Prop := inR n st ((1 + dp * (1 + wd) : Nat) : Int) ∧ ∀ i, i < L.length → inR n (L.getD i 0) ((3 + dp * (1 + wd) : Nat) : Int)
def FrmD (W : List Int) (st : Int) (wd dp : Nat) (L : List Int) : Prop := (∃ Ts, StgR W st wd dp Ts true) ∧ ∀ i, i < L.length → ∃ Ts, PrtR W (L.getD i 0) wd dp Ts true
/-- The words behind a Deliver. -/
noncomputable def dlZ (W : List Int) (st : Int) (wd dp : Nat) (L : List Int) : List Int := spl st.toNat (layN wd dp [((0 : Nat) : Int)] 0 [] 0) (dlW W wd dp (stgT W st wd dp) L L.length)
def DelA (W : List Int) (n : Nat) (st : Int) (wd dp : Nat) (L : List Int) (e : Int) (W2 : List Int) : Prop :=
  (4 < L.length ∧ e = 2 ∧ W2 = W) ∨ (L.length ≤ 4 ∧ ¬ RngD n st wd dp L ∧ e = 51 ∧ W2 = W) ∨ (L.length ≤ 4 ∧ RngD n st wd dp L ∧ ¬ FrmD W st wd dp L ∧ e = 201 ∧ W2 = W) ∨ (L.length ≤ 4 ∧ RngD n st wd dp L ∧ FrmD W st wd dp L ∧ e = 0 ∧ W2 = dlZ W st wd dp L)
theorem DelA.one {W : List Int} {n : Nat} {st : Int} {wd dp : Nat} {L : List Int} {e e' : Int} {W2 W2' : List Int} (h : DelA W n st wd dp L e W2) (h' : DelA W n st wd dp L e' W2') : e = e' ∧ W2 = W2' := by
  rcases h with ⟨a, b, c⟩ | ⟨a, a2, b, c⟩ | ⟨a, a2, a3, b, c⟩ | ⟨a, a2, a3, b, c⟩ <;> rcases h' with ⟨x, y, z⟩ | ⟨x, x2, y, z⟩ | ⟨x, x2, x3, y, z⟩ | ⟨x, x2, x3, y, z⟩ <;> first | exact ⟨b.trans y.symm, c.trans z.symm⟩ | (exfalso; omega) | (exfalso; contradiction)
theorem fits_any (w0 : World) (F : List Atom) (a : Option Addr) (n c k : Nat) (at_ : Int) (at_0 : -9223372036854775808 ≤ at_) (at_1 : at_ ≤ 9223372036854775807) (hn : n ≤ 1073741824) (hk : k ≤ 1000) : CallK Try.prog 56 [.slice a n c, .int .i64 at_, .int .i64 (k : Int)] w0 F (Gives w0 fun v F2 => ∃ ok : Bool, v = .bool ok ∧ (ok = true ↔ inR n at_ (k : Int)) ∧ F2 = F) := by
  by_cases h : inR n at_ (k : Int)
  · exact (fits_in w0 F a n c k at_ at_0 at_1 hn hk h).gmono fun v F2 ⟨e1, e2⟩ => ⟨true, e1, ⟨fun _ => h, fun _ => rfl⟩, e2⟩
  · exact (fits_out w0 F a n c k at_ at_0 at_1 hn hk h).gmono fun v F2 ⟨e1, e2⟩ => ⟨false, e1, ⟨fun h2 => (nomatch h2), fun h2 => absurd h2 h⟩, e2⟩
theorem delN_le {dp wd : Nat} {Ps Ss : List (List Int)} {ls : Int} (hP : ∀ j, j < Ps.length → (tat Ps j).length ≤ wd) (hS : ∀ j, j < Ss.length → (tat Ss j).length ≤ wd) : ∀ k, k ≤ Ss.length → ∀ j, j < (delN dp Ps ls Ss k).1.length → (tat (delN dp Ps ls Ss k).1 j).length ≤ wd
  | 0, _ => hP
  | k + 1, hk => by
    have ih := delN_le (ls := ls) (dp := dp) hP hS k (by omega)
    simp only [delN]
    split
    · intro j hj
      simp only [List.length_append, List.length_singleton] at hj
      by_cases h : j < (delN dp Ps ls Ss k).1.length
      · rw [tat_init h]; exact ih j h
      · rw [tat_at (show j = _ by omega)]; exact hS k (by omega)
    · exact ih
theorem dlP_le {W : List Int} {wd dp : Nat} {Ss : List (List Int)} {p : Int} (hd : 0 < dp) (hf : ∃ Ts, PrtR W p wd dp Ts true) (hS : ∀ j, j < Ss.length → (tat Ss j).length ≤ wd) : ∀ j, j < (dlP W wd dp Ss p).1.length → (tat (dlP W wd dp Ss p).1 j).length ≤ wd := by
  obtain ⟨Ts, h⟩ := hf
  have hb := (RowR.bd h.row hd).2.2.2
  rw [h.eq] at hb
  exact delN_le (fun j hj => (hb j hj).2) hS _ (Nat.le_refl _)
theorem dlW_len {W : List Int} {n wd dp : Nat} {Ss : List (List Int)} {L : List Int} (hd : 0 < dp) (hW : W.length = n) (hr : ∀ i, i < L.length → inR n (L.getD i 0) ((3 + dp * (1 + wd) : Nat) : Int)) (hf : ∀ i, i < L.length → ∃ Ts, PrtR W (L.getD i 0) wd dp Ts true) (hS : ∀ j, j < Ss.length → (tat Ss j).length ≤ wd) : ∀ i, i ≤ L.length → (dlW W wd dp Ss L i).length = n
  | 0, _ => hW
  | i + 1, h => by
    have ih := dlW_len hd hW hr hf hS i (by omega)
    have h1 := hr i (by omega)
    unfold inR at h1
    simp only [dlW]
    rw [spl_length (by
      rw [portL_len hd (fun j hj => dlP_le hd (hf i (by omega)) hS j hj)]
      omega)]
    exact ih
set_option maxHeartbeats 8000000 in
theorem rdel_ok (w0 : World) (F : List Atom) (wd dp : Nat) (w1 : 1 ≤ wd) (w2 : wd ≤ 16) (d1 : 1 ≤ dp) (d2 : dp ≤ 8) (g n c : Nat) (W : List Int) (hW : W.length = n) (hc : n ≤ c) (hn : n ≤ 1073741824) (hU : W32s W) (st : Int) (st0 : -9223372036854775808 ≤ st) (st1 : st ≤ 9223372036854775807) (la : Option Addr) (ln lc : Nat) (L : List Int) (hL : IR w0 F .i64 la ln L) (hLb : ∀ i, -9223372036854775808 ≤ L.getD i 0 ∧ L.getD i 0 ≤ 9223372036854775807) (hln : ln ≤ 9223372036854775807) :
    CallK Try.prog 40 [.slice (some ⟨g, 0, none⟩) n c, .int .i64 st, .int .i64 (wd : Int), .int .i64 (dp : Int), .slice la ln lc] w0 (Own 33 1 (.slice (some ⟨g, 0, none⟩) n c) n (ints .u32 W) :: F) (Gives w0 fun v F2 => ∃ g2 c2 e W2, v = .tuple #[.slice (some ⟨g2, 0, none⟩) n c2, .int .i64 e] ∧ n ≤ c2 ∧ W2.length = n ∧ F2 = Own 33 1 (.slice (some ⟨g2, 0, none⟩) n c2) n (ints .u32 W2) :: F ∧ DelA W n st wd dp L e W2) := by
  have hpw := pw_bd w1 w2 d1 d2
  have hLn := hL.1
  refine c_enter Try.func40 rfl rfl rfl ?_
  refine g_seq ?_
  refine g_region ?_
  refine l_assign rfl rfl ?_
  refine l_assign rfl rfl ?_
  refine l_nil ?_
  refine g_seq ?_
  refine g_seq ?_
  refine g_region ?_
  refine l_move rfl rfl ?_
  refine l_move rfl rfl ?_
  refine l_call rfl Try.call52 rfl (bounds_ok _ _ wd dp w1 w2 d1 d2) ?_; rintro _ F9 ⟨rfl, hF9⟩; rw [hF9]; clear hF9 F9
  refine l_not rfl rfl ?_
  refine l_nil ?_
  first | refine g_cond_f rfl ?_ | refine g_cond_f (congrArg (fun b => some (Value.bool b)) (decide_eq_false hbr)) ?_
  refine g_skip ?_
  refine g_seq ?_
  refine g_seq ?_
  refine g_region ?_
  refine l_move rfl rfl ?_
  refine l_len rfl Try.underlying52 rfl ?_
  refine l_gtr rfl rfl rfl ?_
  refine l_nil ?_
  refine g_cond rfl ?_ ?_
  · intro hbr
    have hbr := of_decide_eq_true hbr
    refine g_seq ?_
    refine g_region ?_
    refine l_move rfl rfl ?_
    refine l_assign rfl rfl ?_
    refine l_assign rfl rfl ?_
    refine l_nil ?_
    refine g_ret Try.func40 rfl (.tmp rfl (.tmp rfl .nil)) ?_
    exact Gives.mki ⟨g, c, 2, W, rfl, hc, hW, rfl, .inl ⟨by omega, rfl, rfl⟩⟩
  intro hbr
  have hbr := of_decide_eq_false hbr
  refine g_skip ?_
  refine g_seq ?_
  refine g_seq ?_
  refine g_region ?_
  refine l_move rfl rfl ?_
  refine l_move rfl rfl ?_
  refine l_move rfl rfl ?_
  refine l_move rfl rfl ?_
  refine l_call rfl Try.call32 rfl (stw_ok _ _ wd dp w1 w2 d1 d2) ?_; rintro _ F9 ⟨rfl, hF9⟩; rw [hF9]; clear hF9 F9
  refine l_call rfl Try.call56 rfl (fits_any _ _ _ n c (1 + dp * (1 + wd)) st st0 st1 hn (by omega)) ?_; rintro _ F9 ⟨okS, rfl, hokS, hF9⟩; rw [hF9]; clear hF9 F9
  refine l_not rfl rfl ?_
  refine l_nil ?_
  refine g_cond rfl ?_ ?_
  · intro hbr
    have hb38 := hbr
    refine g_seq ?_
    refine g_region ?_
    refine l_move rfl rfl ?_
    refine l_assign rfl rfl ?_
    refine l_assign rfl rfl ?_
    refine l_nil ?_
    refine g_ret Try.func40 rfl (.tmp rfl (.tmp rfl .nil)) ?_
    exact Gives.mki ⟨g, c, 51, W, rfl, hc, hW, rfl, .inr (.inl ⟨by omega, fun h => by have h9 := hokS.2 h.1; simp [h9] at hbr, rfl, rfl⟩)⟩
  intro hbr
  have hb38 := hbr
  refine g_skip ?_
  refine g_seq ?_
  refine g_seq ?_
  refine g_region ?_
  have hs : inR n st ((1 + dp * (1 + wd) : Nat) : Int) := hokS.1 (by simpa using hbr)
  refine l_assign rfl rfl ?_
  refine l_nil ?_
  refine g_block ?_
  refine g_loopc (X := Int) [(0, _), (1, _), (2, _), (3, _), (4, _)] (.cons rfl (.cons rfl (.cons rfl (.cons rfl (.cons rfl (.nil)))))) (fun i => 0 ≤ i ∧ i ≤ ln ∧ ∀ j : Nat, (j : Int) < i → inR n (L.getD j 0) ((3 + dp * (1 + wd) : Nat) : Int)) (fun i => ((ln : Int) - i).toNat) (fun i => [(12, .int .i64 i)]) (0) (⟨by omega, by omega, fun j hj => by omega⟩) (.cons rfl .nil) ?_
  rintro i ⟨i0, i1, hrn⟩ ih
  dsimp only [List.cons_append, List.nil_append] at ih ⊢
  refine g_seq ?_
  refine g_seq ?_
  refine g_region ?_
  refine l_move rfl rfl ?_
  refine l_move rfl rfl ?_
  refine l_len rfl Try.underlying52 rfl ?_
  refine l_lss rfl rfl rfl ?_
  refine l_nil ?_
  refine g_cond rfl ?_ ?_
  · intro hbr
    have hbr := of_decide_eq_true hbr
    refine g_skip ?_
    refine g_seq ?_
    refine g_block ?_
    refine g_seq ?_
    refine gp_start mo (by kernel_rfl) (by kernel_rfl) ?_
    refine gp_quiet 0 rfl rfl rfl rfl rfl rfl (q_move rfl) ?_
    refine gp_quiet 1 rfl rfl rfl rfl rfl rfl (q_move rfl) ?_
    refine gp_quiet 2 rfl rfl rfl rfl rfl rfl (q_move rfl) ?_
    obtain ⟨bL, oL, rfl, hrL⟩ := hL.some (i := i.toNat) (by omega)
    have hp1 := hLb i.toNat
    refine gp_quiet 3 rfl rfl rfl rfl rfl rfl (q_ixs Try.underlying52 Try.sizeOf3 rfl rfl (by omega) (by omega)) ?_
    refine gp_quiet 4 rfl rfl rfl rfl rfl rfl (q_loadc (v := .int .i64 (L.getD i.toNat 0)) Try.isAgg3 rfl (word_any hrL (by omega))) ?_
    refine gp_quiet 5 rfl rfl rfl rfl rfl rfl (q_move rfl) ?_
    refine gp_quiet 6 rfl rfl rfl rfl rfl rfl (q_move rfl) ?_
    refine gp_effa 7 [5, 6] [4, 3, 2, 1, 0] rfl rfl rfl rfl rfl rfl rfl (does_call Try.call33 rfl (ptw_ok _ _ wd dp w1 w2 d1 d2)) ?_
    rintro _ F9 ⟨rfl, hF9⟩; rw [hF9]; clear hF9 F9
    refine ⟨?_, ?_⟩
    · refine .cons rfl rfl rfl rfl rfl (q_loadc (v := .int .i64 (L.getD i.toNat 0)) Try.isAgg3 rfl (word_any hrL (by omega))) ?_
      refine .cons rfl rfl rfl rfl rfl (q_ixs Try.underlying52 Try.sizeOf3 rfl rfl (by omega) (by omega)) ?_
      refine .cons rfl rfl rfl rfl rfl (q_move rfl) ?_
      refine .cons rfl rfl rfl rfl rfl (q_move rfl) ?_
      refine .cons rfl rfl rfl rfl rfl (q_move rfl) ?_
      exact .nil
    refine gp_effa 8 [0, 4] [3, 2, 1] rfl rfl rfl rfl rfl rfl rfl (does_call Try.call56 rfl (fits_any _ _ _ n c (3 + dp * (1 + wd)) (L.getD i.toNat 0) hp1.1 hp1.2 hn (by omega))) ?_
    rintro _ F9 ⟨okP, rfl, hokP, hF9⟩; rw [hF9]; clear hF9 F9
    refine ⟨?_, ?_⟩
    · refine .cons rfl rfl rfl rfl rfl (q_ixs Try.underlying52 Try.sizeOf3 rfl rfl (by omega) (by omega)) ?_
      refine .cons rfl rfl rfl rfl rfl (q_move rfl) ?_
      refine .cons rfl rfl rfl rfl rfl (q_move rfl) ?_
      exact .nil
    refine gp_quiet 9 rfl rfl rfl rfl rfl rfl (q_not rfl) ?_
    refine gp_end rfl rfl ?_
    refine g_cond rfl ?_ ?_
    · intro hbr
      have hb55 := hbr
      refine g_seq ?_
      refine g_region ?_
      refine l_move rfl rfl ?_
      refine l_assign rfl rfl ?_
      refine l_assign rfl rfl ?_
      refine l_nil ?_
      refine g_ret Try.func40 rfl (.tmp rfl (.tmp rfl .nil)) ?_
      exact Gives.mki ⟨g, c, 51, W, rfl, hc, hW, rfl, .inr (.inl ⟨by omega, fun h => by have h9 := hokP.2 (h.2 i.toNat (by omega)); simp [h9] at hbr, rfl, rfl⟩)⟩
    intro hbr
    have hb55 := hbr
    refine g_skip ?_
    refine g_inBlock ?_
    refine g_region ?_
    have hok9 : okP = true := by simpa using hbr
    refine l_move rfl rfl ?_
    first | refine l_add rfl rfl rfl (w_i64 (by omega) (by omega)) ?_ | refine l_addw rfl rfl rfl ?_
    refine l_assign rfl rfl ?_
    refine l_nil ?_
    exact g_againi (ih (i + 1) ⟨by omega, by omega, fun j hj => by rcases (show (j : Int) < i ∨ j = i.toNat by omega) with h | rfl; exact hrn j h; exact hokP.1 hok9⟩ (by omega)) (.cons rfl (.cons rfl (.cons rfl (.cons rfl (.cons rfl (.cons rfl (.nil)))))))
  intro hbr
  have hbr := of_decide_eq_false hbr
  refine g_exit rfl ?_
  obtain rfl : i = (ln : Int) := by omega
  have hrg : ∀ j, j < L.length → inR n (L.getD j 0) ((3 + dp * (1 + wd) : Nat) : Int) := fun j hj => hrn j (by omega)
  refine g_seq ?_
  refine g_region ?_
  refine l_move rfl rfl ?_
  refine l_move rfl rfl ?_
  refine l_move rfl rfl ?_
  refine l_move rfl rfl ?_
  refine l_call rfl Try.call53 rfl (rstage_in _ _ wd dp w1 w2 d1 d2 g 0 n c W ⟨hW, .own (by first | exact mem_getO 0 rfl | exact mem_getO 1 rfl | exact mem_getO 2 rfl | exact mem_getO 3 rfl | exact mem_getO 4 rfl | exact mem_getO 5 rfl | exact mem_getO 6 rfl | exact mem_getO 7 rfl | exact mem_getO 8 rfl | exact mem_getO 9 rfl | exact mem_getO 10 rfl | exact mem_getO 11 rfl | exact mem_getO 12 rfl | exact mem_getO 13 rfl | exact mem_getO 14 rfl | exact mem_getO 15 rfl), hU⟩ hn st hs) ?_; rintro _ _ ⟨fx, ao, co, ms, Ts, lsS, e, rfl, rfl, hMs, hao, hR⟩
  have hml := hMs.1
  refine l_move rfl rfl ?_
  refine l_extract rfl rfl rfl ?_
  refine l_extract rfl rfl rfl ?_
  refine l_allocs rfl Try.zeroValue97 ?_; intro b13
  refine l_sts Try.sizeOf97 rfl rfl rfl rfl rfl ?_
  refine l_assign rfl rfl ?_
  refine l_nil ?_
  refine g_seq ?_
  refine g_seq ?_
  refine g_region ?_
  refine l_move rfl rfl ?_
  refine l_neq rfl rfl rfl ?_
  refine l_nil ?_
  refine g_cond rfl ?_ ?_
  · intro hbr
    have hbr := of_decide_eq_true hbr
    refine g_seq ?_
    refine g_region ?_
    refine l_move rfl rfl ?_
    refine l_move rfl rfl ?_
    refine l_assign rfl rfl ?_
    refine l_assign rfl rfl ?_
    refine l_nil ?_
    refine g_ret Try.func40 rfl (.tmp rfl (.tmp rfl .nil)) ?_
    have h201 : e = 201 ∧ StgR W st wd dp [] false := by rcases hR with ⟨h1, _, h2⟩ | ⟨h, _⟩; exact ⟨h1, h2⟩; omega
    exact Gives.mki ⟨g, c, e, W, rfl, hc, hW, rfl, .inr (.inr (.inl ⟨by omega, ⟨hs, hrg⟩, (fun h => by obtain ⟨Tx, hTx⟩ := h.1; have h9 := (RowR.same hTx h201.2).2; cases h9), h201.1, rfl⟩))⟩
  intro hbr
  have hbr := of_decide_eq_false hbr
  refine g_skip ?_
  refine g_seq ?_
  refine g_seq ?_
  refine g_region ?_
  have hR0 : e = 0 ∧ StgR W st wd dp Ts true := by rcases hR with ⟨h, _⟩ | h; omega; exact h
  clear hR
  obtain ⟨rfl, hR⟩ := hR0
  have hbd := RowR.bd hR (by omega)
  have hl1 := hbd.1
  have hl2 := hbd.2.1
  refine l_assign rfl rfl ?_
  refine l_nil ?_
  refine g_block ?_
  refine g_loopk (X := Int) [(0, _), (1, _), (2, _), (3, _), (4, _), (13, _)] (.cons rfl (.cons rfl (.cons rfl (.cons rfl (.cons rfl (.cons rfl (.nil))))))) (fun i => 0 ≤ i ∧ i ≤ ln ∧ ∀ j : Nat, (j : Int) < i → ∃ Ts, PrtR W (L.getD j 0) wd dp Ts true) (fun i => ((ln : Int) - i).toNat) (fun i => [(15, .int .i64 i)]) (fun i => Blk b13 (.cells [Value.int .i64 fx, .slice ao ms.length co, .int .u32 lsS].toArray 97 (0, 0)) :: Own 29 1 (.slice ao ms.length co) ms.length (ms.map lvV) :: BigF ms.length (fun j => Own 33 1 (.slice (lat ms j).a (lat ms j).n (lat ms j).c) (lat ms j).n (ints .u32 (tat Ts j))) :: Own 33 1 (.slice (some ⟨g, 0, none⟩) n c) n (ints .u32 W) :: F) (0) (⟨by omega, by omega, fun j hj => by omega⟩) (.cons rfl .nil) ((fun w hw => SPI.holds hw)) ?_
  rintro i ⟨i0, i1, hfn⟩ ihp
  dsimp only [List.cons_append, List.nil_append] at ihp ⊢
  refine g_seq ?_
  refine g_seq ?_
  refine g_region ?_
  refine l_move rfl rfl ?_
  refine l_move rfl rfl ?_
  refine l_len rfl Try.underlying52 rfl ?_
  refine l_lss rfl rfl rfl ?_
  refine l_nil ?_
  refine g_cond rfl ?_ ?_
  · intro hbr
    have hbr := of_decide_eq_true hbr
    refine g_skip ?_
    refine g_seq ?_
    refine g_block ?_
    refine g_seq ?_
    refine g_region ?_
    refine l_move rfl rfl ?_
    refine l_move rfl rfl ?_
    refine l_move rfl rfl ?_
    obtain ⟨bL, oL, rfl, hrL⟩ := hL.some (i := i.toNat) (by omega)
    have hp1 := hLb i.toNat
    refine l_ixs rfl Try.underlying52 Try.sizeOf3 rfl rfl (by omega) (by omega) ?_
    refine l_loadc (v := .int .i64 (L.getD i.toNat 0)) rfl Try.isAgg3 rfl (word_any hrL (by omega)) ?_
    refine l_move rfl rfl ?_
    refine l_move rfl rfl ?_
    refine l_call rfl Try.call57 rfl (rport_in _ _ wd dp w1 w2 d1 d2 g 0 n c W ⟨hW, .own (by first | exact mem_getO 0 rfl | exact mem_getO 1 rfl | exact mem_getO 2 rfl | exact mem_getO 3 rfl | exact mem_getO 4 rfl | exact mem_getO 5 rfl | exact mem_getO 6 rfl | exact mem_getO 7 rfl | exact mem_getO 8 rfl | exact mem_getO 9 rfl | exact mem_getO 10 rfl | exact mem_getO 11 rfl | exact mem_getO 12 rfl | exact mem_getO 13 rfl | exact mem_getO 14 rfl | exact mem_getO 15 rfl), hU⟩ hn (L.getD i.toNat 0) (hrg i.toNat (by omega))) ?_; rintro _ _ ⟨fi, ao2, co2, ms2, Ts2, ls2, e2, rfl, rfl, hMs2, hao2, hR2⟩
    have hml2 := hMs2.1
    refine l_move rfl rfl ?_
    refine l_extract rfl rfl rfl ?_
    refine l_extract rfl rfl rfl ?_
    refine l_allocs rfl Try.zeroValue97 ?_; intro b16
    refine l_sts Try.sizeOf97 rfl rfl rfl rfl rfl ?_
    refine l_assign rfl rfl ?_
    refine l_nil ?_
    refine g_seq ?_
    refine g_region ?_
    refine l_move rfl rfl ?_
    refine l_neq rfl rfl rfl ?_
    refine l_nil ?_
    refine g_cond rfl ?_ ?_
    · intro hbr
      have hbr := of_decide_eq_true hbr
      refine g_seq ?_
      refine g_region ?_
      refine l_move rfl rfl ?_
      refine l_move rfl rfl ?_
      refine l_assign rfl rfl ?_
      refine l_assign rfl rfl ?_
      refine l_nil ?_
      refine g_ret Try.func40 rfl (.tmp rfl (.tmp rfl .nil)) ?_
      have h201 : e2 = 201 ∧ ∃ Tz, PrtR W (L.getD i.toNat 0) wd dp Tz false := by rcases hR2 with ⟨h1, _, _, _, h2⟩ | ⟨h, _⟩; exact ⟨h1, h2⟩; omega
      exact Gives.mki ⟨g, c, e2, W, rfl, hc, hW, rfl, .inr (.inr (.inl ⟨by omega, ⟨hs, hrg⟩, (fun h => by obtain ⟨Tx, hTx⟩ := h.2 i.toNat (by omega); obtain ⟨Tz, hTz⟩ := h201.2; have h9 := (PrtR.same hTx hTz).2; cases h9), h201.1, rfl⟩))⟩
    intro hbr
    have hbr := of_decide_eq_false hbr
    refine g_skip ?_
    refine g_inBlock ?_
    refine g_region ?_
    refine l_move rfl rfl ?_
    first | refine l_add rfl rfl rfl (w_i64 (by omega) (by omega)) ?_ | refine l_addw rfl rfl rfl ?_
    refine l_assign rfl rfl ?_
    refine l_nil ?_
    exact g_againi (ihp (i + 1) ⟨by omega, by omega, fun j hj => by rcases (show (j : Int) < i ∨ j = i.toNat by omega) with h | rfl; exact hfn j h; (rcases hR2 with ⟨h, _⟩ | ⟨_, h, _⟩; (exfalso; omega); exact ⟨_, h⟩)⟩ (by omega)) (.cons rfl (.cons rfl (.cons rfl (.cons rfl (.cons rfl (.cons rfl (.cons rfl (.nil))))))))
  intro hbr
  have hbr := of_decide_eq_false hbr
  refine g_exit rfl ?_
  obtain rfl : i = (ln : Int) := by omega
  have hfr : ∀ j, j < L.length → ∃ Ts, PrtR W (L.getD j 0) wd dp Ts true := fun j hj => hfn j (by omega)
  refine g_seq ?_
  refine g_region ?_
  refine l_move rfl rfl ?_
  refine l_call rfl Try.call54 rfl (copied_ok _ _ g 0 n c W ⟨hW, .own (by first | exact mem_getO 0 rfl | exact mem_getO 1 rfl | exact mem_getO 2 rfl | exact mem_getO 3 rfl | exact mem_getO 4 rfl | exact mem_getO 5 rfl | exact mem_getO 6 rfl | exact mem_getO 7 rfl | exact mem_getO 8 rfl | exact mem_getO 9 rfl | exact mem_getO 10 rfl | exact mem_getO 11 rfl | exact mem_getO 12 rfl | exact mem_getO 13 rfl | exact mem_getO 14 rfl | exact mem_getO 15 rfl), hU⟩ hn) ?_; rintro _ _ ⟨g91, rfl, rfl⟩
  refine l_assign rfl rfl ?_
  refine l_nil ?_
  refine g_seq ?_
  refine g_seq ?_
  refine g_region ?_
  refine l_assign rfl rfl ?_
  refine l_nil ?_
  refine g_block ?_
  refine g_loopk (X := Int) [(0, _), (1, _), (2, _), (3, _), (4, _), (13, _), (18, _)] (.cons rfl (.cons rfl (.cons rfl (.cons rfl (.cons rfl (.cons rfl (.cons rfl (.nil)))))))) (fun i => 0 ≤ i ∧ i ≤ ln) (fun i => ((ln : Int) - i).toNat) (fun i => [(19, .int .i64 i)]) (fun i => Own 33 1 (.slice (some ⟨g91, 0, none⟩) n n) n (ints .u32 (dlW W wd dp Ts L i.toNat)) :: Blk b13 (.cells [Value.int .i64 fx, .slice ao ms.length co, .int .u32 lsS].toArray 97 (0, 0)) :: Own 29 1 (.slice ao ms.length co) ms.length (ms.map lvV) :: BigF ms.length (fun j => Own 33 1 (.slice (lat ms j).a (lat ms j).n (lat ms j).c) (lat ms j).n (ints .u32 (tat Ts j))) :: Own 33 1 (.slice (some ⟨g, 0, none⟩) n c) n (ints .u32 W) :: F) (0) (⟨by omega, by omega⟩) (.cons rfl .nil) ((fun w hw => by rw [show dlW W wd dp Ts L (0 : Int).toNat = W from rfl]; exact SPI.holds hw)) ?_
  rintro i ⟨i0, i1⟩ ihq
  dsimp only [List.cons_append, List.nil_append] at ihq ⊢
  have hdwl := dlW_len (Ss := Ts) (by omega) hW hrg hfr (fun j hj => (hbd.2.2.2 j hj).2) i.toNat (by omega)
  refine g_seq ?_
  refine g_seq ?_
  refine g_region ?_
  refine l_move rfl rfl ?_
  refine l_move rfl rfl ?_
  refine l_len rfl Try.underlying52 rfl ?_
  refine l_lss rfl rfl rfl ?_
  refine l_nil ?_
  refine g_cond rfl ?_ ?_
  · intro hbr
    have hbr := of_decide_eq_true hbr
    refine g_skip ?_
    refine g_seq ?_
    refine g_block ?_
    refine g_seq ?_
    refine g_region ?_
    refine l_move rfl rfl ?_
    refine l_move rfl rfl ?_
    refine l_move rfl rfl ?_
    obtain ⟨bL, oL, rfl, hrL⟩ := hL.some (i := i.toNat) (by omega)
    have hp1 := hLb i.toNat
    refine l_ixs rfl Try.underlying52 Try.sizeOf3 rfl rfl (by omega) (by omega) ?_
    refine l_loadc (v := .int .i64 (L.getD i.toNat 0)) rfl Try.isAgg3 rfl (word_any hrL (by omega)) ?_
    refine l_move rfl rfl ?_
    refine l_move rfl rfl ?_
    refine l_call rfl Try.call57 rfl (rport_in _ _ wd dp w1 w2 d1 d2 g 0 n c W ⟨hW, .own (by first | exact mem_getO 0 rfl | exact mem_getO 1 rfl | exact mem_getO 2 rfl | exact mem_getO 3 rfl | exact mem_getO 4 rfl | exact mem_getO 5 rfl | exact mem_getO 6 rfl | exact mem_getO 7 rfl | exact mem_getO 8 rfl | exact mem_getO 9 rfl | exact mem_getO 10 rfl | exact mem_getO 11 rfl | exact mem_getO 12 rfl | exact mem_getO 13 rfl | exact mem_getO 14 rfl | exact mem_getO 15 rfl), hU⟩ hn (L.getD i.toNat 0) (hrg i.toNat (by omega))) ?_; rintro _ _ ⟨fi, ao2, co2, ms2, Ts2, ls2, e2, rfl, rfl, hMs2, hao2, hR2⟩
    have hml2 := hMs2.1
    refine l_move rfl rfl ?_
    refine l_extract rfl rfl rfl ?_
    refine l_extract rfl rfl rfl ?_
    refine l_allocs rfl Try.zeroValue97 ?_; intro b20
    refine l_sts Try.sizeOf97 rfl rfl rfl rfl rfl ?_
    refine l_assign rfl rfl ?_
    refine l_nil ?_
    refine g_seq ?_
    refine g_seq ?_
    refine g_region ?_
    obtain ⟨Tx, hTx⟩ := hfr i.toNat (by omega)
    have hR20 : e2 = 0 ∧ PrtR W (L.getD i.toNat 0) wd dp Ts2 true ∧ fi = W.getD (L.getD i.toNat 0).toNat 0 ∧ ls2 = W.getD ((L.getD i.toNat 0).toNat + 2) 0 := by rcases hR2 with ⟨_, _, _, _, T3, h3⟩ | h; exact absurd (PrtR.same hTx h3).2 (by simp); exact h
    clear hR2
    obtain ⟨rfl, hP, hfi, hls2⟩ := hR20
    have hTe2 := hP.eq
    have hbd2 := RowR.bd hP.row (by omega)
    have hq1 := hbd2.1
    have hq2 := hbd2.2.1
    have hq3 := hbd2.2.2.1
    have hlb2 := hU ((L.getD i.toNat 0).toNat + 2)
    rw [← hls2] at hlb2
    obtain ⟨fn, efn⟩ := Int.eq_ofNat_of_zero_le (hU (L.getD i.toNat 0).toNat).1
    rw [efn] at hfi hq3
    rw [Int.toNat_natCast] at hq3
    subst hfi
    refine l_assign rfl rfl ?_
    refine l_nil ?_
    refine g_block ?_
    refine g_loopk (X := Int × Option Addr × Nat × List LV × List (List Int) × Int) [(0, _), (1, _), (2, _), (3, _), (4, _), (13, _), (18, _), (19, _), (20, _), (92, _), (93, _), (94, _), (95, _), (98, _), (99, _), (100, _), (101, _), (102, _), (103, _), (104, _), (105, _), (106, _), (107, _), (108, _)] (.cons rfl (.cons rfl (.cons rfl (.cons rfl (.cons rfl (.cons rfl (.cons rfl (.cons rfl (.cons rfl (.cons rfl (.cons rfl (.cons rfl (.cons rfl (.cons rfl (.cons rfl (.cons rfl (.cons rfl (.cons rfl (.cons rfl (.cons rfl (.cons rfl (.cons rfl (.cons rfl (.cons rfl (.nil))))))))))))))))))))))))) (fun z => 0 ≤ z.1 ∧ z.1 ≤ ms.length ∧ delN dp Ts2 ls2 Ts z.1.toNat = (z.2.2.2.2.1, z.2.2.2.2.2) ∧ z.2.2.2.1.length = z.2.2.2.2.1.length ∧ z.2.2.2.2.1.length ≤ dp ∧ MsRd w0 [BigF ms.length (fun j => Own 33 1 (.slice (lat ms j).a (lat ms j).n (lat ms j).c) (lat ms j).n (ints .u32 (tat Ts j))), BigF ms2.length (fun j => Own 33 1 (.slice (lat ms2 j).a (lat ms2 j).n (lat ms2 j).c) (lat ms2 j).n (ints .u32 (tat Ts2 j)))] wd z.2.2.2.1 z.2.2.2.2.1 ∧ (z.2.2.2.1.length = 0 ∨ ∃ g, z.2.1 = some ⟨g, 0, none⟩) ∧ 0 ≤ z.2.2.2.2.2 ∧ z.2.2.2.2.2 ≤ 4294967295) (fun z => (ms.length - z.1).toNat) (fun z => [(22, .int .i64 z.1)]) (fun z => Blk b20 (.cells [Value.int .i64 (fn : Int), .slice z.2.1 z.2.2.2.1.length z.2.2.1, .int .u32 z.2.2.2.2.2].toArray 97 (0, 0)) :: Own 29 1 (.slice z.2.1 z.2.2.2.1.length z.2.2.1) z.2.2.2.1.length (z.2.2.2.1.map lvV) :: Own 29 1 (.slice ao ms.length co) ms.length (ms.map lvV) :: BigF ms.length (fun j => Own 33 1 (.slice (lat ms j).a (lat ms j).n (lat ms j).c) (lat ms j).n (ints .u32 (tat Ts j))) :: BigF ms2.length (fun j => Own 33 1 (.slice (lat ms2 j).a (lat ms2 j).n (lat ms2 j).c) (lat ms2 j).n (ints .u32 (tat Ts2 j))) :: Own 33 1 (.slice (some ⟨g91, 0, none⟩) n n) n (ints .u32 (dlW W wd dp Ts L i.toNat)) :: Blk b13 (.cells [Value.int .i64 fx, .slice ao ms.length co, .int .u32 lsS].toArray 97 (0, 0)) :: Own 33 1 (.slice (some ⟨g, 0, none⟩) n c) n (ints .u32 W) :: F) ((0, ao2, co2, ms2, Ts2, ls2)) (⟨by simp only; omega, by simp only; omega, rfl, hml2, by simp only; omega, ms_rd (List.mem_cons_of_mem _ (List.mem_cons_self ..)) hMs2 hbd2.2.2.2, hao2, hlb2.1, hlb2.2⟩) (.cons rfl .nil) ((fun w hw => SPI.holds (F' := Blk b20 (.cells [Value.int .i64 (fn : Int), .slice ao2 ms2.length co2, .int .u32 ls2].toArray 97 (0, 0)) :: Own 29 1 (.slice ao2 ms2.length co2) ms2.length (ms2.map lvV) :: Own 29 1 (.slice ao ms.length co) ms.length (ms.map lvV) :: BigF ms.length (fun j => Own 33 1 (.slice (lat ms j).a (lat ms j).n (lat ms j).c) (lat ms j).n (ints .u32 (tat Ts j))) :: BigF ms2.length (fun j => Own 33 1 (.slice (lat ms2 j).a (lat ms2 j).n (lat ms2 j).c) (lat ms2 j).n (ints .u32 (tat Ts2 j))) :: Own 33 1 (.slice (some ⟨g91, 0, none⟩) n n) n (ints .u32 (dlW W wd dp Ts L i.toNat)) :: Blk b13 (.cells [Value.int .i64 fx, .slice ao ms.length co, .int .u32 lsS].toArray 97 (0, 0)) :: Own 33 1 (.slice (some ⟨g, 0, none⟩) n c) n (ints .u32 W) :: F) hw)) ?_
    rintro ⟨k, aR, cR, mR, TR, lR⟩ ⟨k0, k1, hdl, hlen, hle, hrd, haR, l0, l1⟩ ihk
    dsimp only [List.cons_append, List.nil_append] at ihk ⊢
    simp only at k0 k1 hdl hlen hle hrd haR l0 l1
    refine g_seq ?_
    refine g_seq ?_
    refine g_region ?_
    refine l_move rfl rfl ?_
    refine l_fieldAddr rfl fa_97_1 rfl ?_
    refine l_ld rfl Try.isAgg40 rfl rfl ?_
    refine l_len rfl Try.underlying40 rfl ?_
    refine l_lss rfl rfl rfl ?_
    refine l_nil ?_
    refine g_cond rfl ?_ ?_
    · intro hbr
      have hbr := of_decide_eq_true hbr
      refine g_skip ?_
      refine g_seq ?_
      refine g_block ?_
      refine g_seq ?_
      refine g_region ?_
      refine l_fieldAddr rfl fa_97_1 rfl ?_
      refine l_ld rfl Try.isAgg40 rfl rfl ?_
      refine l_len rfl Try.underlying40 rfl ?_
      refine l_move rfl rfl ?_
      refine l_lss rfl rfl rfl ?_
      refine l_nil ?_
      refine g_cond rfl ?_ ?_
      · intro hbr
        have hbr := of_decide_eq_true hbr
        refine gp_start mo (by kernel_rfl) (by kernel_rfl) ?_
        obtain ⟨gs, rfl⟩ := hao.resolve_left (by omega)
        have hk1 := ms_rd (w0 := w0) (F := [BigF ms.length (fun j => Own 33 1 (.slice (lat ms j).a (lat ms j).n (lat ms j).c) (lat ms j).n (ints .u32 (tat Ts j))), BigF ms2.length (fun j => Own 33 1 (.slice (lat ms2 j).a (lat ms2 j).n (lat ms2 j).c) (lat ms2 j).n (ints .u32 (tat Ts2 j)))]) (List.mem_cons_self ..) hMs hbd.2.2.2 k.toNat (by omega)
        refine gp_quiet 0 rfl rfl rfl rfl rfl rfl (q_fieldAddr fa_97_1 rfl) ?_
        refine gp_quiet 1 rfl rfl rfl rfl rfl rfl (q_ld Try.isAgg40 rfl rfl) ?_
        refine gp_quiet 2 rfl rfl rfl rfl rfl rfl (q_fieldAddr fa_97_1 rfl) ?_
        refine gp_quiet 3 rfl rfl rfl rfl rfl rfl (q_ld Try.isAgg40 rfl rfl) ?_
        refine gp_quiet 4 rfl rfl rfl rfl rfl rfl (q_move rfl) ?_
        refine gp_quiet 5 rfl rfl rfl rfl rfl rfl (q_ixs Try.underlying40 Try.sizeOf29 rfl rfl (by omega) (by omega)) ?_
        refine gp_quiet 6 rfl rfl rfl rfl rfl rfl (q_loadc (v := lvV (lat ms k.toNat)) Try.isAgg29 rfl (own_cell (g := gs) (E := 29) (n := ms.length) (cap := co) (i := k.toNat) (lat_get (by omega)))) ?_
        refine gp_effa 7 [6] [5, 4, 3, 2, 1, 0] rfl rfl rfl rfl rfl rfl rfl (does_buildSlice Try.underlying40 Try.sizeOf29 Try.zeroValue29 rfl rfl rfl rfl rfl rfl) ?_
        rintro _ _ ⟨b128, rfl, rfl⟩
        refine ⟨?_, ?_⟩
        · refine .cons rfl rfl rfl rfl rfl (q_ixs Try.underlying40 Try.sizeOf29 rfl rfl (by omega) (by omega)) ?_
          refine .cons rfl rfl rfl rfl rfl (q_move rfl) ?_
          refine .cons rfl rfl rfl rfl rfl (q_ld Try.isAgg40 rfl rfl) ?_
          refine .cons rfl rfl rfl rfl rfl (q_fieldAddr fa_97_1 rfl) ?_
          refine .cons rfl rfl rfl rfl rfl (q_ld Try.isAgg40 rfl rfl) ?_
          refine .cons rfl rfl rfl rfl rfl (q_fieldAddr fa_97_1 rfl) ?_
          exact .nil
        refine gp_frontv (.slice aR mR.length cR) ?_
        refine gp_effa 8 [1] [5, 4, 3, 2, 0] rfl rfl rfl rfl rfl rfl rfl (does_appendS 0 (sz := 1) (by_ := 24) (m2 := 1) (news := [lvV (lat ms k.toNat)]) (m3 := (mR ++ [lat ms k.toNat]).length) (X3 := (mR ++ [lat ms k.toNat]).map lvV) Try.underlying40 Try.type29 rfl rfl rfl rfl rfl rfl rfl rfl ⟨rfl, .inl ⟨_, _, _, rfl, .own (mem_getO 1 rfl)⟩⟩ rfl (by omega) (by simp only [maxLen]; omega) (by simp) (by simp) (fun _ _ => rfl)) ?_
        rintro _ _ ⟨a129, c129, h129, rfl, rfl⟩
        refine ⟨?_, ?_⟩
        · refine .cons rfl rfl rfl rfl rfl (q_ixs Try.underlying40 Try.sizeOf29 rfl rfl (by omega) (by omega)) ?_
          refine .cons rfl rfl rfl rfl rfl (q_move rfl) ?_
          refine .cons rfl rfl rfl rfl rfl (q_ld Try.isAgg40 rfl rfl) ?_
          refine .cons rfl rfl rfl rfl rfl (q_fieldAddr fa_97_1 rfl) ?_
          refine .cons rfl rfl rfl rfl rfl (q_fieldAddr fa_97_1 rfl) ?_
          exact .nil
        refine gp_quiet 9 rfl rfl rfl rfl rfl rfl (q_fieldAddr fa_97_1 rfl) ?_
        refine gp_effa 10 [0, 2, 3, 4, 5, 9] [] rfl rfl rfl rfl rfl rfl rfl (does_st Try.sizeOf40 rfl rfl rfl rfl) ?_
        rintro _ _ ⟨rfl, rfl⟩
        refine ⟨?_, ?_⟩
        · exact .nil
        refine gp_end rfl rfl ?_
        refine g_inBlock ?_
        refine g_region ?_
        try obtain ⟨g129, rfl⟩ := h129.resolve_left (by simp)
        refine l_move rfl rfl ?_
        first | refine l_add rfl rfl rfl (w_i64 (by omega) (by omega)) ?_ | refine l_addw rfl rfl rfl ?_
        refine l_assign rfl rfl ?_
        refine l_nil ?_
        (first | exact g_againi (ihk (k + 1, some ⟨g129, 0, none⟩, c129, mR ++ [lat ms k.toNat], TR ++ [tat Ts k.toNat], lR) ⟨by simp only; omega, by simp only; omega, by rw [show (k + 1).toNat = k.toNat + 1 by omega]; exact delN_put (R := TR) (l := lR) hdl (by omega), by simp only [List.length_append, List.length_singleton]; omega, by simp only [List.length_append, List.length_singleton]; omega, hrd.snoc hlen hk1.1 hk1.2.1 hk1.2.2, .inr ⟨_, rfl⟩, l0, l1⟩ (by simp only; omega)) (.cons rfl (.cons rfl (.cons rfl (.cons rfl (.cons rfl (.cons rfl (.cons rfl (.cons rfl (.cons rfl (.cons rfl (.cons rfl (.cons rfl (.cons rfl (.cons rfl (.cons rfl (.cons rfl (.cons rfl (.cons rfl (.cons rfl (.cons rfl (.cons rfl (.cons rfl (.cons rfl (.cons rfl (.cons rfl (.nil)))))))))))))))))))))))))) | exact g_againi (ihk (k + 1, aR, cR, mR, TR, lR + 1) ⟨by simp only; omega, by simp only; omega, by rw [show (k + 1).toNat = k.toNat + 1 by omega]; exact delN_lost (R := TR) (l := lR) hdl (by omega) (by omega), hlen, hle, hrd, haR, by simp only; omega, by simp only; omega⟩ (by simp only; omega)) (.cons rfl (.cons rfl (.cons rfl (.cons rfl (.cons rfl (.cons rfl (.cons rfl (.cons rfl (.cons rfl (.cons rfl (.cons rfl (.cons rfl (.cons rfl (.cons rfl (.cons rfl (.cons rfl (.cons rfl (.cons rfl (.cons rfl (.cons rfl (.cons rfl (.cons rfl (.cons rfl (.cons rfl (.cons rfl (.nil)))))))))))))))))))))))))) | exact g_againi (ihk (k + 1, aR, cR, mR, TR, lR) ⟨by simp only; omega, by simp only; omega, by rw [show (k + 1).toNat = k.toNat + 1 by omega]; exact delN_full (R := TR) (l := lR) hdl (by omega) (by omega), hlen, hle, hrd, haR, l0, l1⟩ (by simp only; omega)) (.cons rfl (.cons rfl (.cons rfl (.cons rfl (.cons rfl (.cons rfl (.cons rfl (.cons rfl (.cons rfl (.cons rfl (.cons rfl (.cons rfl (.cons rfl (.cons rfl (.cons rfl (.cons rfl (.cons rfl (.cons rfl (.cons rfl (.cons rfl (.cons rfl (.cons rfl (.cons rfl (.cons rfl (.cons rfl (.nil)))))))))))))))))))))))))))
      intro hbr
      have hbr := of_decide_eq_false hbr
      refine g_seq ?_
      refine g_region ?_
      refine l_fieldAddr rfl fa_97_2 rfl ?_
      first | refine l_ld rfl Try.isAgg33 rfl rfl ?_ | refine l_ldw rfl Try.isAgg33 rfl (by omega) ?_
      refine l_neq rfl rfl rfl ?_
      refine l_nil ?_
      refine g_cond rfl ?_ ?_
      · intro hbr
        have hbr := of_decide_eq_true hbr
        refine g_region ?_
        refine l_fieldAddr rfl fa_97_2 rfl ?_
        first | refine l_ld rfl Try.isAgg33 rfl rfl ?_ | refine l_ldw rfl Try.isAgg33 rfl (by omega) ?_
        refine l_add rfl rfl rfl (w_u32 (by omega) (by omega)) ?_
        refine l_fieldAddr rfl fa_97_2 rfl ?_
        first | refine l_st Try.sizeOf33 rfl rfl rfl rfl ?_ | refine l_stw Try.sizeOf33 rfl rfl (by omega) ?_
        refine l_nil ?_
        refine g_inBlock ?_
        refine g_region ?_
        try obtain ⟨g129, rfl⟩ := h129.resolve_left (by simp)
        refine l_move rfl rfl ?_
        first | refine l_add rfl rfl rfl (w_i64 (by omega) (by omega)) ?_ | refine l_addw rfl rfl rfl ?_
        refine l_assign rfl rfl ?_
        refine l_nil ?_
        (first | exact g_againi (ihk (k + 1, some ⟨g129, 0, none⟩, c129, mR ++ [lat ms k.toNat], TR ++ [tat Ts k.toNat], lR) ⟨by simp only; omega, by simp only; omega, by rw [show (k + 1).toNat = k.toNat + 1 by omega]; exact delN_put (R := TR) (l := lR) hdl (by omega), by simp only [List.length_append, List.length_singleton]; omega, by simp only [List.length_append, List.length_singleton]; omega, hrd.snoc hlen hk1.1 hk1.2.1 hk1.2.2, .inr ⟨_, rfl⟩, l0, l1⟩ (by simp only; omega)) (.cons rfl (.cons rfl (.cons rfl (.cons rfl (.cons rfl (.cons rfl (.cons rfl (.cons rfl (.cons rfl (.cons rfl (.cons rfl (.cons rfl (.cons rfl (.cons rfl (.cons rfl (.cons rfl (.cons rfl (.cons rfl (.cons rfl (.cons rfl (.cons rfl (.cons rfl (.cons rfl (.cons rfl (.cons rfl (.nil)))))))))))))))))))))))))) | exact g_againi (ihk (k + 1, aR, cR, mR, TR, lR + 1) ⟨by simp only; omega, by simp only; omega, by rw [show (k + 1).toNat = k.toNat + 1 by omega]; exact delN_lost (R := TR) (l := lR) hdl (by omega) (by omega), hlen, hle, hrd, haR, by simp only; omega, by simp only; omega⟩ (by simp only; omega)) (.cons rfl (.cons rfl (.cons rfl (.cons rfl (.cons rfl (.cons rfl (.cons rfl (.cons rfl (.cons rfl (.cons rfl (.cons rfl (.cons rfl (.cons rfl (.cons rfl (.cons rfl (.cons rfl (.cons rfl (.cons rfl (.cons rfl (.cons rfl (.cons rfl (.cons rfl (.cons rfl (.cons rfl (.cons rfl (.nil)))))))))))))))))))))))))) | exact g_againi (ihk (k + 1, aR, cR, mR, TR, lR) ⟨by simp only; omega, by simp only; omega, by rw [show (k + 1).toNat = k.toNat + 1 by omega]; exact delN_full (R := TR) (l := lR) hdl (by omega) (by omega), hlen, hle, hrd, haR, l0, l1⟩ (by simp only; omega)) (.cons rfl (.cons rfl (.cons rfl (.cons rfl (.cons rfl (.cons rfl (.cons rfl (.cons rfl (.cons rfl (.cons rfl (.cons rfl (.cons rfl (.cons rfl (.cons rfl (.cons rfl (.cons rfl (.cons rfl (.cons rfl (.cons rfl (.cons rfl (.cons rfl (.cons rfl (.cons rfl (.cons rfl (.cons rfl (.nil)))))))))))))))))))))))))))
      intro hbr
      have hbr := of_decide_eq_false hbr
      refine g_skip ?_
      refine g_inBlock ?_
      refine g_region ?_
      try obtain ⟨g129, rfl⟩ := h129.resolve_left (by simp)
      refine l_move rfl rfl ?_
      first | refine l_add rfl rfl rfl (w_i64 (by omega) (by omega)) ?_ | refine l_addw rfl rfl rfl ?_
      refine l_assign rfl rfl ?_
      refine l_nil ?_
      (first | exact g_againi (ihk (k + 1, some ⟨g129, 0, none⟩, c129, mR ++ [lat ms k.toNat], TR ++ [tat Ts k.toNat], lR) ⟨by simp only; omega, by simp only; omega, by rw [show (k + 1).toNat = k.toNat + 1 by omega]; exact delN_put (R := TR) (l := lR) hdl (by omega), by simp only [List.length_append, List.length_singleton]; omega, by simp only [List.length_append, List.length_singleton]; omega, hrd.snoc hlen hk1.1 hk1.2.1 hk1.2.2, .inr ⟨_, rfl⟩, l0, l1⟩ (by simp only; omega)) (.cons rfl (.cons rfl (.cons rfl (.cons rfl (.cons rfl (.cons rfl (.cons rfl (.cons rfl (.cons rfl (.cons rfl (.cons rfl (.cons rfl (.cons rfl (.cons rfl (.cons rfl (.cons rfl (.cons rfl (.cons rfl (.cons rfl (.cons rfl (.cons rfl (.cons rfl (.cons rfl (.cons rfl (.cons rfl (.nil)))))))))))))))))))))))))) | exact g_againi (ihk (k + 1, aR, cR, mR, TR, lR + 1) ⟨by simp only; omega, by simp only; omega, by rw [show (k + 1).toNat = k.toNat + 1 by omega]; exact delN_lost (R := TR) (l := lR) hdl (by omega) (by omega), hlen, hle, hrd, haR, by simp only; omega, by simp only; omega⟩ (by simp only; omega)) (.cons rfl (.cons rfl (.cons rfl (.cons rfl (.cons rfl (.cons rfl (.cons rfl (.cons rfl (.cons rfl (.cons rfl (.cons rfl (.cons rfl (.cons rfl (.cons rfl (.cons rfl (.cons rfl (.cons rfl (.cons rfl (.cons rfl (.cons rfl (.cons rfl (.cons rfl (.cons rfl (.cons rfl (.cons rfl (.nil)))))))))))))))))))))))))) | exact g_againi (ihk (k + 1, aR, cR, mR, TR, lR) ⟨by simp only; omega, by simp only; omega, by rw [show (k + 1).toNat = k.toNat + 1 by omega]; exact delN_full (R := TR) (l := lR) hdl (by omega) (by omega), hlen, hle, hrd, haR, l0, l1⟩ (by simp only; omega)) (.cons rfl (.cons rfl (.cons rfl (.cons rfl (.cons rfl (.cons rfl (.cons rfl (.cons rfl (.cons rfl (.cons rfl (.cons rfl (.cons rfl (.cons rfl (.cons rfl (.cons rfl (.cons rfl (.cons rfl (.cons rfl (.cons rfl (.cons rfl (.cons rfl (.cons rfl (.cons rfl (.cons rfl (.cons rfl (.nil)))))))))))))))))))))))))))
    intro hbr
    have hbr := of_decide_eq_false hbr
    refine g_exit rfl ?_
    obtain rfl : k = ms.length := by omega
    rw [Int.toNat_natCast, hml] at hdl
    refine gp_start mo (by kernel_rfl) (by kernel_rfl) ?_
    refine gp_quiet 0 rfl rfl rfl rfl rfl rfl (q_move rfl) ?_
    refine gp_quiet 1 rfl rfl rfl rfl rfl rfl (q_move rfl) ?_
    refine gp_quiet 2 rfl rfl rfl rfl rfl rfl (q_move rfl) ?_
    refine gp_quiet 3 rfl rfl rfl rfl rfl rfl (q_ixs Try.underlying52 Try.sizeOf3 rfl rfl (by omega) (by omega)) ?_
    refine gp_quiet 4 rfl rfl rfl rfl rfl rfl (q_loadc (v := .int .i64 (L.getD i.toNat 0)) Try.isAgg3 rfl (word_any hrL (by omega))) ?_
    refine gp_quiet 5 rfl rfl rfl rfl rfl rfl (q_move rfl) ?_
    refine gp_quiet 6 rfl rfl rfl rfl rfl rfl (q_move rfl) ?_
    refine gp_quiet 7 rfl rfl rfl rfl rfl rfl (q_lds Try.isAgg97 Try.sizeOf97 rfl rfl) ?_
    refine gp_fronto g91 ?_
    refine gp_effa 8 [0, 4, 5, 6, 7] [3, 2, 1] rfl rfl rfl rfl rfl rfl rfl (does_call Try.call58 rfl (rlayp_ok _ _ wd dp w1 w2 d1 d2 g91 n n (dlW W wd dp Ts L i.toNat) hdwl (Nat.le_refl _) hn (L.getD i.toNat 0) (hrg i.toNat (by omega)) fn (by omega) lR l0 l1 aR mR.length cR mR TR rfl (by omega) (haR.imp id fun ⟨g9, h9⟩ => ⟨g9, 0, h9, by subst h9; exact .own (E := 29) (sz := 1) (n := mR.length) (cap := cR) (by first | exact mem_getO 0 rfl | exact mem_getO 1 rfl | exact mem_getO 2 rfl | exact mem_getO 3 rfl | exact mem_getO 4 rfl | exact mem_getO 5 rfl | exact mem_getO 6 rfl | exact mem_getO 7 rfl | exact mem_getO 8 rfl | exact mem_getO 9 rfl | exact mem_getO 10 rfl | exact mem_getO 11 rfl)⟩) (fun j hj => ⟨(hrd j hj).1.sp (fun w hw => hw.sub (.cons _ (.cons _ (.cons _ (.cons_cons _ (.cons_cons _ (List.nil_sublist _))))))), (hrd j hj).2⟩))) ?_
    rintro _ _ rfl
    refine ⟨?_, ?_⟩
    · refine .cons rfl rfl rfl rfl rfl (q_ixs Try.underlying52 Try.sizeOf3 rfl rfl (by omega) (by omega)) ?_
      refine .cons rfl rfl rfl rfl rfl (q_move rfl) ?_
      refine .cons rfl rfl rfl rfl rfl (q_move rfl) ?_
      exact .nil
    refine gp_end rfl rfl ?_
    refine g_inBlock ?_
    refine g_region ?_
    refine l_move rfl rfl ?_
    first | refine l_add rfl rfl rfl (w_i64 (by omega) (by omega)) ?_ | refine l_addw rfl rfl rfl ?_
    refine l_assign rfl rfl ?_
    refine l_nil ?_
    have e9 : (dlW W wd dp Ts L (i + 1).toNat) = spl (L.getD i.toNat 0).toNat (portL wd dp fn lR TR mR.length) (dlW W wd dp Ts L i.toNat) := by rw [show (i + 1).toNat = i.toNat + 1 by omega]; simp only [dlW, dlP]; rw [← hTe2, ← hls2, hdl, efn, hlen]; rfl
    rw [← e9]
    exact g_againi (ihq (i + 1) ⟨by omega, by omega⟩ (by omega)) (.cons rfl (.cons rfl (.cons rfl (.cons rfl (.cons rfl (.cons rfl (.cons rfl (.cons rfl (.nil)))))))))
  intro hbr
  have hbr := of_decide_eq_false hbr
  refine g_exit rfl ?_
  obtain rfl : i = (ln : Int) := by omega
  rw [Int.toNat_natCast] at hdwl ⊢
  refine g_seq ?_
  refine g_region ?_
  refine l_move rfl rfl ?_
  refine l_move rfl rfl ?_
  refine l_move rfl rfl ?_
  refine l_move rfl rfl ?_
  refine l_build rfl rfl (fun w => bd_97_z w) ?_
  refine l_fronto g91 ?_
  refine l_call rfl Try.call55 rfl (rlays_ok _ _ wd dp w1 w2 d1 d2 g91 n n (dlW W wd dp Ts L ln) hdwl (Nat.le_refl _) hn st hs 0 0 none 0 0 [] [] rfl (by omega) (.inl rfl) (fun j hj => by simp at hj)) ?_; rintro _ _ rfl
  refine l_nil ?_
  refine g_seq ?_
  refine g_region ?_
  refine l_move rfl rfl ?_
  refine l_assign rfl rfl ?_
  refine l_assign rfl rfl ?_
  refine l_nil ?_
  refine g_ret Try.func40 rfl (.tmp rfl (.tmp rfl .nil)) ?_
  have hs2 := hs
  unfold inR at hs2
  rw [hR.eq] at hdwl ⊢
  exact Gives.mki ⟨g91, n, 0, dlZ W st wd dp L, rfl, Nat.le_refl _, by unfold dlZ; rw [hLn]; rw [spl_length (by rw [layN_len (by omega) 0 (fun j hj => by omega)]; show _ + (1 + _) ≤ _; omega)]; exact hdwl, by unfold dlZ; rw [hLn], .inr (.inr (.inr ⟨by omega, ⟨hs, hrg⟩, ⟨⟨_, hR⟩, hfr⟩, rfl, rfl⟩))⟩
structure PRow where
  ao : Option Addr
  co : Nat
  ms : List LV
  Ts : List (List Int)
def prC (W L : List Int) (r : PRow) (j : Nat) : List Value := [.int .u32 (W.getD (L.getD j 0).toNat 0), .int .u32 (W.getD ((L.getD j 0).toNat + 2) 0), .slice r.ao r.ms.length r.co]
def prA (r : PRow) : Atom := Star (Own 29 1 (.slice r.ao r.ms.length r.co) r.ms.length (r.ms.map lvV)) (BigF r.ms.length (fun j => Own 33 1 (.slice (lat r.ms j).a (lat r.ms j).n (lat r.ms j).c) (lat r.ms j).n (ints .u32 (tat r.Ts j))))
def prF (R : Nat → PRow) (i j : Nat) : Atom := if j < i then Own 29 1 (.slice none 0 0) 0 [] else prA (R j)
structure POk (W L : List Int) (wd dp : Nat) (R : Nat → PRow) (j : Nat) : Prop where
  ms : MsOk (R j).ms (R j).Ts
  ha : (R j).ms.length = 0 ∨ ∃ g, (R j).ao = some ⟨g, 0, none⟩
  p : ∃ o, PrtR W (L.getD j 0) wd dp (R j).Ts o
theorem POk.up {W L : List Int} {wd dp : Nat} {R : Nat → PRow} {i j : Nat} {x : PRow} (h : POk W L wd dp R j) (hj : j ≠ i) : POk W L wd dp (upF R i x) j := by
  refine ⟨?_, ?_, ?_⟩ <;> rw [upF_ne hj]
  · exact h.ms
  · exact h.ha
  · exact h.p
theorem POk.at {W L : List Int} {wd dp : Nat} {R : Nat → PRow} {i : Nat} {x : PRow} (h1 : MsOk x.ms x.Ts) (h2 : x.ms.length = 0 ∨ ∃ g, x.ao = some ⟨g, 0, none⟩) (h3 : ∃ o, PrtR W (L.getD i 0) wd dp x.Ts o) : POk W L wd dp (upF R i x) i := by
  refine ⟨?_, ?_, ?_⟩ <;> rw [upF_at] <;> assumption
section
variable {P : Program} {f : FuncId} {w0 : World} {K : Post} {n' : Nat} {d' : List Deferred} {ops : Array Oper} {rest : List Oper} {k : List Item} {e : Env} {F : List Atom} {N i : Nat} {R : Nat → PRow} {r : PRow}
theorem l_openp (hi : i < N) (hr : R i = r) (hk : GL P f w0 K n' d' ops rest k e (Own 29 1 (.slice r.ao r.ms.length r.co) r.ms.length (r.ms.map lvV) :: BigF r.ms.length (fun j => Own 33 1 (.slice (lat r.ms j).a (lat r.ms j).n (lat r.ms j).c) (lat r.ms j).n (ints .u32 (tat r.Ts j))) :: BigBut N i (prF R i) :: F)) : GL P f w0 K n' d' ops rest k e (BigF N (prF R i) :: F) := by
  refine l_focus (A := prF R i) i hi ?_
  rw [show prF R i i = prA r by unfold prF; rw [if_neg (Nat.lt_irrefl _), hr]]
  exact l_star hk
theorem g_closep (hk : G P f w0 K n' d' k e (BigF N (prF R (i + 1)) :: F)) : G P f w0 K n' d' k e (BigBut N i (prF R i) :: F) :=
  g_own_nil 29 1 (g_unfocus (prF R (i + 1)) (by unfold prF; rw [if_pos (Nat.lt_succ_self _)]) (fun k _ hk => by
    unfold prF
    by_cases h : k < i
    · rw [if_pos h, if_pos (by omega)]
    · rw [if_neg h, if_neg (by omega)]) hk)
end
theorem prF_zero (R : Nat → PRow) : prF R 0 = fun j => prA (R j) := by
  funext j
  unfold prF
  rw [if_neg (Nat.not_lt_zero _)]
theorem there_any (w0 : World) (F : List Atom) (wd dp : Nat) (w1 : 1 ≤ wd) (w2 : wd ≤ 16) (d1 : 1 ≤ dp) (d2 : dp ≤ 8) (b g n c : Nat) (W : List Int) (hW : W.length = n) (hc : n ≤ c) (hn : n ≤ 1073741824) (hU : W32s W) (at_ : Int) (at_0 : -9223372036854775808 ≤ at_) (at_1 : at_ ≤ 9223372036854775807) (h : Nat) (h1 : h = 1 ∨ h = 3) : CallK Try.prog 26 [.agg #[.int .i64 (wd : Int), .int .i64 (dp : Int)], .pointer (some ⟨b, 0, none⟩), .int .i64 at_, .int .i64 (h : Int)] w0 (Blk b (.cells [Value.slice (some ⟨g, 0, none⟩) n c].toArray 76 (0, 0)) :: Own 33 1 (.slice (some ⟨g, 0, none⟩) n c) n (ints .u32 W) :: F) (Gives w0 fun v F2 => ∃ ok : Bool, v = .bool ok ∧ (ok = true ↔ inR n at_ ((h + dp * (1 + wd) : Nat) : Int)) ∧ F2 = Blk b (.cells [Value.slice (some ⟨g, 0, none⟩) n c].toArray 76 (0, 0)) :: Own 33 1 (.slice (some ⟨g, 0, none⟩) n c) n (ints .u32 W) :: F) := by
  by_cases hi : inR n at_ ((h + dp * (1 + wd) : Nat) : Int)
  · exact (there_in w0 F wd dp w1 w2 d1 d2 b g n c W hW hc hn hU at_ h h1 hi).gmono fun v F2 ⟨e1, e2⟩ => ⟨true, e1, ⟨fun _ => hi, fun _ => rfl⟩, e2⟩
  · exact (there_out w0 F wd dp w1 w2 d1 d2 b g n c W hW hc hn at_ at_0 at_1 h h1 hi).gmono fun v F2 ⟨e1, e2⟩ => ⟨false, e1, ⟨fun h2 => (nomatch h2), fun h2 => absurd h2 hi⟩, e2⟩
set_option maxHeartbeats 8000000 in
theorem pdel_ok (w0 : World) (F : List Atom) (wd dp : Nat) (w1 : 1 ≤ wd) (w2 : wd ≤ 16) (d1 : 1 ≤ dp) (d2 : dp ≤ 8) (b g n c : Nat) (W : List Int) (hW : W.length = n) (hc : n ≤ c) (hn : n ≤ 1073741824) (hU : W32s W) (st : Int) (st0 : -9223372036854775808 ≤ st) (st1 : st ≤ 9223372036854775807) (la : Option Addr) (ln lc : Nat) (L : List Int) (hL : IR w0 F .i64 la ln L) (hLb : ∀ i, -9223372036854775808 ≤ L.getD i 0 ∧ L.getD i 0 ≤ 9223372036854775807) (hln : ln ≤ 9223372036854775807) :
    CallK Try.prog 9 [.pointer (some ⟨b, 0, none⟩), .int .i64 st, .int .i64 (wd : Int), .int .i64 (dp : Int), .slice la ln lc] w0 (Blk b (.cells [Value.slice (some ⟨g, 0, none⟩) n c].toArray 76 (0, 0)) :: Own 33 1 (.slice (some ⟨g, 0, none⟩) n c) n (ints .u32 W) :: F) (Gives w0 fun v F2 => ∃ e W2, v = .int .i64 e ∧ W2.length = n ∧ F2 = Blk b (.cells [Value.slice (some ⟨g, 0, none⟩) n c].toArray 76 (0, 0)) :: Own 33 1 (.slice (some ⟨g, 0, none⟩) n c) n (ints .u32 W2) :: F ∧ DelA W n st wd dp L e W2) := by
  have hpw := pw_bd w1 w2 d1 d2
  have hLn := hL.1
  refine c_enter Try.func9 rfl rfl rfl ?_
  refine g_seq ?_
  refine g_region ?_
  refine l_assign rfl rfl ?_
  refine l_nil ?_
  refine g_seq ?_
  refine g_region ?_
  refine l_move rfl rfl ?_
  refine l_move rfl rfl ?_
  refine l_build rfl rfl (fun w => bd_61_0_1 _ _ w) ?_
  refine l_allocs rfl Try.zeroValue61 ?_; intro b11
  refine l_sts Try.sizeOf61 rfl rfl rfl rfl rfl ?_
  refine l_nil ?_
  refine g_seq ?_
  refine g_seq ?_
  refine g_region ?_
  refine l_move rfl rfl ?_
  refine l_lds rfl Try.isAgg61 Try.sizeOf61 rfl rfl ?_
  refine l_call rfl Try.call23 rfl (asked_n _ _ b wd dp w1 w2 d1 d2) ?_; rintro _ F9 ⟨rfl, hF9⟩; rw [hF9]; clear hF9 F9
  refine l_assign rfl rfl ?_
  refine l_nil ?_
  refine g_seq ?_
  refine g_region ?_
  refine l_move rfl rfl ?_
  refine l_neq rfl rfl rfl ?_
  refine l_nil ?_
  refine g_cond rfl ?_ ?_
  · intro hbr
    have hbr := of_decide_eq_true hbr
    (exfalso; first | omega | (simp at hbr; done))
  intro hbr
  have hbr := of_decide_eq_false hbr
  refine g_skip ?_
  refine g_seq ?_
  refine g_seq ?_
  refine g_region ?_
  refine l_move rfl rfl ?_
  refine l_len rfl Try.underlying52 rfl ?_
  refine l_gtr rfl rfl rfl ?_
  refine l_nil ?_
  refine g_cond rfl ?_ ?_
  · intro hbr
    have hbr := of_decide_eq_true hbr
    refine g_seq ?_
    refine g_region ?_
    refine l_assign rfl rfl ?_
    refine l_nil ?_
    refine g_ret Try.func9 rfl (.tmp rfl .nil) ?_
    exact Gives.mki ⟨2, W, rfl, hW, rfl, .inl ⟨by omega, rfl, rfl⟩⟩
  intro hbr
  have hbr := of_decide_eq_false hbr
  refine g_skip ?_
  refine g_seq ?_
  refine g_region ?_
  refine l_lds rfl Try.isAgg61 Try.sizeOf61 rfl rfl ?_
  refine l_move rfl rfl ?_
  refine l_move rfl rfl ?_
  refine l_fronto g ?_
  refine l_frontb b ?_
  refine l_call rfl Try.call26 rfl (there_any _ _ wd dp w1 w2 d1 d2 b g n c W hW hc hn hU st st0 st1 1 (.inl rfl)) ?_; rintro _ _ ⟨okS, rfl, hokS, rfl⟩
  refine l_assign rfl rfl ?_
  refine l_nil ?_
  refine g_seq ?_
  refine g_seq ?_
  refine g_region ?_
  refine l_move rfl rfl ?_
  refine l_len rfl Try.underlying52 rfl ?_
  refine l_move rfl rfl ?_
  refine l_nil ?_
  refine g_block ?_
  refine g_loopc (X := Int × Bool) [(0, _), (1, _), (3, _), (4, _), (10, _), (11, _), (44, _), (45, _)] (.cons rfl (.cons rfl (.cons rfl (.cons rfl (.cons rfl (.cons rfl (.cons rfl (.cons rfl (.nil))))))))) (fun z => 0 ≤ z.1 ∧ z.1 ≤ ln ∧ (z.2 = true ↔ inR n st ((1 + dp * (1 + wd) : Nat) : Int) ∧ ∀ j : Nat, (j : Int) < z.1 → inR n (L.getD j 0) ((3 + dp * (1 + wd) : Nat) : Int))) (fun z => ((ln : Int) - z.1).toNat) (fun z => [(13, .bool z.2), (46, .int .i64 z.1)]) ((0, okS)) (⟨by simp only; omega, by simp only; omega, ⟨fun h => ⟨hokS.1 h, fun j hj => by simp only at hj; omega⟩, fun h => hokS.2 h.1⟩⟩) (.cons rfl (.cons rfl .nil)) ?_
  rintro ⟨i, ok⟩ ⟨i0, i1, hrn⟩ ih
  dsimp only [List.cons_append, List.nil_append] at ih ⊢
  simp only at i0 i1 hrn
  refine g_seq ?_
  refine g_region ?_
  refine l_lss rfl rfl rfl ?_
  refine l_nil ?_
  refine g_seq ?_
  refine g_cond rfl ?_ ?_
  · intro hbr
    have hbr := of_decide_eq_true hbr
    refine g_skip ?_
    refine g_seq ?_
    refine g_block ?_
    refine g_seq ?_
    refine g_region ?_
    obtain ⟨bL, oL, rfl, hrL⟩ := hL.some (i := i.toNat) (by omega)
    have hp1 := hLb i.toNat
    refine l_ixs rfl Try.underlying52 Try.sizeOf3 rfl rfl (by omega) (by omega) ?_
    refine l_loadc (v := .int .i64 (L.getD i.toNat 0)) rfl Try.isAgg3 rfl (word_any hrL (by omega)) ?_
    refine l_assign rfl rfl ?_
    refine l_nil ?_
    refine g_region ?_
    refine l_move rfl rfl ?_
    refine l_move rfl rfl ?_
    refine l_split 51 rfl ?_ ?_
    · intro hbr
      refine l_guard_yes rfl rfl ?_
      refine l_lds rfl Try.isAgg61 Try.sizeOf61 rfl rfl ?_
      refine l_guard_yes rfl rfl ?_
      refine l_move rfl rfl ?_
      refine l_guard_yes rfl rfl ?_
      refine l_move rfl rfl ?_
      refine l_guard_yes rfl rfl ?_
      refine l_fronto g ?_
      refine l_frontb b ?_
      refine l_call rfl Try.call26 rfl (there_any _ _ wd dp w1 w2 d1 d2 b g n c W hW hc hn hU (L.getD i.toNat 0) hp1.1 hp1.2 3 (.inr rfl)) ?_; rintro _ _ ⟨okP, rfl, hokP, rfl⟩
      refine l_pick_t rfl rfl rfl ?_
      refine l_assign rfl rfl ?_
      refine l_nil ?_
      refine g_inBlock ?_
      refine g_region ?_
      first | refine l_add rfl rfl rfl (w_i64 (by omega) (by omega)) ?_ | refine l_addw rfl rfl rfl ?_
      refine l_move rfl rfl ?_
      refine l_nil ?_
      (first | exact g_againi (ih (i + 1, okP) ⟨by simp only; omega, by simp only; omega, ⟨fun h => ⟨(hrn.1 (by assumption)).1, fun j hj => by simp only at hj; rcases (show (j : Int) < i ∨ j = i.toNat by omega) with h9 | rfl; exact (hrn.1 (by assumption)).2 j h9; exact hokP.1 h⟩, fun h => hokP.2 (h.2 i.toNat (by simp only; omega))⟩⟩ (by simp only; omega)) (.cons rfl (.cons rfl (.cons rfl (.cons rfl (.cons rfl (.cons rfl (.cons rfl (.cons rfl (.cons rfl (.cons rfl (.nil))))))))))) | exact g_againi (ih (i + 1, false) ⟨by simp only; omega, by simp only; omega, ⟨fun h => (nomatch h), fun h => by have h9 := hrn.2 ⟨h.1, fun j hj => h.2 j (by simp only; omega)⟩; simp_all⟩⟩ (by simp only; omega)) (.cons rfl (.cons rfl (.cons rfl (.cons rfl (.cons rfl (.cons rfl (.cons rfl (.cons rfl (.cons rfl (.cons rfl (.nil))))))))))))
    intro hbr
    refine l_guard_no rfl rfl rfl ?_
    refine l_guard_no rfl rfl rfl ?_
    refine l_guard_no rfl rfl rfl ?_
    refine l_guard_no rfl rfl rfl ?_
    refine l_pick_f rfl rfl rfl ?_
    refine l_assign rfl rfl ?_
    refine l_nil ?_
    refine g_inBlock ?_
    refine g_region ?_
    first | refine l_add rfl rfl rfl (w_i64 (by omega) (by omega)) ?_ | refine l_addw rfl rfl rfl ?_
    refine l_move rfl rfl ?_
    refine l_nil ?_
    (first | exact g_againi (ih (i + 1, okP) ⟨by simp only; omega, by simp only; omega, ⟨fun h => ⟨(hrn.1 (by assumption)).1, fun j hj => by simp only at hj; rcases (show (j : Int) < i ∨ j = i.toNat by omega) with h9 | rfl; exact (hrn.1 (by assumption)).2 j h9; exact hokP.1 h⟩, fun h => hokP.2 (h.2 i.toNat (by simp only; omega))⟩⟩ (by simp only; omega)) (.cons rfl (.cons rfl (.cons rfl (.cons rfl (.cons rfl (.cons rfl (.cons rfl (.cons rfl (.cons rfl (.cons rfl (.nil))))))))))) | exact g_againi (ih (i + 1, false) ⟨by simp only; omega, by simp only; omega, ⟨fun h => (nomatch h), fun h => by have h9 := hrn.2 ⟨h.1, fun j hj => h.2 j (by simp only; omega)⟩; simp_all⟩⟩ (by simp only; omega)) (.cons rfl (.cons rfl (.cons rfl (.cons rfl (.cons rfl (.cons rfl (.cons rfl (.cons rfl (.cons rfl (.cons rfl (.nil))))))))))))
  intro hbr
  have hbr := of_decide_eq_false hbr
  refine g_exit rfl ?_
  obtain rfl : i = (ln : Int) := by omega
  refine g_seq ?_
  refine g_seq ?_
  refine g_region ?_
  refine l_move rfl rfl ?_
  refine l_not rfl rfl ?_
  refine l_nil ?_
  refine g_cond rfl ?_ ?_
  · intro hbr
    have hb59 := hbr
    refine g_seq ?_
    refine g_region ?_
    refine l_assign rfl rfl ?_
    refine l_nil ?_
    refine g_ret Try.func9 rfl (.tmp rfl .nil) ?_
    exact Gives.mki ⟨51, W, rfl, hW, rfl, .inr (.inl ⟨by omega, (fun h => by have h9 := hrn.2 ⟨h.1, fun j hj => h.2 j (by omega)⟩; simp [h9] at hbr), rfl, rfl⟩)⟩
  intro hbr
  have hb59 := hbr
  refine g_skip ?_
  refine g_seq ?_
  refine g_region ?_
  have hrs := hrn.1 (by first | assumption | simpa using hbr)
  have hs := hrs.1
  have hrg : ∀ j, j < L.length → inR n (L.getD j 0) ((3 + dp * (1 + wd) : Nat) : Int) := fun j hj => hrs.2 j (by omega)
  refine l_lds rfl Try.isAgg61 Try.sizeOf61 rfl rfl ?_
  refine l_move rfl rfl ?_
  refine l_move rfl rfl ?_
  refine l_fronto g ?_
  refine l_frontb b ?_
  refine l_call rfl Try.call27 rfl (stage_ok _ _ wd dp w1 w2 d1 d2 b g n c W hW hc hn hU st hs) ?_; rintro _ _ ⟨ao, co, ms, Ts, okT, rfl, rfl, hMs, hao, hR⟩
  have hml := hMs.1
  refine l_move rfl rfl ?_
  refine l_extract rfl rfl rfl ?_
  refine l_extract rfl rfl rfl ?_
  refine l_allocs rfl Try.zeroValue64 ?_; intro b16
  refine l_sts Try.sizeOf64 rfl rfl rfl rfl rfl ?_
  refine l_assign rfl rfl ?_
  refine l_nil ?_
  refine g_seq ?_
  refine g_region ?_
  refine l_assign rfl rfl ?_
  refine l_nil ?_
  refine g_seq ?_
  refine g_seq ?_
  refine g_region ?_
  refine l_move rfl rfl ?_
  refine l_len rfl Try.underlying52 rfl ?_
  refine l_move rfl rfl ?_
  refine l_nil ?_
  refine g_block ?_
  refine g_own_nil 64 3 ?_
  refine g_loopk (X := Int × Bool × Option Addr × Nat × (Nat → PRow)) [(0, _), (1, _), (3, _), (4, _), (10, _), (11, _), (16, _), (67, _), (68, _)] (.cons rfl (.cons rfl (.cons rfl (.cons rfl (.cons rfl (.cons rfl (.cons rfl (.cons rfl (.cons rfl (.nil)))))))))) (fun z => 0 ≤ z.1 ∧ z.1 ≤ ln ∧ (z.2.1 = true ↔ okT = true ∧ ∀ j : Nat, (j : Int) < z.1 → PrtR W (L.getD j 0) wd dp (z.2.2.2.2 j).Ts true) ∧ (∀ j : Nat, (j : Int) < z.1 → POk W L wd dp z.2.2.2.2 j) ∧ (z.1.toNat = 0 ∨ ∃ g, z.2.2.1 = some ⟨g, 0, none⟩)) (fun z => ((ln : Int) - z.1).toNat) (fun z => [(17, .bool z.2.1), (18, .slice z.2.2.1 z.1.toNat z.2.2.2.1), (69, .int .i64 z.1)]) (fun z => Own 64 3 (.slice z.2.2.1 z.1.toNat z.2.2.2.1) z.1.toNat (rowsN z.1.toNat (fun j => prC W L (z.2.2.2.2 j) j)) :: BigF z.1.toNat (fun j => prA (z.2.2.2.2 j)) :: Own 29 1 (.slice ao ms.length co) ms.length (ms.map lvV) :: BigF ms.length (fun j => Own 33 1 (.slice (lat ms j).a (lat ms j).n (lat ms j).c) (lat ms j).n (ints .u32 (tat Ts j))) :: Blk b16 (.cells [Value.int .u32 0, .int .u32 0, .slice ao ms.length co].toArray 64 (0, 0)) :: Blk b11 (.cells [Value.int .i64 (wd : Int), .int .i64 (dp : Int)].toArray 61 (0, 0)) :: Blk b (.cells [Value.slice (some ⟨g, 0, none⟩) n c].toArray 76 (0, 0)) :: Own 33 1 (.slice (some ⟨g, 0, none⟩) n c) n (ints .u32 W) :: F) ((0, okT, none, 0, (fun _ => (⟨none, 0, [], []⟩ : PRow)))) (⟨by simp only; omega, by simp only; omega, ⟨fun h => ⟨h, fun j hj => by simp only at hj; omega⟩, fun h => h.1⟩, fun j hj => by simp only at hj; omega, .inl rfl⟩) (.cons rfl (.cons rfl (.cons rfl .nil))) ((fun w hw => SPI.holds (F' := Own 64 3 (.slice none (0 : Nat) 0) (0 : Nat) (rowsN (0 : Nat) (fun j => prC W L ((fun _ => (⟨none, 0, [], []⟩ : PRow)) j) j)) :: BigF (0 : Nat) (fun j => prA ((fun _ => (⟨none, 0, [], []⟩ : PRow)) j)) :: Own 29 1 (.slice ao ms.length co) ms.length (ms.map lvV) :: BigF ms.length (fun j => Own 33 1 (.slice (lat ms j).a (lat ms j).n (lat ms j).c) (lat ms j).n (ints .u32 (tat Ts j))) :: Blk b16 (.cells [Value.int .u32 0, .int .u32 0, .slice ao ms.length co].toArray 64 (0, 0)) :: Blk b11 (.cells [Value.int .i64 (wd : Int), .int .i64 (dp : Int)].toArray 61 (0, 0)) :: Blk b (.cells [Value.slice (some ⟨g, 0, none⟩) n c].toArray 76 (0, 0)) :: Own 33 1 (.slice (some ⟨g, 0, none⟩) n c) n (ints .u32 W) :: F) (show Holds w0 (BigF 0 (fun j => prA ((fun _ => (⟨none, 0, [], []⟩ : PRow)) j)) :: Own 64 3 (.slice none 0 0) 0 (rowsN 0 (fun j => prC W L ((fun _ => (⟨none, 0, [], []⟩ : PRow)) j) j)) :: _) w from BigF.zero hw (fun j => prA ((fun _ => (⟨none, 0, [], []⟩ : PRow)) j))))) ?_
  rintro ⟨i, right, al, cl, R⟩ ⟨i0, i1, hri, hpk, hal⟩ ihp
  dsimp only [List.cons_append, List.nil_append] at ihp ⊢
  simp only at i0 i1 hri hpk hal
  refine g_seq ?_
  refine g_region ?_
  refine l_lss rfl rfl rfl ?_
  refine l_nil ?_
  refine g_seq ?_
  refine g_cond rfl ?_ ?_
  · intro hbr
    have hbr := of_decide_eq_true hbr
    refine g_skip ?_
    refine g_seq ?_
    refine g_block ?_
    refine g_seq ?_
    refine g_region ?_
    obtain ⟨bL, oL, rfl, hrL⟩ := hL.some (i := i.toNat) (by omega)
    have hp1 := hLb i.toNat
    refine l_ixs rfl Try.underlying52 Try.sizeOf3 rfl rfl (by omega) (by omega) ?_
    refine l_loadc (v := .int .i64 (L.getD i.toNat 0)) rfl Try.isAgg3 rfl (word_any hrL (by omega)) ?_
    refine l_assign rfl rfl ?_
    refine l_nil ?_
    refine g_seq ?_
    refine g_region ?_
    refine l_lds rfl Try.isAgg61 Try.sizeOf61 rfl rfl ?_
    refine l_move rfl rfl ?_
    refine l_move rfl rfl ?_
    refine l_fronto g ?_
    refine l_frontb b ?_
    refine l_call rfl Try.call28 rfl (port_ok _ _ wd dp w1 w2 d1 d2 b g n c W hW hc hn hU (L.getD i.toNat 0) (hrg i.toNat (by omega))) ?_; rintro _ _ ⟨ao2, co2, ms2, Ts2, ok2, rfl, rfl, hMs2, hao2, hR2⟩
    have hml2 := hMs2.1
    refine l_move rfl rfl ?_
    refine l_extract rfl rfl rfl ?_
    refine l_extract rfl rfl rfl ?_
    refine l_allocs rfl Try.zeroValue64 ?_; intro b21
    refine l_sts Try.sizeOf64 rfl rfl rfl rfl rfl ?_
    refine l_assign rfl rfl ?_
    refine l_nil ?_
    refine g_seq ?_
    refine g_region ?_
    refine l_move rfl rfl ?_
    refine l_move rfl rfl ?_
    refine l_split 81 rfl ?_ ?_
    · intro hbr
      refine l_guard_yes rfl rfl ?_
      refine l_move rfl rfl ?_
      refine l_pick_t rfl rfl rfl ?_
      refine l_assign rfl rfl ?_
      refine l_nil ?_
      refine g_region ?_
      refine l_move rfl rfl ?_
      refine l_lds rfl Try.isAgg64 Try.sizeOf64 rfl rfl ?_
      refine l_buildSlice rfl Try.underlying71 Try.sizeOf64 Try.zeroValue64 rfl rfl rfl rfl rfl rfl ?_; intro b86
      refine l_frontv (.slice al i.toNat cl) ?_
      refine l_does rfl (does_appendS 0 (sz := 3) (by_ := 32) (m2 := 1) (news := [Value.int .u32 (W.getD (L.getD i.toNat 0).toNat 0), .int .u32 (W.getD ((L.getD i.toNat 0).toNat + 2) 0), .slice ao2 ms2.length co2]) (m3 := i.toNat + 1) (X3 := rowsN (i.toNat + 1) (fun j => prC W L ((upF R i.toNat (⟨ao2, co2, ms2, Ts2⟩ : PRow)) j) j)) Try.underlying71 Try.type64 rfl rfl rfl rfl rfl rfl rfl rfl ⟨rfl, .inl ⟨_, _, _, rfl, .own (mem_getO 1 rfl)⟩⟩ rfl (by omega) (by simp only [maxLen]; omega) rfl (rowsN_pushI (r := prC W L) (K := i.toNat) (B := R) (x := (⟨ao2, co2, ms2, Ts2⟩ : PRow))) (fun _ _ => rfl)) ?_
      rintro _ _ ⟨a87, c87, h87, rfl, rfl⟩
      refine l_assign rfl rfl ?_
      refine l_nil ?_
      refine g_inBlock ?_
      refine g_region ?_
      first | refine l_add rfl rfl rfl (w_i64 (by omega) (by omega)) ?_ | refine l_addw rfl rfl rfl ?_
      refine l_move rfl rfl ?_
      refine l_nil ?_
      refine g_take (BigF i.toNat (fun j => prA (R j))) ?_
      refine g_take (BigF ms2.length (fun j => Own 33 1 (.slice (lat ms2 j).a (lat ms2 j).n (lat ms2 j).c) (lat ms2 j).n (ints .u32 (tat Ts2 j)))) ?_
      refine g_take (Own 29 1 (.slice ao2 ms2.length co2) ms2.length (ms2.map lvV)) ?_
      refine g_unstar ?_
      refine g_snocb (fun j => prA ((upF R i.toNat (⟨ao2, co2, ms2, Ts2⟩ : PRow)) j)) (by simp only [upF_at]; rfl) (fun k hk => by simp only [upF_ne (show k ≠ i.toNat by omega)]) ?_
      rw [show i.toNat + 1 = (i + 1).toNat by omega] at h87 ⊢
      have hpk2 : ∀ j : Nat, (j : Int) < i + 1 → POk W L wd dp (upF R i.toNat (⟨ao2, co2, ms2, Ts2⟩ : PRow)) j := fun j hj => by
        by_cases e : j = i.toNat
        · subst e; exact POk.at hMs2 hao2 ⟨_, hR2⟩
        · exact (hpk j (by omega)).up e
      have hri2 : ∀ rr : Bool, (rr = true ↔ right = true ∧ ok2 = true) → (rr = true ↔ okT = true ∧ ∀ j : Nat, (j : Int) < i + 1 → PrtR W (L.getD j 0) wd dp ((upF R i.toNat (⟨ao2, co2, ms2, Ts2⟩ : PRow)) j).Ts true) := fun rr hrr => by
        rw [hrr, hri]
        constructor
        · rintro ⟨⟨h1, h2⟩, h3⟩
          refine ⟨h1, fun j hj => ?_⟩
          by_cases e : j = i.toNat
          · subst e; rw [upF_at]; rw [h3] at hR2; exact hR2
          · rw [upF_ne e]; exact h2 j (by omega)
        · rintro ⟨h1, h2⟩
          refine ⟨⟨h1, fun j hj => ?_⟩, ?_⟩
          · have h3 := h2 j (by omega); rwa [upF_ne (show j ≠ i.toNat by omega)] at h3
          · have h3 := h2 i.toNat (by omega); rw [upF_at] at h3; exact (PrtR.same h3 hR2).2
      (first | exact g_againi (ihp (i + 1, ok2, a87, c87, (upF R i.toNat (⟨ao2, co2, ms2, Ts2⟩ : PRow))) ⟨by simp only; omega, by simp only; omega, hri2 ok2 ⟨fun h => ⟨by assumption, h⟩, fun h => h.2⟩, hpk2, h87⟩ (by simp only; omega)) (.cons rfl (.cons rfl (.cons rfl (.cons rfl (.cons rfl (.cons rfl (.cons rfl (.cons rfl (.cons rfl (.cons rfl (.cons rfl (.cons rfl (.nil))))))))))))) | exact g_againi (ihp (i + 1, false, a87, c87, (upF R i.toNat (⟨ao2, co2, ms2, Ts2⟩ : PRow))) ⟨by simp only; omega, by simp only; omega, hri2 false ⟨fun h => (nomatch h), fun h => by simp_all⟩, hpk2, h87⟩ (by simp only; omega)) (.cons rfl (.cons rfl (.cons rfl (.cons rfl (.cons rfl (.cons rfl (.cons rfl (.cons rfl (.cons rfl (.cons rfl (.cons rfl (.cons rfl (.nil))))))))))))))
    intro hbr
    refine l_guard_no rfl rfl rfl ?_
    refine l_pick_f rfl rfl rfl ?_
    refine l_assign rfl rfl ?_
    refine l_nil ?_
    refine g_region ?_
    refine l_move rfl rfl ?_
    refine l_lds rfl Try.isAgg64 Try.sizeOf64 rfl rfl ?_
    refine l_buildSlice rfl Try.underlying71 Try.sizeOf64 Try.zeroValue64 rfl rfl rfl rfl rfl rfl ?_; intro b86
    refine l_frontv (.slice al i.toNat cl) ?_
    refine l_does rfl (does_appendS 0 (sz := 3) (by_ := 32) (m2 := 1) (news := [Value.int .u32 (W.getD (L.getD i.toNat 0).toNat 0), .int .u32 (W.getD ((L.getD i.toNat 0).toNat + 2) 0), .slice ao2 ms2.length co2]) (m3 := i.toNat + 1) (X3 := rowsN (i.toNat + 1) (fun j => prC W L ((upF R i.toNat (⟨ao2, co2, ms2, Ts2⟩ : PRow)) j) j)) Try.underlying71 Try.type64 rfl rfl rfl rfl rfl rfl rfl rfl ⟨rfl, .inl ⟨_, _, _, rfl, .own (mem_getO 1 rfl)⟩⟩ rfl (by omega) (by simp only [maxLen]; omega) rfl (rowsN_pushI (r := prC W L) (K := i.toNat) (B := R) (x := (⟨ao2, co2, ms2, Ts2⟩ : PRow))) (fun _ _ => rfl)) ?_
    rintro _ _ ⟨a87, c87, h87, rfl, rfl⟩
    refine l_assign rfl rfl ?_
    refine l_nil ?_
    refine g_inBlock ?_
    refine g_region ?_
    first | refine l_add rfl rfl rfl (w_i64 (by omega) (by omega)) ?_ | refine l_addw rfl rfl rfl ?_
    refine l_move rfl rfl ?_
    refine l_nil ?_
    refine g_take (BigF i.toNat (fun j => prA (R j))) ?_
    refine g_take (BigF ms2.length (fun j => Own 33 1 (.slice (lat ms2 j).a (lat ms2 j).n (lat ms2 j).c) (lat ms2 j).n (ints .u32 (tat Ts2 j)))) ?_
    refine g_take (Own 29 1 (.slice ao2 ms2.length co2) ms2.length (ms2.map lvV)) ?_
    refine g_unstar ?_
    refine g_snocb (fun j => prA ((upF R i.toNat (⟨ao2, co2, ms2, Ts2⟩ : PRow)) j)) (by simp only [upF_at]; rfl) (fun k hk => by simp only [upF_ne (show k ≠ i.toNat by omega)]) ?_
    rw [show i.toNat + 1 = (i + 1).toNat by omega] at h87 ⊢
    have hpk2 : ∀ j : Nat, (j : Int) < i + 1 → POk W L wd dp (upF R i.toNat (⟨ao2, co2, ms2, Ts2⟩ : PRow)) j := fun j hj => by
      by_cases e : j = i.toNat
      · subst e; exact POk.at hMs2 hao2 ⟨_, hR2⟩
      · exact (hpk j (by omega)).up e
    have hri2 : ∀ rr : Bool, (rr = true ↔ right = true ∧ ok2 = true) → (rr = true ↔ okT = true ∧ ∀ j : Nat, (j : Int) < i + 1 → PrtR W (L.getD j 0) wd dp ((upF R i.toNat (⟨ao2, co2, ms2, Ts2⟩ : PRow)) j).Ts true) := fun rr hrr => by
      rw [hrr, hri]
      constructor
      · rintro ⟨⟨h1, h2⟩, h3⟩
        refine ⟨h1, fun j hj => ?_⟩
        by_cases e : j = i.toNat
        · subst e; rw [upF_at]; rw [h3] at hR2; exact hR2
        · rw [upF_ne e]; exact h2 j (by omega)
      · rintro ⟨h1, h2⟩
        refine ⟨⟨h1, fun j hj => ?_⟩, ?_⟩
        · have h3 := h2 j (by omega); rwa [upF_ne (show j ≠ i.toNat by omega)] at h3
        · have h3 := h2 i.toNat (by omega); rw [upF_at] at h3; exact (PrtR.same h3 hR2).2
    (first | exact g_againi (ihp (i + 1, ok2, a87, c87, (upF R i.toNat (⟨ao2, co2, ms2, Ts2⟩ : PRow))) ⟨by simp only; omega, by simp only; omega, hri2 ok2 ⟨fun h => ⟨by assumption, h⟩, fun h => h.2⟩, hpk2, h87⟩ (by simp only; omega)) (.cons rfl (.cons rfl (.cons rfl (.cons rfl (.cons rfl (.cons rfl (.cons rfl (.cons rfl (.cons rfl (.cons rfl (.cons rfl (.cons rfl (.nil))))))))))))) | exact g_againi (ihp (i + 1, false, a87, c87, (upF R i.toNat (⟨ao2, co2, ms2, Ts2⟩ : PRow))) ⟨by simp only; omega, by simp only; omega, hri2 false ⟨fun h => (nomatch h), fun h => by simp_all⟩, hpk2, h87⟩ (by simp only; omega)) (.cons rfl (.cons rfl (.cons rfl (.cons rfl (.cons rfl (.cons rfl (.cons rfl (.cons rfl (.cons rfl (.cons rfl (.cons rfl (.cons rfl (.nil))))))))))))))
  intro hbr
  have hbr := of_decide_eq_false hbr
  refine g_exit rfl ?_
  obtain rfl : i = (ln : Int) := by omega
  rw [Int.toNat_natCast] at hal ⊢
  refine g_seq ?_
  refine g_seq ?_
  refine g_region ?_
  refine l_move rfl rfl ?_
  refine l_not rfl rfl ?_
  refine l_nil ?_
  refine g_cond rfl ?_ ?_
  · intro hbr
    have hb90 := hbr
    refine g_seq ?_
    refine g_region ?_
    refine l_assign rfl rfl ?_
    refine l_nil ?_
    refine g_ret Try.func9 rfl (.tmp rfl .nil) ?_
    exact Gives.mki ⟨201, W, rfl, hW, rfl, .inr (.inr (.inl ⟨by omega, ⟨hs, hrg⟩, (fun h => by obtain ⟨⟨Tx, hTx⟩, h2⟩ := h; have h9 := hri.2 ⟨(RowR.same hTx hR).2, fun j hj => by obtain ⟨Ty, hTy⟩ := h2 j (by omega); obtain ⟨o9, hp9⟩ := (hpk j hj).p; have h8 := (PrtR.same hTy hp9).2; rw [h8] at hp9; exact hp9⟩; simp [h9] at hbr), rfl, rfl⟩))⟩
  intro hbr
  have hb90 := hbr
  refine g_skip ?_
  refine g_seq ?_
  refine g_seq ?_
  refine g_region ?_
  have hrr := hri.1 (by first | assumption | simpa using hbr)
  obtain ⟨rfl, hpt⟩ := hrr
  have hfr : ∀ j, j < L.length → ∃ Ts, PrtR W (L.getD j 0) wd dp Ts true := fun j hj => ⟨_, hpt j (by omega)⟩
  have hbd := RowR.bd hR (by omega)
  have hl1 := hbd.1
  have hl2 := hbd.2.1
  refine l_move rfl rfl ?_
  refine l_len rfl Try.underlying52 rfl ?_
  refine l_move rfl rfl ?_
  refine l_nil ?_
  refine g_block ?_
  refine g_loopk (X := Int) [(0, _), (1, _), (3, _), (10, _), (11, _), (16, _), (18, _), (91, _), (92, _)] (.cons rfl (.cons rfl (.cons rfl (.cons rfl (.cons rfl (.cons rfl (.cons rfl (.cons rfl (.cons rfl (.nil)))))))))) (fun i => 0 ≤ i ∧ i ≤ ln) (fun i => ((ln : Int) - i).toNat) (fun i => [(93, .int .i64 i)]) (fun i => Own 64 3 (.slice al ln cl) ln (rowsN ln (fun j => prC W L (R j) j)) :: BigF ln (prF R i.toNat) :: Own 29 1 (.slice ao ms.length co) ms.length (ms.map lvV) :: BigF ms.length (fun j => Own 33 1 (.slice (lat ms j).a (lat ms j).n (lat ms j).c) (lat ms j).n (ints .u32 (tat Ts j))) :: Blk b16 (.cells [Value.int .u32 0, .int .u32 0, .slice ao ms.length co].toArray 64 (0, 0)) :: Blk b11 (.cells [Value.int .i64 (wd : Int), .int .i64 (dp : Int)].toArray 61 (0, 0)) :: Blk b (.cells [Value.slice (some ⟨g, 0, none⟩) n c].toArray 76 (0, 0)) :: Own 33 1 (.slice (some ⟨g, 0, none⟩) n c) n (ints .u32 (dlW W wd dp Ts L i.toNat)) :: F) (0) (⟨by omega, by omega⟩) (.cons rfl .nil) ((fun w hw => by rw [show dlW W wd dp Ts L (0 : Int).toNat = W from rfl, show (0 : Int).toNat = 0 from rfl, prF_zero]; exact SPI.holds hw)) ?_
  rintro i ⟨i0, i1⟩ ihq
  dsimp only [List.cons_append, List.nil_append] at ihq ⊢
  have hdwl := dlW_len (Ss := Ts) (by omega) hW hrg hfr (fun j hj => (hbd.2.2.2 j hj).2) i.toNat (by omega)
  refine g_seq ?_
  refine g_region ?_
  refine l_lss rfl rfl rfl ?_
  refine l_nil ?_
  refine g_seq ?_
  refine g_cond rfl ?_ ?_
  · intro hbr
    have hbr := of_decide_eq_true hbr
    refine g_skip ?_
    refine g_seq ?_
    refine g_block ?_
    refine g_seq ?_
    refine g_region ?_
    refine l_move rfl rfl ?_
    obtain ⟨bL, oL, rfl, hrL⟩ := hL.some (i := i.toNat) (by omega)
    have hp1 := hLb i.toNat
    refine l_ixs rfl Try.underlying52 Try.sizeOf3 rfl rfl (by omega) (by omega) ?_
    refine l_loadc (v := .int .i64 (L.getD i.toNat 0)) rfl Try.isAgg3 rfl (word_any hrL (by omega)) ?_
    refine l_assign rfl rfl ?_
    refine l_assign rfl rfl ?_
    refine l_nil ?_
    refine g_seq ?_
    refine g_region ?_
    refine l_move rfl rfl ?_
    refine l_move rfl rfl ?_
    obtain ⟨gal, rfl⟩ := hal.resolve_left (by omega)
    have hpo := hpk i.toNat (by omega)
    have hP := hpt i.toNat (by omega)
    obtain ⟨⟨ao2, co2, ms2, Ts2⟩, hRi⟩ : ∃ x, R i.toNat = x := ⟨_, rfl⟩
    have hMs2 := hpo.ms
    have hao2 := hpo.ha
    rw [hRi] at hMs2 hao2 hP
    simp only at hMs2 hao2 hP
    have hml2 := hMs2.1
    have hTe2 := hP.eq
    have hbd2 := RowR.bd hP.row (by omega)
    have hq1 := hbd2.1
    have hq2 := hbd2.2.1
    have hq3 := hbd2.2.2.1
    obtain ⟨ls2, hls2⟩ : ∃ x, x = W.getD ((L.getD i.toNat 0).toNat + 2) 0 := ⟨_, rfl⟩
    have hlb2 := hU ((L.getD i.toNat 0).toNat + 2)
    rw [← hls2] at hlb2
    obtain ⟨fn, efn⟩ := Int.eq_ofNat_of_zero_le (hU (L.getD i.toNat 0).toNat).1
    rw [efn, Int.toNat_natCast] at hq3
    refine l_ixs rfl Try.underlying71 Try.sizeOf64 rfl rfl (by omega) (by omega) ?_
    refine l_loadr (l := [Value.int .u32 (W.getD (L.getD i.toNat 0).toNat 0), .int .u32 (W.getD ((L.getD i.toNat 0).toNat + 2) 0), .slice ao2 ms2.length co2]) rfl Try.isAgg64 Try.sizeOf64 rfl rfl (by rw [show [Value.int .u32 (W.getD (L.getD i.toNat 0).toNat 0), .int .u32 (W.getD ((L.getD i.toNat 0).toNat + 2) 0), .slice ao2 ms2.length co2] = prC W L (R i.toNat) i.toNat by rw [hRi]; rfl]; exact rn_row (f := fun j => prC W L (R j) j) (k := i.toNat) (N := ln) (E := 64) (m := ln) (cap := cl) (by first | exact mem_getO 0 rfl | exact mem_getO 1 rfl | exact mem_getO 2 rfl | exact mem_getO 3 rfl | exact mem_getO 4 rfl | exact mem_getO 5 rfl | exact mem_getO 6 rfl | exact mem_getO 7 rfl | exact mem_getO 8 rfl | exact mem_getO 9 rfl | exact mem_getO 10 rfl | exact mem_getO 11 rfl) (fun _ _ => rfl) (by omega)) ?_
    rw [efn, ← hls2]
    refine l_allocs rfl Try.zeroValue64 ?_; intro b25
    refine l_sts Try.sizeOf64 rfl rfl rfl rfl rfl ?_
    refine l_nil ?_
    refine g_seq ?_
    refine g_seq ?_
    refine g_region ?_
    refine l_take (BigF ln (prF R i.toNat)) ?_
    refine l_openp (by omega) hRi ?_
    refine l_fieldAddr rfl fa_64_2 rfl ?_
    refine l_ld rfl Try.isAgg40 rfl rfl ?_
    refine l_len rfl Try.underlying40 rfl ?_
    refine l_move rfl rfl ?_
    refine l_nil ?_
    refine g_block ?_
    refine g_loopk (X := Int × Option Addr × Nat × List LV × List (List Int) × Int) [(0, _), (1, _), (3, _), (10, _), (11, _), (16, _), (18, _), (23, _), (24, _), (25, _), (91, _), (92, _), (93, _), (94, _), (95, _), (96, _), (97, _), (98, _), (99, _), (100, _), (101, _), (102, _), (103, _), (104, _)] (.cons rfl (.cons rfl (.cons rfl (.cons rfl (.cons rfl (.cons rfl (.cons rfl (.cons rfl (.cons rfl (.cons rfl (.cons rfl (.cons rfl (.cons rfl (.cons rfl (.cons rfl (.cons rfl (.cons rfl (.cons rfl (.cons rfl (.cons rfl (.cons rfl (.cons rfl (.cons rfl (.cons rfl (.nil))))))))))))))))))))))))) (fun z => 0 ≤ z.1 ∧ z.1 ≤ ms.length ∧ delN dp Ts2 ls2 Ts z.1.toNat = (z.2.2.2.2.1, z.2.2.2.2.2) ∧ z.2.2.2.1.length = z.2.2.2.2.1.length ∧ z.2.2.2.2.1.length ≤ dp ∧ MsRd w0 [BigF ms.length (fun j => Own 33 1 (.slice (lat ms j).a (lat ms j).n (lat ms j).c) (lat ms j).n (ints .u32 (tat Ts j))), BigF ms2.length (fun j => Own 33 1 (.slice (lat ms2 j).a (lat ms2 j).n (lat ms2 j).c) (lat ms2 j).n (ints .u32 (tat Ts2 j)))] wd z.2.2.2.1 z.2.2.2.2.1 ∧ (z.2.2.2.1.length = 0 ∨ ∃ g, z.2.1 = some ⟨g, 0, none⟩) ∧ 0 ≤ z.2.2.2.2.2 ∧ z.2.2.2.2.2 ≤ 4294967295) (fun z => (ms.length - z.1).toNat) (fun z => [(105, .int .i64 z.1)]) (fun z => Blk b25 (.cells [Value.int .u32 ((fn : Nat) : Int), .int .u32 z.2.2.2.2.2, .slice z.2.1 z.2.2.2.1.length z.2.2.1].toArray 64 (0, 0)) :: Own 29 1 (.slice z.2.1 z.2.2.2.1.length z.2.2.1) z.2.2.2.1.length (z.2.2.2.1.map lvV) :: Own 29 1 (.slice ao ms.length co) ms.length (ms.map lvV) :: BigF ms.length (fun j => Own 33 1 (.slice (lat ms j).a (lat ms j).n (lat ms j).c) (lat ms j).n (ints .u32 (tat Ts j))) :: BigF ms2.length (fun j => Own 33 1 (.slice (lat ms2 j).a (lat ms2 j).n (lat ms2 j).c) (lat ms2 j).n (ints .u32 (tat Ts2 j))) :: BigBut ln i.toNat (prF R i.toNat) :: Own 64 3 (.slice (some ⟨gal, 0, none⟩) ln cl) ln (rowsN ln (fun j => prC W L (R j) j)) :: Blk b16 (.cells [Value.int .u32 0, .int .u32 0, .slice ao ms.length co].toArray 64 (0, 0)) :: Blk b11 (.cells [Value.int .i64 (wd : Int), .int .i64 (dp : Int)].toArray 61 (0, 0)) :: Blk b (.cells [Value.slice (some ⟨g, 0, none⟩) n c].toArray 76 (0, 0)) :: Own 33 1 (.slice (some ⟨g, 0, none⟩) n c) n (ints .u32 (dlW W wd dp Ts L i.toNat)) :: F) ((0, ao2, co2, ms2, Ts2, ls2)) (⟨by simp only; omega, by simp only; omega, rfl, hml2, by simp only; omega, ms_rd (List.mem_cons_of_mem _ (List.mem_cons_self ..)) hMs2 hbd2.2.2.2, hao2, hlb2.1, hlb2.2⟩) (.cons rfl .nil) ((fun w hw => SPI.holds (F' := Blk b25 (.cells [Value.int .u32 ((fn : Nat) : Int), .int .u32 ls2, .slice ao2 ms2.length co2].toArray 64 (0, 0)) :: Own 29 1 (.slice ao2 ms2.length co2) ms2.length (ms2.map lvV) :: Own 29 1 (.slice ao ms.length co) ms.length (ms.map lvV) :: BigF ms.length (fun j => Own 33 1 (.slice (lat ms j).a (lat ms j).n (lat ms j).c) (lat ms j).n (ints .u32 (tat Ts j))) :: BigF ms2.length (fun j => Own 33 1 (.slice (lat ms2 j).a (lat ms2 j).n (lat ms2 j).c) (lat ms2 j).n (ints .u32 (tat Ts2 j))) :: BigBut ln i.toNat (prF R i.toNat) :: Own 64 3 (.slice (some ⟨gal, 0, none⟩) ln cl) ln (rowsN ln (fun j => prC W L (R j) j)) :: Blk b16 (.cells [Value.int .u32 0, .int .u32 0, .slice ao ms.length co].toArray 64 (0, 0)) :: Blk b11 (.cells [Value.int .i64 (wd : Int), .int .i64 (dp : Int)].toArray 61 (0, 0)) :: Blk b (.cells [Value.slice (some ⟨g, 0, none⟩) n c].toArray 76 (0, 0)) :: Own 33 1 (.slice (some ⟨g, 0, none⟩) n c) n (ints .u32 (dlW W wd dp Ts L i.toNat)) :: F) hw)) ?_
    rintro ⟨k, aR, cR, mR, TR, lR⟩ ⟨k0, k1, hdl, hlen, hle, hrd, haR, l0, l1⟩ ihk
    dsimp only [List.cons_append, List.nil_append] at ihk ⊢
    simp only at k0 k1 hdl hlen hle hrd haR l0 l1
    refine g_seq ?_
    refine g_region ?_
    refine l_lss rfl rfl rfl ?_
    refine l_nil ?_
    refine g_seq ?_
    refine g_cond rfl ?_ ?_
    · intro hbr
      have hbr := of_decide_eq_true hbr
      refine g_skip ?_
      refine g_seq ?_
      refine g_block ?_
      refine g_seq ?_
      refine g_region ?_
      obtain ⟨gs, rfl⟩ := hao.resolve_left (by omega)
      have hk1 := ms_rd (w0 := w0) (F := [BigF ms.length (fun j => Own 33 1 (.slice (lat ms j).a (lat ms j).n (lat ms j).c) (lat ms j).n (ints .u32 (tat Ts j))), BigF ms2.length (fun j => Own 33 1 (.slice (lat ms2 j).a (lat ms2 j).n (lat ms2 j).c) (lat ms2 j).n (ints .u32 (tat Ts2 j)))]) (List.mem_cons_self ..) hMs hbd.2.2.2 k.toNat (by omega)
      refine l_ixs rfl Try.underlying40 Try.sizeOf29 rfl rfl (by omega) (by omega) ?_
      refine l_loadc (v := lvV (lat ms k.toNat)) rfl Try.isAgg29 rfl (own_cell (g := gs) (E := 29) (n := ms.length) (cap := co) (i := k.toNat) (lat_get (by omega))) ?_
      refine l_assign rfl rfl ?_
      refine l_nil ?_
      refine g_block ?_
      refine g_seq ?_
      refine g_region ?_
      refine l_fieldAddr rfl fa_64_2 rfl ?_
      refine l_ld rfl Try.isAgg40 rfl rfl ?_
      refine l_len rfl Try.underlying40 rfl ?_
      refine l_move rfl rfl ?_
      refine l_lss rfl rfl rfl ?_
      refine l_assign rfl rfl ?_
      refine l_nil ?_
      refine g_cond rfl ?_ ?_
      · intro hbr
        have hbr := of_decide_eq_true hbr
        refine g_region ?_
        refine l_fieldAddr rfl fa_64_2 rfl ?_
        refine l_ld rfl Try.isAgg40 rfl rfl ?_
        refine l_move rfl rfl ?_
        refine l_frontv (.slice aR mR.length cR) ?_
        refine l_buildSlice rfl Try.underlying40 Try.sizeOf29 Try.zeroValue29 rfl rfl rfl rfl rfl rfl ?_; intro b118
        refine l_append 1 (sz := 1) (by_ := 24) (m2 := 1) (news := [lvV (lat ms k.toNat)]) rfl Try.underlying40 Try.type29 rfl rfl rfl rfl rfl rfl rfl rfl ⟨rfl, .inl ⟨_, _, _, rfl, .own (mem_getO 0 rfl)⟩⟩ rfl (by omega) (by simp only [maxLen]; omega) (fun _ => rfl) ?_; intro v119 hv119
        refine l_fact (own_cases (mem_getO 1 rfl)) ?_
        rintro ⟨_, _, hv | ⟨g119, c119, rfl, hc119⟩⟩
        · exact absurd (hv119.1 hv.1).2 (by omega)
        rw [show mR.map lvV ++ [lvV (lat ms k.toNat)] = (mR ++ [lat ms k.toNat]).map lvV by simp, show mR.length + 1 = (mR ++ [lat ms k.toNat]).length by simp]
        refine l_fieldAddr rfl fa_64_2 rfl ?_
        refine l_st Try.sizeOf40 rfl rfl rfl rfl ?_
        refine l_nil ?_
        refine g_inBlock ?_
        refine g_inBlock ?_
        refine g_region ?_
        first | refine l_add rfl rfl rfl (w_i64 (by omega) (by omega)) ?_ | refine l_addw rfl rfl rfl ?_
        refine l_move rfl rfl ?_
        refine l_nil ?_
        (first | exact g_againi (ihk (k + 1, some ⟨g119, 0, none⟩, c119, mR ++ [lat ms k.toNat], TR ++ [tat Ts k.toNat], lR) ⟨by simp only; omega, by simp only; omega, by rw [show (k + 1).toNat = k.toNat + 1 by omega]; exact delN_put (R := TR) (l := lR) hdl (by omega), by simp only [List.length_append, List.length_singleton]; omega, by simp only [List.length_append, List.length_singleton]; omega, hrd.snoc hlen hk1.1 hk1.2.1 hk1.2.2, .inr ⟨_, rfl⟩, l0, l1⟩ (by simp only; omega)) (.cons rfl (.cons rfl (.cons rfl (.cons rfl (.cons rfl (.cons rfl (.cons rfl (.cons rfl (.cons rfl (.cons rfl (.cons rfl (.cons rfl (.cons rfl (.cons rfl (.cons rfl (.cons rfl (.cons rfl (.cons rfl (.cons rfl (.cons rfl (.cons rfl (.cons rfl (.cons rfl (.cons rfl (.cons rfl (.nil)))))))))))))))))))))))))) | exact g_againi (ihk (k + 1, aR, cR, mR, TR, lR + 1) ⟨by simp only; omega, by simp only; omega, by rw [show (k + 1).toNat = k.toNat + 1 by omega]; exact delN_lost (R := TR) (l := lR) hdl (by omega) (by omega), hlen, hle, hrd, haR, by simp only; omega, by simp only; omega⟩ (by simp only; omega)) (.cons rfl (.cons rfl (.cons rfl (.cons rfl (.cons rfl (.cons rfl (.cons rfl (.cons rfl (.cons rfl (.cons rfl (.cons rfl (.cons rfl (.cons rfl (.cons rfl (.cons rfl (.cons rfl (.cons rfl (.cons rfl (.cons rfl (.cons rfl (.cons rfl (.cons rfl (.cons rfl (.cons rfl (.cons rfl (.nil)))))))))))))))))))))))))) | exact g_againi (ihk (k + 1, aR, cR, mR, TR, lR) ⟨by simp only; omega, by simp only; omega, by rw [show (k + 1).toNat = k.toNat + 1 by omega]; exact delN_full (R := TR) (l := lR) hdl (by omega) (by omega), hlen, hle, hrd, haR, l0, l1⟩ (by simp only; omega)) (.cons rfl (.cons rfl (.cons rfl (.cons rfl (.cons rfl (.cons rfl (.cons rfl (.cons rfl (.cons rfl (.cons rfl (.cons rfl (.cons rfl (.cons rfl (.cons rfl (.cons rfl (.cons rfl (.cons rfl (.cons rfl (.cons rfl (.cons rfl (.cons rfl (.cons rfl (.cons rfl (.cons rfl (.cons rfl (.nil)))))))))))))))))))))))))))
      intro hbr
      have hbr := of_decide_eq_false hbr
      refine g_seq ?_
      refine g_region ?_
      refine l_fieldAddr rfl fa_64_1 rfl ?_
      first | refine l_ld rfl Try.isAgg33 rfl rfl ?_ | refine l_ldw rfl Try.isAgg33 rfl (by omega) ?_
      refine l_lss rfl rfl rfl ?_
      refine l_assign rfl rfl ?_
      refine l_nil ?_
      refine g_cond rfl ?_ ?_
      · intro hbr
        have hbr := of_decide_eq_true hbr
        refine g_region ?_
        refine l_fieldAddr rfl fa_64_1 rfl ?_
        first | refine l_ld rfl Try.isAgg33 rfl rfl ?_ | refine l_ldw rfl Try.isAgg33 rfl (by omega) ?_
        refine l_add rfl rfl rfl (w_u32 (by omega) (by omega)) ?_
        refine l_fieldAddr rfl fa_64_1 rfl ?_
        first | refine l_st Try.sizeOf33 rfl rfl rfl rfl ?_ | refine l_stw Try.sizeOf33 rfl rfl (by omega) ?_
        refine l_nil ?_
        refine g_inBlock ?_
        refine g_inBlock ?_
        refine g_region ?_
        first | refine l_add rfl rfl rfl (w_i64 (by omega) (by omega)) ?_ | refine l_addw rfl rfl rfl ?_
        refine l_move rfl rfl ?_
        refine l_nil ?_
        (first | exact g_againi (ihk (k + 1, some ⟨g119, 0, none⟩, c119, mR ++ [lat ms k.toNat], TR ++ [tat Ts k.toNat], lR) ⟨by simp only; omega, by simp only; omega, by rw [show (k + 1).toNat = k.toNat + 1 by omega]; exact delN_put (R := TR) (l := lR) hdl (by omega), by simp only [List.length_append, List.length_singleton]; omega, by simp only [List.length_append, List.length_singleton]; omega, hrd.snoc hlen hk1.1 hk1.2.1 hk1.2.2, .inr ⟨_, rfl⟩, l0, l1⟩ (by simp only; omega)) (.cons rfl (.cons rfl (.cons rfl (.cons rfl (.cons rfl (.cons rfl (.cons rfl (.cons rfl (.cons rfl (.cons rfl (.cons rfl (.cons rfl (.cons rfl (.cons rfl (.cons rfl (.cons rfl (.cons rfl (.cons rfl (.cons rfl (.cons rfl (.cons rfl (.cons rfl (.cons rfl (.cons rfl (.cons rfl (.nil)))))))))))))))))))))))))) | exact g_againi (ihk (k + 1, aR, cR, mR, TR, lR + 1) ⟨by simp only; omega, by simp only; omega, by rw [show (k + 1).toNat = k.toNat + 1 by omega]; exact delN_lost (R := TR) (l := lR) hdl (by omega) (by omega), hlen, hle, hrd, haR, by simp only; omega, by simp only; omega⟩ (by simp only; omega)) (.cons rfl (.cons rfl (.cons rfl (.cons rfl (.cons rfl (.cons rfl (.cons rfl (.cons rfl (.cons rfl (.cons rfl (.cons rfl (.cons rfl (.cons rfl (.cons rfl (.cons rfl (.cons rfl (.cons rfl (.cons rfl (.cons rfl (.cons rfl (.cons rfl (.cons rfl (.cons rfl (.cons rfl (.cons rfl (.nil)))))))))))))))))))))))))) | exact g_againi (ihk (k + 1, aR, cR, mR, TR, lR) ⟨by simp only; omega, by simp only; omega, by rw [show (k + 1).toNat = k.toNat + 1 by omega]; exact delN_full (R := TR) (l := lR) hdl (by omega) (by omega), hlen, hle, hrd, haR, l0, l1⟩ (by simp only; omega)) (.cons rfl (.cons rfl (.cons rfl (.cons rfl (.cons rfl (.cons rfl (.cons rfl (.cons rfl (.cons rfl (.cons rfl (.cons rfl (.cons rfl (.cons rfl (.cons rfl (.cons rfl (.cons rfl (.cons rfl (.cons rfl (.cons rfl (.cons rfl (.cons rfl (.cons rfl (.cons rfl (.cons rfl (.cons rfl (.nil)))))))))))))))))))))))))))
      intro hbr
      have hbr := of_decide_eq_false hbr
      refine g_skip ?_
      refine g_inBlock ?_
      refine g_inBlock ?_
      refine g_region ?_
      first | refine l_add rfl rfl rfl (w_i64 (by omega) (by omega)) ?_ | refine l_addw rfl rfl rfl ?_
      refine l_move rfl rfl ?_
      refine l_nil ?_
      (first | exact g_againi (ihk (k + 1, some ⟨g119, 0, none⟩, c119, mR ++ [lat ms k.toNat], TR ++ [tat Ts k.toNat], lR) ⟨by simp only; omega, by simp only; omega, by rw [show (k + 1).toNat = k.toNat + 1 by omega]; exact delN_put (R := TR) (l := lR) hdl (by omega), by simp only [List.length_append, List.length_singleton]; omega, by simp only [List.length_append, List.length_singleton]; omega, hrd.snoc hlen hk1.1 hk1.2.1 hk1.2.2, .inr ⟨_, rfl⟩, l0, l1⟩ (by simp only; omega)) (.cons rfl (.cons rfl (.cons rfl (.cons rfl (.cons rfl (.cons rfl (.cons rfl (.cons rfl (.cons rfl (.cons rfl (.cons rfl (.cons rfl (.cons rfl (.cons rfl (.cons rfl (.cons rfl (.cons rfl (.cons rfl (.cons rfl (.cons rfl (.cons rfl (.cons rfl (.cons rfl (.cons rfl (.cons rfl (.nil)))))))))))))))))))))))))) | exact g_againi (ihk (k + 1, aR, cR, mR, TR, lR + 1) ⟨by simp only; omega, by simp only; omega, by rw [show (k + 1).toNat = k.toNat + 1 by omega]; exact delN_lost (R := TR) (l := lR) hdl (by omega) (by omega), hlen, hle, hrd, haR, by simp only; omega, by simp only; omega⟩ (by simp only; omega)) (.cons rfl (.cons rfl (.cons rfl (.cons rfl (.cons rfl (.cons rfl (.cons rfl (.cons rfl (.cons rfl (.cons rfl (.cons rfl (.cons rfl (.cons rfl (.cons rfl (.cons rfl (.cons rfl (.cons rfl (.cons rfl (.cons rfl (.cons rfl (.cons rfl (.cons rfl (.cons rfl (.cons rfl (.cons rfl (.nil)))))))))))))))))))))))))) | exact g_againi (ihk (k + 1, aR, cR, mR, TR, lR) ⟨by simp only; omega, by simp only; omega, by rw [show (k + 1).toNat = k.toNat + 1 by omega]; exact delN_full (R := TR) (l := lR) hdl (by omega) (by omega), hlen, hle, hrd, haR, l0, l1⟩ (by simp only; omega)) (.cons rfl (.cons rfl (.cons rfl (.cons rfl (.cons rfl (.cons rfl (.cons rfl (.cons rfl (.cons rfl (.cons rfl (.cons rfl (.cons rfl (.cons rfl (.cons rfl (.cons rfl (.cons rfl (.cons rfl (.cons rfl (.cons rfl (.cons rfl (.cons rfl (.cons rfl (.cons rfl (.cons rfl (.cons rfl (.nil)))))))))))))))))))))))))))
    intro hbr
    have hbr := of_decide_eq_false hbr
    refine g_exit rfl ?_
    obtain rfl : k = ms.length := by omega
    rw [Int.toNat_natCast, hml] at hdl
    refine g_region ?_
    refine l_lds rfl Try.isAgg61 Try.sizeOf61 rfl rfl ?_
    refine l_move rfl rfl ?_
    refine l_move rfl rfl ?_
    refine l_lds rfl Try.isAgg64 Try.sizeOf64 rfl rfl ?_
    refine l_fronto g ?_
    refine l_frontb b ?_
    refine l_call rfl Try.call29 rfl (layport_ok _ _ wd dp w1 w2 d1 d2 b g n c (dlW W wd dp Ts L i.toNat) hdwl hc hn (L.getD i.toNat 0) (hrg i.toNat (by omega)) fn (by omega) lR aR mR.length cR mR TR rfl (by omega) (haR.imp id fun ⟨g9, h9⟩ => ⟨g9, 0, h9, by subst h9; exact .own (E := 29) (sz := 1) (n := mR.length) (cap := cR) (by first | exact mem_getO 0 rfl | exact mem_getO 1 rfl | exact mem_getO 2 rfl | exact mem_getO 3 rfl | exact mem_getO 4 rfl | exact mem_getO 5 rfl | exact mem_getO 6 rfl | exact mem_getO 7 rfl | exact mem_getO 8 rfl | exact mem_getO 9 rfl | exact mem_getO 10 rfl | exact mem_getO 11 rfl)⟩) (fun j hj => ⟨(hrd j hj).1.sp (fun w hw => hw.sub (.cons _ (.cons _ (.cons _ (.cons_cons _ (.cons_cons _ (List.nil_sublist _))))))), (hrd j hj).2⟩)) ?_; rintro _ _ rfl
    refine l_nil ?_
    refine g_inBlock ?_
    refine g_region ?_
    first | refine l_add rfl rfl rfl (w_i64 (by omega) (by omega)) ?_ | refine l_addw rfl rfl rfl ?_
    refine l_move rfl rfl ?_
    refine l_nil ?_
    refine g_take (BigBut ln i.toNat (prF R i.toNat)) ?_
    refine g_closep ?_
    have e9 : (dlW W wd dp Ts L (i + 1).toNat) = spl (L.getD i.toNat 0).toNat (portL wd dp fn lR TR mR.length) (dlW W wd dp Ts L i.toNat) := by rw [show (i + 1).toNat = i.toNat + 1 by omega]; simp only [dlW, dlP]; rw [← hTe2, ← hls2, hdl, efn, hlen]; rfl
    rw [← e9, show i.toNat + 1 = (i + 1).toNat by omega]
    exact g_againi (ihq (i + 1) ⟨by omega, by omega⟩ (by omega)) (.cons rfl (.cons rfl (.cons rfl (.cons rfl (.cons rfl (.cons rfl (.cons rfl (.cons rfl (.cons rfl (.cons rfl (.nil)))))))))))
  intro hbr
  have hbr := of_decide_eq_false hbr
  refine g_exit rfl ?_
  obtain rfl : i = (ln : Int) := by omega
  rw [Int.toNat_natCast] at hdwl ⊢
  refine g_seq ?_
  refine g_region ?_
  refine l_lds rfl Try.isAgg61 Try.sizeOf61 rfl rfl ?_
  refine l_move rfl rfl ?_
  refine l_move rfl rfl ?_
  refine l_build rfl rfl (fun w => bd_64_z w) ?_
  refine l_buildSlice rfl Try.underlying29 Try.sizeOf33 Try.zeroValue33 rfl rfl rfl rfl rfl rfl ?_; intro b140
  refine l_fronto g ?_
  refine l_frontb b ?_
  refine l_call rfl Try.call25 rfl (lay_row _ _ wd dp w1 w2 d1 d2 b g n c (dlW W wd dp Ts L ln) hdwl hc hn st 1 1 b140 0 [((0 : Nat) : Int)] rfl (by omega) (by omega) (by omega) (.own (E := 33) (sz := 1) (n := 1) (cap := 1) (by first | exact mem_getO 0 rfl | exact mem_getO 1 rfl | exact mem_getO 2 rfl | exact mem_getO 3 rfl | exact mem_getO 4 rfl | exact mem_getO 5 rfl | exact mem_getO 6 rfl | exact mem_getO 7 rfl | exact mem_getO 8 rfl | exact mem_getO 9 rfl)) hs 0 (by omega) 0 none 0 0 [] [] rfl (by omega) (.inl rfl) (fun j hj => by simp at hj)) ?_; rintro _ _ rfl
  refine l_nil ?_
  refine g_seq ?_
  refine g_region ?_
  refine l_assign rfl rfl ?_
  refine l_nil ?_
  refine g_ret Try.func9 rfl (.tmp rfl .nil) ?_
  have hs2 := hs
  unfold inR at hs2
  rw [StgR.eq hR] at hdwl ⊢
  exact Gives.mki ⟨0, dlZ W st wd dp L, rfl, by unfold dlZ; rw [hLn]; rw [spl_length (by rw [layN_len (by omega) 0 (fun j hj => by omega)]; show _ + (1 + _) ≤ _; omega)]; exact hdwl, by unfold dlZ; rw [hLn], .inr (.inr (.inr ⟨by omega, ⟨hs, hrg⟩, ⟨⟨_, hR⟩, hfr⟩, rfl, rfl⟩))⟩
end Go.Proofs.Ytecibldbnekgbaa.Fw
