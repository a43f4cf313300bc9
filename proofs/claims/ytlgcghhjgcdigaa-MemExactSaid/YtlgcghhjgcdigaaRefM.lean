import Derived.Test.YtlgcghhjgcdigaaMore
namespace Go.Proofs.Ytlgcghhjgcdigaa.Fw
open Go Go.Proofs
set_option linter.unusedVariables false
set_option linter.unusedSimpArgs false
set_option maxRecDepth 10000
theorem fa_104_0 (a : Addr) (w : World) : (Instr.fieldAt 104 (.pointer (some a)) 0).run Try.prog w = .ok (.pointer (some (a.add 0))) w := by
  simp [Instr.fieldAt, Try.runUnderlying104, Instr.sureAddr, fieldPlace, Try.sizeOf23, Sem.run_bind, Sem.run_pure]
theorem bd_104_z  (w : World) : (Instr.build 104 #[]).run Try.prog w = .ok (.agg #[.slice none 0 0]) w := by kernel_rfl
theorem run_ok (w0 : World) (F : List Atom) (b : Nat) (a : Option Addr) (n c : Nat) (hn : n ≤ 9223372036854775807) (at_ k : Int) (a0 : -9223372036854775808 ≤ at_) (a1 : at_ ≤ 9223372036854775807) (k0 : -9223372036854775808 ≤ k) (k1 : k ≤ 9223372036854775807) (h : inR n at_ k) :
    CallK Try.prog 59 [.pointer (some ⟨b, 0, none⟩), .int .i64 at_, .int .i64 k] w0 (Blk b (.cells [.slice a n c].toArray 104 (0, 0)) :: F) (Gives w0 fun v F2 => v = .bool true ∧ F2 = Blk b (.cells [.slice a n c].toArray 104 (0, 0)) :: F) := by
  unfold inR at h
  refine c_enter Try.func59 rfl rfl rfl ?_
  refine g_seq ?_
  refine g_region ?_
  refine l_assign rfl rfl ?_
  refine l_nil ?_
  refine g_seq ?_
  refine g_region ?_
  refine l_move rfl rfl ?_
  refine l_geq rfl rfl rfl ?_
  refine l_move rfl rfl ?_
  refine l_split 9 rfl ?_ ?_
  · intro hbr
    have hbr := of_decide_eq_true hbr
    refine l_guard_yes rfl rfl ?_
    refine l_move rfl rfl ?_
    refine l_guard_yes rfl rfl ?_
    refine l_geq rfl rfl rfl ?_
    refine l_pick_t rfl rfl rfl ?_
    refine l_move rfl rfl ?_
    refine l_split 13 rfl ?_ ?_
    · intro hbr
      have hbr := of_decide_eq_true hbr
      refine l_guard_yes rfl rfl ?_
      refine l_move rfl rfl ?_
      refine l_guard_yes rfl rfl ?_
      refine l_move rfl rfl ?_
      refine l_guard_yes rfl rfl ?_
      refine l_nilCheck rfl rfl ?_
      refine l_guard_yes rfl rfl ?_
      refine l_fieldAddr rfl fa_104_0 rfl ?_
      refine l_guard_yes rfl rfl ?_
      refine l_ld rfl Try.isAgg23 rfl rfl ?_
      refine l_guard_yes rfl rfl ?_
      refine l_len rfl Try.underlying23 rfl ?_
      refine l_guard_yes rfl rfl ?_
      refine l_leq rfl rfl rfl ?_
      refine l_pick_t rfl rfl rfl ?_
      refine l_move rfl rfl ?_
      refine l_split 22 rfl ?_ ?_
      · intro hbr
        have hbr := of_decide_eq_true hbr
        refine l_guard_yes rfl rfl ?_
        refine l_move rfl rfl ?_
        refine l_guard_yes rfl rfl ?_
        refine l_move rfl rfl ?_
        refine l_guard_yes rfl rfl ?_
        refine l_nilCheck rfl rfl ?_
        refine l_guard_yes rfl rfl ?_
        refine l_fieldAddr rfl fa_104_0 rfl ?_
        refine l_guard_yes rfl rfl ?_
        refine l_ld rfl Try.isAgg23 rfl rfl ?_
        refine l_guard_yes rfl rfl ?_
        refine l_len rfl Try.underlying23 rfl ?_
        refine l_guard_yes rfl rfl ?_
        refine l_move rfl rfl ?_
        refine l_guard_yes rfl rfl ?_
        first | refine l_sub_ rfl rfl rfl (w_i64 (by omega) (by omega)) ?_ | refine l_subw rfl rfl rfl ?_
        refine l_guard_yes rfl rfl ?_
        refine l_leq rfl rfl rfl ?_
        refine l_pick_t rfl rfl rfl ?_
        refine l_assign rfl rfl ?_
        refine l_nil ?_
        refine g_ret Try.func59 rfl (.tmp rfl .nil) ?_
        exact Gives.mk ⟨congrArg Value.bool (decide_eq_true (by omega)), rfl⟩ .refl
      · intro hbr
        have hbr := of_decide_eq_false hbr
        (exfalso; omega)
    · intro hbr
      have hbr := of_decide_eq_false hbr
      (exfalso; omega)
  · intro hbr
    have hbr := of_decide_eq_false hbr
    (exfalso; omega)
theorem run_bad (w0 : World) (F : List Atom) (b : Nat) (a : Option Addr) (n c : Nat) (hn : n ≤ 9223372036854775807) (at_ k : Int) (a0 : -9223372036854775808 ≤ at_) (a1 : at_ ≤ 9223372036854775807) (k0 : -9223372036854775808 ≤ k) (k1 : k ≤ 9223372036854775807) (h : ¬ inR n at_ k) :
    CallK Try.prog 59 [.pointer (some ⟨b, 0, none⟩), .int .i64 at_, .int .i64 k] w0 (Blk b (.cells [.slice a n c].toArray 104 (0, 0)) :: F) (Gives w0 fun v F2 => v = .bool false ∧ F2 = Blk b (.cells [.slice a n c].toArray 104 (0, 0)) :: F) := by
  unfold inR at h
  refine c_enter Try.func59 rfl rfl rfl ?_
  refine g_seq ?_
  refine g_region ?_
  refine l_assign rfl rfl ?_
  refine l_nil ?_
  refine g_seq ?_
  refine g_region ?_
  refine l_move rfl rfl ?_
  refine l_geq rfl rfl rfl ?_
  refine l_move rfl rfl ?_
  refine l_split 9 rfl ?_ ?_
  · intro hbr
    have hbr := of_decide_eq_true hbr
    refine l_guard_yes rfl rfl ?_
    refine l_move rfl rfl ?_
    refine l_guard_yes rfl rfl ?_
    refine l_geq rfl rfl rfl ?_
    refine l_pick_t rfl rfl rfl ?_
    refine l_move rfl rfl ?_
    refine l_split 13 rfl ?_ ?_
    · intro hbr
      have hbr := of_decide_eq_true hbr
      refine l_guard_yes rfl rfl ?_
      refine l_move rfl rfl ?_
      refine l_guard_yes rfl rfl ?_
      refine l_move rfl rfl ?_
      refine l_guard_yes rfl rfl ?_
      refine l_nilCheck rfl rfl ?_
      refine l_guard_yes rfl rfl ?_
      refine l_fieldAddr rfl fa_104_0 rfl ?_
      refine l_guard_yes rfl rfl ?_
      refine l_ld rfl Try.isAgg23 rfl rfl ?_
      refine l_guard_yes rfl rfl ?_
      refine l_len rfl Try.underlying23 rfl ?_
      refine l_guard_yes rfl rfl ?_
      refine l_leq rfl rfl rfl ?_
      refine l_pick_t rfl rfl rfl ?_
      refine l_move rfl rfl ?_
      refine l_split 22 rfl ?_ ?_
      · intro hbr
        have hbr := of_decide_eq_true hbr
        refine l_guard_yes rfl rfl ?_
        refine l_move rfl rfl ?_
        refine l_guard_yes rfl rfl ?_
        refine l_move rfl rfl ?_
        refine l_guard_yes rfl rfl ?_
        refine l_nilCheck rfl rfl ?_
        refine l_guard_yes rfl rfl ?_
        refine l_fieldAddr rfl fa_104_0 rfl ?_
        refine l_guard_yes rfl rfl ?_
        refine l_ld rfl Try.isAgg23 rfl rfl ?_
        refine l_guard_yes rfl rfl ?_
        refine l_len rfl Try.underlying23 rfl ?_
        refine l_guard_yes rfl rfl ?_
        refine l_move rfl rfl ?_
        refine l_guard_yes rfl rfl ?_
        first | refine l_sub_ rfl rfl rfl (w_i64 (by omega) (by omega)) ?_ | refine l_subw rfl rfl rfl ?_
        refine l_guard_yes rfl rfl ?_
        refine l_leq rfl rfl rfl ?_
        refine l_pick_t rfl rfl rfl ?_
        refine l_assign rfl rfl ?_
        refine l_nil ?_
        refine g_ret Try.func59 rfl (.tmp rfl .nil) ?_
        (first | exact Gives.mk ⟨congrArg Value.bool (decide_eq_false (by omega)), rfl⟩ .refl | exact Gives.mk ⟨rfl, rfl⟩ .refl)
      intro hbr
      have hbr := of_decide_eq_false hbr
      refine l_guard_no rfl rfl rfl ?_
      refine l_guard_no rfl rfl rfl ?_
      refine l_guard_no rfl rfl rfl ?_
      refine l_guard_no rfl rfl rfl ?_
      refine l_guard_no rfl rfl rfl ?_
      refine l_guard_no rfl rfl rfl ?_
      refine l_guard_no rfl rfl rfl ?_
      refine l_guard_no rfl rfl rfl ?_
      refine l_guard_no rfl rfl rfl ?_
      refine l_pick_f rfl rfl rfl ?_
      refine l_assign rfl rfl ?_
      refine l_nil ?_
      refine g_ret Try.func59 rfl (.tmp rfl .nil) ?_
      (first | exact Gives.mk ⟨congrArg Value.bool (decide_eq_false (by omega)), rfl⟩ .refl | exact Gives.mk ⟨rfl, rfl⟩ .refl)
    intro hbr
    have hbr := of_decide_eq_false hbr
    refine l_guard_no rfl rfl rfl ?_
    refine l_guard_no rfl rfl rfl ?_
    refine l_guard_no rfl rfl rfl ?_
    refine l_guard_no rfl rfl rfl ?_
    refine l_guard_no rfl rfl rfl ?_
    refine l_guard_no rfl rfl rfl ?_
    refine l_guard_no rfl rfl rfl ?_
    refine l_pick_f rfl rfl rfl ?_
    refine l_move rfl rfl ?_
    refine l_guard_no rfl rfl rfl ?_
    refine l_guard_no rfl rfl rfl ?_
    refine l_guard_no rfl rfl rfl ?_
    refine l_guard_no rfl rfl rfl ?_
    refine l_guard_no rfl rfl rfl ?_
    refine l_guard_no rfl rfl rfl ?_
    refine l_guard_no rfl rfl rfl ?_
    refine l_guard_no rfl rfl rfl ?_
    refine l_guard_no rfl rfl rfl ?_
    refine l_pick_f rfl rfl rfl ?_
    refine l_assign rfl rfl ?_
    refine l_nil ?_
    refine g_ret Try.func59 rfl (.tmp rfl .nil) ?_
    (first | exact Gives.mk ⟨congrArg Value.bool (decide_eq_false (by omega)), rfl⟩ .refl | exact Gives.mk ⟨rfl, rfl⟩ .refl)
  intro hbr
  have hbr := of_decide_eq_false hbr
  refine l_guard_no rfl rfl rfl ?_
  refine l_guard_no rfl rfl rfl ?_
  refine l_pick_f rfl rfl rfl ?_
  refine l_move rfl rfl ?_
  refine l_guard_no rfl rfl rfl ?_
  refine l_guard_no rfl rfl rfl ?_
  refine l_guard_no rfl rfl rfl ?_
  refine l_guard_no rfl rfl rfl ?_
  refine l_guard_no rfl rfl rfl ?_
  refine l_guard_no rfl rfl rfl ?_
  refine l_guard_no rfl rfl rfl ?_
  refine l_pick_f rfl rfl rfl ?_
  refine l_move rfl rfl ?_
  refine l_guard_no rfl rfl rfl ?_
  refine l_guard_no rfl rfl rfl ?_
  refine l_guard_no rfl rfl rfl ?_
  refine l_guard_no rfl rfl rfl ?_
  refine l_guard_no rfl rfl rfl ?_
  refine l_guard_no rfl rfl rfl ?_
  refine l_guard_no rfl rfl rfl ?_
  refine l_guard_no rfl rfl rfl ?_
  refine l_guard_no rfl rfl rfl ?_
  refine l_pick_f rfl rfl rfl ?_
  refine l_assign rfl rfl ?_
  refine l_nil ?_
  refine g_ret Try.func59 rfl (.tmp rfl .nil) ?_
  (first | exact Gives.mk ⟨congrArg Value.bool (decide_eq_false (by omega)), rfl⟩ .refl | exact Gives.mk ⟨rfl, rfl⟩ .refl)
theorem rread_ok (w0 : World) (F : List Atom) (b g n c : Nat) (W : List Int) (hW : W.length = n) (hc : n ≤ c) (hn : n ≤ 1073741824) (at_ : Int) (a1 : at_ ≤ 9223372036854775807) (h : inR n at_ 1) :
    CallK Try.prog 50 [.pointer (some ⟨b, 0, none⟩), .int .i64 at_] w0 (Blk b (.cells [.slice (some ⟨g, 0, none⟩) n c].toArray 104 (0, 0)) :: Own 30 1 (.slice (some ⟨g, 0, none⟩) n c) n (ints .u32 W) :: F) (Gives w0 fun v F2 => v = .tuple #[.int .u32 (W.getD at_.toNat 0), .int .i64 0] ∧ F2 = Blk b (.cells [.slice (some ⟨g, 0, none⟩) n c].toArray 104 (0, 0)) :: Own 30 1 (.slice (some ⟨g, 0, none⟩) n c) n (ints .u32 W) :: F) := by
  obtain ⟨h0, h1⟩ := inR1 h
  refine c_enter Try.func50 rfl rfl rfl ?_
  refine g_seq ?_
  refine g_region ?_
  refine l_assign rfl rfl ?_
  refine l_assign rfl rfl ?_
  refine l_nil ?_
  refine g_seq ?_
  refine g_seq ?_
  refine g_region ?_
  refine l_move rfl rfl ?_
  refine l_eqpn rfl Try.underlying87 rfl rfl ?_
  refine l_nil ?_
  first | refine g_cond_f rfl ?_ | refine g_cond_f (congrArg (fun b => some (Value.bool b)) (decide_eq_false hbr)) ?_
  refine g_skip ?_
  refine g_seq ?_
  refine g_seq ?_
  refine g_region ?_
  refine l_move rfl rfl ?_
  refine l_move rfl rfl ?_
  refine l_call rfl Try.call59 rfl (run_ok _ _ _ _ _ _ (by omega) _ _ (by omega) (by omega) (by omega) (by omega) h) ?_; rintro _ _ ⟨rfl, rfl⟩
  refine l_not rfl rfl ?_
  refine l_nil ?_
  first | refine g_cond_f rfl ?_ | refine g_cond_f (congrArg (fun b => some (Value.bool b)) (decide_eq_false hbr)) ?_
  refine g_skip ?_
  refine g_seq ?_
  refine g_region ?_
  refine l_move rfl rfl ?_
  refine l_nilCheck rfl rfl ?_
  refine l_fieldAddr rfl fa_104_0 rfl ?_
  refine l_ld rfl Try.isAgg23 rfl rfl ?_
  refine l_move rfl rfl ?_
  refine l_ixs rfl Try.underlying23 Try.sizeOf30 rfl rfl (by omega) (by omega) ?_
  refine l_loadc rfl Try.isAgg30 rfl (word_at (mem_getO 1 rfl) (by omega)) ?_
  refine l_assign rfl rfl ?_
  refine l_assign rfl rfl ?_
  refine l_nil ?_
  refine g_ret Try.func50 rfl (.tmp rfl (.tmp rfl .nil)) ?_
  exact Gives.mk ⟨rfl, rfl⟩ .refl
theorem rread_bad (w0 : World) (F : List Atom) (b g n c : Nat) (W : List Int) (hW : W.length = n) (hc : n ≤ c) (hn : n ≤ 1073741824) (at_ : Int) (a0 : -9223372036854775808 ≤ at_) (a1 : at_ ≤ 9223372036854775807) (h : ¬ inR n at_ 1) :
    CallK Try.prog 50 [.pointer (some ⟨b, 0, none⟩), .int .i64 at_] w0 (Blk b (.cells [.slice (some ⟨g, 0, none⟩) n c].toArray 104 (0, 0)) :: Own 30 1 (.slice (some ⟨g, 0, none⟩) n c) n (ints .u32 W) :: F) (Gives w0 fun v F2 => v = .tuple #[.int .u32 0, .int .i64 51] ∧ F2 = Blk b (.cells [.slice (some ⟨g, 0, none⟩) n c].toArray 104 (0, 0)) :: Own 30 1 (.slice (some ⟨g, 0, none⟩) n c) n (ints .u32 W) :: F) := by
  refine c_enter Try.func50 rfl rfl rfl ?_
  refine g_seq ?_
  refine g_region ?_
  refine l_assign rfl rfl ?_
  refine l_assign rfl rfl ?_
  refine l_nil ?_
  refine g_seq ?_
  refine g_seq ?_
  refine g_region ?_
  refine l_move rfl rfl ?_
  refine l_eqpn rfl Try.underlying87 rfl rfl ?_
  refine l_nil ?_
  first | refine g_cond_f rfl ?_ | refine g_cond_f (congrArg (fun b => some (Value.bool b)) (decide_eq_false hbr)) ?_
  refine g_skip ?_
  refine g_seq ?_
  refine g_seq ?_
  refine g_region ?_
  refine l_move rfl rfl ?_
  refine l_move rfl rfl ?_
  refine l_call rfl Try.call59 rfl (run_bad _ _ _ _ _ _ (by omega) _ _ (by omega) (by omega) (by omega) (by omega) h) ?_; rintro _ _ ⟨rfl, rfl⟩
  refine l_not rfl rfl ?_
  refine l_nil ?_
  first | refine g_cond_t rfl ?_ | refine g_cond_t (congrArg (fun b => some (Value.bool b)) (decide_eq_true hbr)) ?_
  refine g_seq ?_
  refine g_region ?_
  refine l_assign rfl rfl ?_
  refine l_assign rfl rfl ?_
  refine l_nil ?_
  refine g_ret Try.func50 rfl (.tmp rfl (.tmp rfl .nil)) ?_
  exact Gives.mk ⟨rfl, rfl⟩ .refl
theorem rwrite_ok (w0 : World) (F : List Atom) (b g n c : Nat) (W : List Int) (hW : W.length = n) (hc : n ≤ c) (hn : n ≤ 1073741824) (at_ x : Int) (a1 : at_ ≤ 9223372036854775807) (h : inR n at_ 1) :
    CallK Try.prog 51 [.pointer (some ⟨b, 0, none⟩), .int .i64 at_, .int .u32 x] w0 (Blk b (.cells [.slice (some ⟨g, 0, none⟩) n c].toArray 104 (0, 0)) :: Own 30 1 (.slice (some ⟨g, 0, none⟩) n c) n (ints .u32 W) :: F) (Gives w0 fun v F2 => v = .int .i64 0 ∧ F2 = Blk b (.cells [.slice (some ⟨g, 0, none⟩) n c].toArray 104 (0, 0)) :: Own 30 1 (.slice (some ⟨g, 0, none⟩) n c) n (ints .u32 (W.set at_.toNat x)) :: F) := by
  obtain ⟨h0, h1⟩ := inR1 h
  refine c_enter Try.func51 rfl rfl rfl ?_
  refine g_seq ?_
  refine g_region ?_
  refine l_assign rfl rfl ?_
  refine l_nil ?_
  refine g_seq ?_
  refine g_seq ?_
  refine g_region ?_
  refine l_move rfl rfl ?_
  refine l_eqpn rfl Try.underlying87 rfl rfl ?_
  refine l_nil ?_
  first | refine g_cond_f rfl ?_ | refine g_cond_f (congrArg (fun b => some (Value.bool b)) (decide_eq_false hbr)) ?_
  refine g_skip ?_
  refine g_seq ?_
  refine g_seq ?_
  refine g_region ?_
  refine l_move rfl rfl ?_
  refine l_move rfl rfl ?_
  refine l_call rfl Try.call59 rfl (run_ok _ _ _ _ _ _ (by omega) _ _ (by omega) (by omega) (by omega) (by omega) h) ?_; rintro _ _ ⟨rfl, rfl⟩
  refine l_not rfl rfl ?_
  refine l_nil ?_
  first | refine g_cond_f rfl ?_ | refine g_cond_f (congrArg (fun b => some (Value.bool b)) (decide_eq_false hbr)) ?_
  refine g_skip ?_
  refine g_seq ?_
  refine g_region ?_
  refine l_move rfl rfl ?_
  refine l_nilCheck rfl rfl ?_
  refine l_fieldAddr rfl fa_104_0 rfl ?_
  refine l_ld rfl Try.isAgg23 rfl rfl ?_
  refine l_move rfl rfl ?_
  refine l_move rfl rfl ?_
  refine l_ixs rfl Try.underlying23 Try.sizeOf30 rfl rfl (by omega) (by omega) ?_
  refine l_storew 1 Try.sizeOf30 rfl rfl rfl (by omega) rfl ?_
  refine l_nil ?_
  refine g_seq ?_
  refine g_region ?_
  refine l_assign rfl rfl ?_
  refine l_nil ?_
  refine g_ret Try.func51 rfl (.tmp rfl .nil) ?_
  exact Gives.mk ⟨rfl, rfl⟩ .refl
theorem rwrite_bad (w0 : World) (F : List Atom) (b g n c : Nat) (W : List Int) (hW : W.length = n) (hc : n ≤ c) (hn : n ≤ 1073741824) (x : Int) (at_ : Int) (a0 : -9223372036854775808 ≤ at_) (a1 : at_ ≤ 9223372036854775807) (h : ¬ inR n at_ 1) :
    CallK Try.prog 51 [.pointer (some ⟨b, 0, none⟩), .int .i64 at_, .int .u32 x] w0 (Blk b (.cells [.slice (some ⟨g, 0, none⟩) n c].toArray 104 (0, 0)) :: Own 30 1 (.slice (some ⟨g, 0, none⟩) n c) n (ints .u32 W) :: F) (Gives w0 fun v F2 => v = .int .i64 51 ∧ F2 = Blk b (.cells [.slice (some ⟨g, 0, none⟩) n c].toArray 104 (0, 0)) :: Own 30 1 (.slice (some ⟨g, 0, none⟩) n c) n (ints .u32 W) :: F) := by
  refine c_enter Try.func51 rfl rfl rfl ?_
  refine g_seq ?_
  refine g_region ?_
  refine l_assign rfl rfl ?_
  refine l_nil ?_
  refine g_seq ?_
  refine g_seq ?_
  refine g_region ?_
  refine l_move rfl rfl ?_
  refine l_eqpn rfl Try.underlying87 rfl rfl ?_
  refine l_nil ?_
  first | refine g_cond_f rfl ?_ | refine g_cond_f (congrArg (fun b => some (Value.bool b)) (decide_eq_false hbr)) ?_
  refine g_skip ?_
  refine g_seq ?_
  refine g_seq ?_
  refine g_region ?_
  refine l_move rfl rfl ?_
  refine l_move rfl rfl ?_
  refine l_call rfl Try.call59 rfl (run_bad _ _ _ _ _ _ (by omega) _ _ (by omega) (by omega) (by omega) (by omega) h) ?_; rintro _ _ ⟨rfl, rfl⟩
  refine l_not rfl rfl ?_
  refine l_nil ?_
  first | refine g_cond_t rfl ?_ | refine g_cond_t (congrArg (fun b => some (Value.bool b)) (decide_eq_true hbr)) ?_
  refine g_seq ?_
  refine g_region ?_
  refine l_assign rfl rfl ?_
  refine l_nil ?_
  refine g_ret Try.func51 rfl (.tmp rfl .nil) ?_
  exact Gives.mk ⟨rfl, rfl⟩ .refl
theorem rof_ok (w0 : World) (F : List Atom) (b2 o2 n c2 : Nat) (W : List Int) (hW : W.length = n) (hc : n ≤ c2) (hr : RowAt w0 F b2 o2 (ints .u32 W)) (h1 : n ≤ 16384) (h2 : 0 < n) (h3 : n % 16 = 0) :
    CallK Try.prog 43 [.slice (some ⟨b2, o2, none⟩) n c2] w0 (F) (Gives w0 fun v F2 => ∃ b g c, v = .tuple #[.pointer (some ⟨b, 0, none⟩), .int .i64 0] ∧ n ≤ c ∧ F2 = Blk b (.cells [.slice (some ⟨g, 0, none⟩) n c].toArray 104 (0, 0)) :: Own 30 1 (.slice (some ⟨g, 0, none⟩) n c) n (ints .u32 W) :: F) := by
  refine c_enter Try.func43 rfl rfl rfl ?_
  refine g_seq ?_
  refine g_region ?_
  refine l_assign rfl rfl ?_
  refine l_assign rfl rfl ?_
  refine l_nil ?_
  refine g_seq ?_
  refine g_seq ?_
  refine g_region ?_
  refine l_move rfl rfl ?_
  refine l_len rfl Try.underlying23 rfl ?_
  refine l_gtr rfl rfl rfl ?_
  refine l_nil ?_
  refine g_cond rfl ?_ ?_
  · intro hbr
    have hbr := of_decide_eq_true hbr
    (exfalso; omega)
  intro hbr
  have hbr := of_decide_eq_false hbr
  refine g_skip ?_
  refine g_seq ?_
  refine g_seq ?_
  refine g_region ?_
  refine l_move rfl rfl ?_
  refine l_len rfl Try.underlying23 rfl ?_
  refine l_eql rfl rfl rfl ?_
  refine l_move rfl rfl ?_
  refine l_split 11 rfl ?_ ?_
  · intro hbr
    have hbr := of_decide_eq_true hbr
    (exfalso; omega)
  intro hbr
  have hbr := of_decide_eq_false hbr
  refine l_guard_yes rfl rfl ?_
  refine l_move rfl rfl ?_
  refine l_guard_yes rfl rfl ?_
  refine l_len rfl Try.underlying23 rfl ?_
  refine l_guard_yes rfl rfl ?_
  refine l_rem rfl rfl rfl (by omega) (by omega) (w_i64 (by omega) (by omega)) ?_
  refine l_guard_yes rfl rfl ?_
  refine l_neq rfl rfl rfl ?_
  refine l_pick_f rfl rfl rfl ?_
  refine l_nil ?_
  refine g_cond rfl ?_ ?_
  · intro hbr
    have hbr := of_decide_eq_true hbr
    (exfalso; omega)
  intro hbr
  have hbr := of_decide_eq_false hbr
  refine g_skip ?_
  refine g_seq ?_
  refine g_region ?_
  refine l_build rfl rfl (fun w => bd_104_z w) ?_
  refine l_boxs rfl rfl ?_; intro b18
  refine l_assign rfl rfl ?_
  refine l_nil ?_
  refine g_seq ?_
  refine g_region ?_
  refine l_move rfl rfl ?_
  refine l_move rfl rfl ?_
  refine l_nilCheck rfl rfl ?_
  refine l_fieldAddr rfl fa_104_0 rfl ?_
  refine l_ld rfl Try.isAgg23 rfl rfl ?_
  refine l_move rfl rfl ?_
  refine l_own_nil 30 1 ?_; refine l_appendw 0 (by_ := 4) (V := []) rfl Try.underlying23 Try.type30 rfl rfl rfl rfl rfl rfl rfl ⟨by rw [ints_length]; omega, .inl ⟨_, _, _, rfl, hr.there.there⟩⟩ (by omega) (by simp only [maxLen]; omega) (Nat.zero_add _) (List.nil_append _) (fun _ => rfl) ?_; intro v25 hv25
  refine l_nilCheck rfl rfl ?_
  refine l_fieldAddr rfl fa_104_0 rfl ?_
  refine l_fact (own_cases (mem_getO 0 rfl)) ?_; rintro ⟨_, hm9, hv | ⟨g9, c9, rfl, hc9⟩⟩; exact absurd hv.2 (by omega)
  refine l_store 1 Try.sizeOf23 rfl rfl rfl rfl rfl rfl ?_
  refine l_nil ?_
  refine g_seq ?_
  refine g_region ?_
  refine l_move rfl rfl ?_
  refine l_assign rfl rfl ?_
  refine l_assign rfl rfl ?_
  refine l_nil ?_
  refine g_ret Try.func43 rfl (.tmp rfl (.tmp rfl .nil)) ?_
  exact Gives.mk ⟨_, g9, c9, rfl, hc9, rfl⟩ (.cons 1 rfl .refl)
theorem rof_long (w0 : World) (F : List Atom) (a : Option Addr) (n c2 : Nat) (hn : n ≤ 9223372036854775807) (h1 : 16384 < n) :
    CallK Try.prog 43 [.slice a n c2] w0 (F) (Gives w0 fun v F2 => v = .tuple #[.pointer none, .int .i64 2] ∧ F2 = F) := by
  refine c_enter Try.func43 rfl rfl rfl ?_
  refine g_seq ?_
  refine g_region ?_
  refine l_assign rfl rfl ?_
  refine l_assign rfl rfl ?_
  refine l_nil ?_
  refine g_seq ?_
  refine g_seq ?_
  refine g_region ?_
  refine l_move rfl rfl ?_
  refine l_len rfl Try.underlying23 rfl ?_
  refine l_gtr rfl rfl rfl ?_
  refine l_nil ?_
  refine g_cond rfl ?_ ?_
  · intro hbr
    have hbr := of_decide_eq_true hbr
    refine g_seq ?_
    refine g_region ?_
    refine l_assign rfl rfl ?_
    refine l_assign rfl rfl ?_
    refine l_nil ?_
    refine g_ret Try.func43 rfl (.tmp rfl (.tmp rfl .nil)) ?_
    exact Gives.mk ⟨rfl, rfl⟩ .refl
  · intro hbr
    have hbr := of_decide_eq_false hbr
    (exfalso; omega)
theorem rof_bad (w0 : World) (F : List Atom) (a : Option Addr) (n c2 : Nat) (hn : n ≤ 9223372036854775807) (h1 : n ≤ 16384) (h2 : n = 0 ∨ n % 16 ≠ 0) :
    CallK Try.prog 43 [.slice a n c2] w0 (F) (Gives w0 fun v F2 => v = .tuple #[.pointer none, .int .i64 50] ∧ F2 = F) := by
  refine c_enter Try.func43 rfl rfl rfl ?_
  refine g_seq ?_
  refine g_region ?_
  refine l_assign rfl rfl ?_
  refine l_assign rfl rfl ?_
  refine l_nil ?_
  refine g_seq ?_
  refine g_seq ?_
  refine g_region ?_
  refine l_move rfl rfl ?_
  refine l_len rfl Try.underlying23 rfl ?_
  refine l_gtr rfl rfl rfl ?_
  refine l_nil ?_
  refine g_cond rfl ?_ ?_
  · intro hbr
    have hbr := of_decide_eq_true hbr
    (exfalso; omega)
  intro hbr
  have hbr := of_decide_eq_false hbr
  refine g_skip ?_
  refine g_seq ?_
  refine g_seq ?_
  refine g_region ?_
  refine l_move rfl rfl ?_
  refine l_len rfl Try.underlying23 rfl ?_
  refine l_eql rfl rfl rfl ?_
  refine l_move rfl rfl ?_
  refine l_split 11 rfl ?_ ?_
  · intro hbr
    have hbr := of_decide_eq_true hbr
    refine l_guard_no rfl rfl rfl ?_
    refine l_guard_no rfl rfl rfl ?_
    refine l_guard_no rfl rfl rfl ?_
    refine l_guard_no rfl rfl rfl ?_
    refine l_pick_t rfl rfl rfl ?_
    refine l_nil ?_
    first | refine g_cond_t rfl ?_ | refine g_cond_t (congrArg (fun b => some (Value.bool b)) (decide_eq_true hbr)) ?_
    refine g_seq ?_
    refine g_region ?_
    refine l_assign rfl rfl ?_
    refine l_assign rfl rfl ?_
    refine l_nil ?_
    refine g_ret Try.func43 rfl (.tmp rfl (.tmp rfl .nil)) ?_
    exact Gives.mk ⟨rfl, rfl⟩ .refl
  intro hbr
  have hbr := of_decide_eq_false hbr
  refine l_guard_yes rfl rfl ?_
  refine l_move rfl rfl ?_
  refine l_guard_yes rfl rfl ?_
  refine l_len rfl Try.underlying23 rfl ?_
  refine l_guard_yes rfl rfl ?_
  refine l_rem rfl rfl rfl (by omega) (by omega) (w_i64 (by omega) (by omega)) ?_
  refine l_guard_yes rfl rfl ?_
  refine l_neq rfl rfl rfl ?_
  refine l_pick_f rfl rfl rfl ?_
  refine l_nil ?_
  refine g_cond rfl ?_ ?_
  · intro hbr
    have hbr := of_decide_eq_true hbr
    refine g_seq ?_
    refine g_region ?_
    refine l_assign rfl rfl ?_
    refine l_assign rfl rfl ?_
    refine l_nil ?_
    refine g_ret Try.func43 rfl (.tmp rfl (.tmp rfl .nil)) ?_
    exact Gives.mk ⟨rfl, rfl⟩ .refl
  · intro hbr
    have hbr := of_decide_eq_false hbr
    (exfalso; omega)
end Go.Proofs.Ytlgcghhjgcdigaa.Fw
