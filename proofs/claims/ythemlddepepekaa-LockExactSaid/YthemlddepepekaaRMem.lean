import Derived.Test.YthemlddepepekaaRNew
namespace Go.Proofs.Ythemlddepepekaa.Fw
open Go Go.Proofs
set_option linter.unusedVariables false
set_option linter.unusedSimpArgs false
set_option maxRecDepth 10000
theorem bd_67_0 (a0_0 : Option Addr) (n0_0 c0_0 : Nat) (w : World) : (Instr.build 67 #[(0, .slice a0_0 n0_0 c0_0)]).run Try.prog w = .ok (.agg #[.slice a0_0 n0_0 c0_0]) w := by kernel_rfl
theorem run_ok (w0 : World) (F : List Atom) (b : Nat) (a : Option Addr) (n c : Nat) (hn : n ≤ 9223372036854775807) (at_ k : Int) (a0 : -9223372036854775808 ≤ at_) (a1 : at_ ≤ 9223372036854775807) (k0 : -9223372036854775808 ≤ k) (k1 : k ≤ 9223372036854775807) (h : inR n at_ k) :
    CallK Try.prog 64 [.pointer (some ⟨b, 0, none⟩), .int .i64 at_, .int .i64 k] w0 (Blk b (.cells [.slice a n c].toArray 67 (0, 0)) :: F) (Gives w0 fun v F2 => v = .bool true ∧ F2 = Blk b (.cells [.slice a n c].toArray 67 (0, 0)) :: F) := by
  unfold inR at h
  refine c_enter Try.func64 rfl rfl rfl ?_
  refine g_seq ?_
  refine g_region ?_
  refine l_assign rfl rfl ?_
  refine l_nil ?_
  refine g_seq ?_
  refine g_region ?_
  refine l_move rfl rfl ?_
  refine l_geq rfl rfl rfl ?_
  refine l_move rfl rfl ?_
  refine l_split 9 rfl ?_ ?_
  · intro hbr
    have hbr := of_decide_eq_true hbr
    refine l_guard_yes rfl rfl ?_
    refine l_move rfl rfl ?_
    refine l_guard_yes rfl rfl ?_
    refine l_geq rfl rfl rfl ?_
    refine l_pick_t rfl rfl rfl ?_
    refine l_move rfl rfl ?_
    refine l_split 13 rfl ?_ ?_
    · intro hbr
      have hbr := of_decide_eq_true hbr
      refine l_guard_yes rfl rfl ?_
      refine l_move rfl rfl ?_
      refine l_guard_yes rfl rfl ?_
      refine l_move rfl rfl ?_
      refine l_guard_yes rfl rfl ?_
      refine l_nilCheck rfl rfl ?_
      refine l_guard_yes rfl rfl ?_
      refine l_fieldAddr rfl fa_67_0 rfl ?_
      refine l_guard_yes rfl rfl ?_
      refine l_ld rfl Try.isAgg38 rfl rfl ?_
      refine l_guard_yes rfl rfl ?_
      refine l_len rfl Try.underlying38 rfl ?_
      refine l_guard_yes rfl rfl ?_
      refine l_leq rfl rfl rfl ?_
      refine l_pick_t rfl rfl rfl ?_
      refine l_move rfl rfl ?_
      refine l_split 22 rfl ?_ ?_
      · intro hbr
        have hbr := of_decide_eq_true hbr
        refine l_guard_yes rfl rfl ?_
        refine l_move rfl rfl ?_
        refine l_guard_yes rfl rfl ?_
        refine l_move rfl rfl ?_
        refine l_guard_yes rfl rfl ?_
        refine l_nilCheck rfl rfl ?_
        refine l_guard_yes rfl rfl ?_
        refine l_fieldAddr rfl fa_67_0 rfl ?_
        refine l_guard_yes rfl rfl ?_
        refine l_ld rfl Try.isAgg38 rfl rfl ?_
        refine l_guard_yes rfl rfl ?_
        refine l_len rfl Try.underlying38 rfl ?_
        refine l_guard_yes rfl rfl ?_
        refine l_move rfl rfl ?_
        refine l_guard_yes rfl rfl ?_
        first | refine l_sub_ rfl rfl rfl (w_i64 (by omega) (by omega)) ?_ | refine l_subw rfl rfl rfl ?_
        refine l_guard_yes rfl rfl ?_
        refine l_leq rfl rfl rfl ?_
        refine l_pick_t rfl rfl rfl ?_
        refine l_assign rfl rfl ?_
        refine l_nil ?_
        refine g_ret Try.func64 rfl (.tmp rfl .nil) ?_
        exact Gives.mki ⟨congrArg Value.bool (decide_eq_true (by omega)), rfl⟩
      · intro hbr
        have hbr := of_decide_eq_false hbr
        (exfalso; omega)
    · intro hbr
      have hbr := of_decide_eq_false hbr
      (exfalso; omega)
  · intro hbr
    have hbr := of_decide_eq_false hbr
    (exfalso; omega)
theorem run_bad (w0 : World) (F : List Atom) (b : Nat) (a : Option Addr) (n c : Nat) (hn : n ≤ 9223372036854775807) (at_ k : Int) (a0 : -9223372036854775808 ≤ at_) (a1 : at_ ≤ 9223372036854775807) (k0 : -9223372036854775808 ≤ k) (k1 : k ≤ 9223372036854775807) (h : ¬ inR n at_ k) :
    CallK Try.prog 64 [.pointer (some ⟨b, 0, none⟩), .int .i64 at_, .int .i64 k] w0 (Blk b (.cells [.slice a n c].toArray 67 (0, 0)) :: F) (Gives w0 fun v F2 => v = .bool false ∧ F2 = Blk b (.cells [.slice a n c].toArray 67 (0, 0)) :: F) := by
  unfold inR at h
  refine c_enter Try.func64 rfl rfl rfl ?_
  refine g_seq ?_
  refine g_region ?_
  refine l_assign rfl rfl ?_
  refine l_nil ?_
  refine g_seq ?_
  refine g_region ?_
  refine l_move rfl rfl ?_
  refine l_geq rfl rfl rfl ?_
  refine l_move rfl rfl ?_
  refine l_split 9 rfl ?_ ?_
  · intro hbr
    have hbr := of_decide_eq_true hbr
    refine l_guard_yes rfl rfl ?_
    refine l_move rfl rfl ?_
    refine l_guard_yes rfl rfl ?_
    refine l_geq rfl rfl rfl ?_
    refine l_pick_t rfl rfl rfl ?_
    refine l_move rfl rfl ?_
    refine l_split 13 rfl ?_ ?_
    · intro hbr
      have hbr := of_decide_eq_true hbr
      refine l_guard_yes rfl rfl ?_
      refine l_move rfl rfl ?_
      refine l_guard_yes rfl rfl ?_
      refine l_move rfl rfl ?_
      refine l_guard_yes rfl rfl ?_
      refine l_nilCheck rfl rfl ?_
      refine l_guard_yes rfl rfl ?_
      refine l_fieldAddr rfl fa_67_0 rfl ?_
      refine l_guard_yes rfl rfl ?_
      refine l_ld rfl Try.isAgg38 rfl rfl ?_
      refine l_guard_yes rfl rfl ?_
      refine l_len rfl Try.underlying38 rfl ?_
      refine l_guard_yes rfl rfl ?_
      refine l_leq rfl rfl rfl ?_
      refine l_pick_t rfl rfl rfl ?_
      refine l_move rfl rfl ?_
      refine l_split 22 rfl ?_ ?_
      · intro hbr
        have hbr := of_decide_eq_true hbr
        refine l_guard_yes rfl rfl ?_
        refine l_move rfl rfl ?_
        refine l_guard_yes rfl rfl ?_
        refine l_move rfl rfl ?_
        refine l_guard_yes rfl rfl ?_
        refine l_nilCheck rfl rfl ?_
        refine l_guard_yes rfl rfl ?_
        refine l_fieldAddr rfl fa_67_0 rfl ?_
        refine l_guard_yes rfl rfl ?_
        refine l_ld rfl Try.isAgg38 rfl rfl ?_
        refine l_guard_yes rfl rfl ?_
        refine l_len rfl Try.underlying38 rfl ?_
        refine l_guard_yes rfl rfl ?_
        refine l_move rfl rfl ?_
        refine l_guard_yes rfl rfl ?_
        first | refine l_sub_ rfl rfl rfl (w_i64 (by omega) (by omega)) ?_ | refine l_subw rfl rfl rfl ?_
        refine l_guard_yes rfl rfl ?_
        refine l_leq rfl rfl rfl ?_
        refine l_pick_t rfl rfl rfl ?_
        refine l_assign rfl rfl ?_
        refine l_nil ?_
        refine g_ret Try.func64 rfl (.tmp rfl .nil) ?_
        (first | exact Gives.mki ⟨congrArg Value.bool (decide_eq_false (by omega)), rfl⟩ | exact Gives.mki ⟨rfl, rfl⟩)
      intro hbr
      have hbr := of_decide_eq_false hbr
      refine l_guard_no rfl rfl rfl ?_
      refine l_guard_no rfl rfl rfl ?_
      refine l_guard_no rfl rfl rfl ?_
      refine l_guard_no rfl rfl rfl ?_
      refine l_guard_no rfl rfl rfl ?_
      refine l_guard_no rfl rfl rfl ?_
      refine l_guard_no rfl rfl rfl ?_
      refine l_guard_no rfl rfl rfl ?_
      refine l_guard_no rfl rfl rfl ?_
      refine l_pick_f rfl rfl rfl ?_
      refine l_assign rfl rfl ?_
      refine l_nil ?_
      refine g_ret Try.func64 rfl (.tmp rfl .nil) ?_
      (first | exact Gives.mki ⟨congrArg Value.bool (decide_eq_false (by omega)), rfl⟩ | exact Gives.mki ⟨rfl, rfl⟩)
    intro hbr
    have hbr := of_decide_eq_false hbr
    refine l_guard_no rfl rfl rfl ?_
    refine l_guard_no rfl rfl rfl ?_
    refine l_guard_no rfl rfl rfl ?_
    refine l_guard_no rfl rfl rfl ?_
    refine l_guard_no rfl rfl rfl ?_
    refine l_guard_no rfl rfl rfl ?_
    refine l_guard_no rfl rfl rfl ?_
    refine l_pick_f rfl rfl rfl ?_
    refine l_move rfl rfl ?_
    refine l_guard_no rfl rfl rfl ?_
    refine l_guard_no rfl rfl rfl ?_
    refine l_guard_no rfl rfl rfl ?_
    refine l_guard_no rfl rfl rfl ?_
    refine l_guard_no rfl rfl rfl ?_
    refine l_guard_no rfl rfl rfl ?_
    refine l_guard_no rfl rfl rfl ?_
    refine l_guard_no rfl rfl rfl ?_
    refine l_guard_no rfl rfl rfl ?_
    refine l_pick_f rfl rfl rfl ?_
    refine l_assign rfl rfl ?_
    refine l_nil ?_
    refine g_ret Try.func64 rfl (.tmp rfl .nil) ?_
    (first | exact Gives.mki ⟨congrArg Value.bool (decide_eq_false (by omega)), rfl⟩ | exact Gives.mki ⟨rfl, rfl⟩)
  intro hbr
  have hbr := of_decide_eq_false hbr
  refine l_guard_no rfl rfl rfl ?_
  refine l_guard_no rfl rfl rfl ?_
  refine l_pick_f rfl rfl rfl ?_
  refine l_move rfl rfl ?_
  refine l_guard_no rfl rfl rfl ?_
  refine l_guard_no rfl rfl rfl ?_
  refine l_guard_no rfl rfl rfl ?_
  refine l_guard_no rfl rfl rfl ?_
  refine l_guard_no rfl rfl rfl ?_
  refine l_guard_no rfl rfl rfl ?_
  refine l_guard_no rfl rfl rfl ?_
  refine l_pick_f rfl rfl rfl ?_
  refine l_move rfl rfl ?_
  refine l_guard_no rfl rfl rfl ?_
  refine l_guard_no rfl rfl rfl ?_
  refine l_guard_no rfl rfl rfl ?_
  refine l_guard_no rfl rfl rfl ?_
  refine l_guard_no rfl rfl rfl ?_
  refine l_guard_no rfl rfl rfl ?_
  refine l_guard_no rfl rfl rfl ?_
  refine l_guard_no rfl rfl rfl ?_
  refine l_guard_no rfl rfl rfl ?_
  refine l_pick_f rfl rfl rfl ?_
  refine l_assign rfl rfl ?_
  refine l_nil ?_
  refine g_ret Try.func64 rfl (.tmp rfl .nil) ?_
  (first | exact Gives.mki ⟨congrArg Value.bool (decide_eq_false (by omega)), rfl⟩ | exact Gives.mki ⟨rfl, rfl⟩)
theorem rwrite_ok (w0 : World) (F : List Atom) (b g n c : Nat) (W : List Int) (hW : W.length = n) (hc : n ≤ c) (hn : n ≤ 1073741824) (at_ x : Int) (a1 : at_ ≤ 9223372036854775807) (h : inR n at_ 1) :
    CallK Try.prog 45 [.pointer (some ⟨b, 0, none⟩), .int .i64 at_, .int .u32 x] w0 (Blk b (.cells [Value.slice (some ⟨g, 0, none⟩) n c].toArray 67 (0, 0)) :: Own 51 1 (.slice (some ⟨g, 0, none⟩) n c) n (ints .u32 W) :: F) (Gives w0 fun v F2 => v = .int .i64 0 ∧ F2 = Blk b (.cells [Value.slice (some ⟨g, 0, none⟩) n c].toArray 67 (0, 0)) :: Own 51 1 (.slice (some ⟨g, 0, none⟩) n c) n (ints .u32 (W.set at_.toNat x)) :: F) := by
  obtain ⟨h0, h1⟩ := inR1 h
  refine c_enter Try.func45 rfl rfl rfl ?_
  refine g_seq ?_
  refine g_region ?_
  refine l_assign rfl rfl ?_
  refine l_nil ?_
  refine g_seq ?_
  refine g_seq ?_
  refine g_region ?_
  refine l_move rfl rfl ?_
  refine l_eqpn rfl Try.underlying56 rfl rfl ?_
  refine l_nil ?_
  first | refine g_cond_f rfl ?_ | refine g_cond_f (congrArg (fun b => some (Value.bool b)) (decide_eq_false hbr)) ?_
  refine g_skip ?_
  refine g_seq ?_
  refine g_seq ?_
  refine g_region ?_
  refine l_move rfl rfl ?_
  refine l_move rfl rfl ?_
  refine l_call rfl Try.call64 rfl (run_ok _ _ _ _ _ _ (by omega) _ _ (by omega) (by omega) (by omega) (by omega) h) ?_; rintro _ _ ⟨rfl, rfl⟩
  refine l_not rfl rfl ?_
  refine l_nil ?_
  first | refine g_cond_f rfl ?_ | refine g_cond_f (congrArg (fun b => some (Value.bool b)) (decide_eq_false hbr)) ?_
  refine g_skip ?_
  refine g_seq ?_
  refine g_region ?_
  refine l_move rfl rfl ?_
  refine l_nilCheck rfl rfl ?_
  refine l_fieldAddr rfl fa_67_0 rfl ?_
  refine l_ld rfl Try.isAgg38 rfl rfl ?_
  refine l_move rfl rfl ?_
  refine l_move rfl rfl ?_
  refine l_ixs rfl Try.underlying38 Try.sizeOf51 rfl rfl (by omega) (by omega) ?_
  refine l_storew 1 Try.sizeOf51 rfl rfl rfl (by omega) rfl ?_
  refine l_nil ?_
  refine g_seq ?_
  refine g_region ?_
  refine l_assign rfl rfl ?_
  refine l_nil ?_
  refine g_ret Try.func45 rfl (.tmp rfl .nil) ?_
  exact Gives.mki ⟨rfl, rfl⟩
theorem rwrite_bad (w0 : World) (F : List Atom) (b g n c : Nat) (W : List Int) (hW : W.length = n) (hc : n ≤ c) (hn : n ≤ 1073741824) (x : Int) (at_ : Int) (a0 : -9223372036854775808 ≤ at_) (a1 : at_ ≤ 9223372036854775807) (h : ¬ inR n at_ 1) :
    CallK Try.prog 45 [.pointer (some ⟨b, 0, none⟩), .int .i64 at_, .int .u32 x] w0 (Blk b (.cells [Value.slice (some ⟨g, 0, none⟩) n c].toArray 67 (0, 0)) :: Own 51 1 (.slice (some ⟨g, 0, none⟩) n c) n (ints .u32 W) :: F) (Gives w0 fun v F2 => v = .int .i64 51 ∧ F2 = Blk b (.cells [Value.slice (some ⟨g, 0, none⟩) n c].toArray 67 (0, 0)) :: Own 51 1 (.slice (some ⟨g, 0, none⟩) n c) n (ints .u32 W) :: F) := by
  refine c_enter Try.func45 rfl rfl rfl ?_
  refine g_seq ?_
  refine g_region ?_
  refine l_assign rfl rfl ?_
  refine l_nil ?_
  refine g_seq ?_
  refine g_seq ?_
  refine g_region ?_
  refine l_move rfl rfl ?_
  refine l_eqpn rfl Try.underlying56 rfl rfl ?_
  refine l_nil ?_
  first | refine g_cond_f rfl ?_ | refine g_cond_f (congrArg (fun b => some (Value.bool b)) (decide_eq_false hbr)) ?_
  refine g_skip ?_
  refine g_seq ?_
  refine g_seq ?_
  refine g_region ?_
  refine l_move rfl rfl ?_
  refine l_move rfl rfl ?_
  refine l_call rfl Try.call64 rfl (run_bad _ _ _ _ _ _ (by omega) _ _ (by omega) (by omega) (by omega) (by omega) h) ?_; rintro _ _ ⟨rfl, rfl⟩
  refine l_not rfl rfl ?_
  refine l_nil ?_
  first | refine g_cond_t rfl ?_ | refine g_cond_t (congrArg (fun b => some (Value.bool b)) (decide_eq_true hbr)) ?_
  refine g_seq ?_
  refine g_region ?_
  refine l_assign rfl rfl ?_
  refine l_nil ?_
  refine g_ret Try.func45 rfl (.tmp rfl .nil) ?_
  exact Gives.mki ⟨rfl, rfl⟩
theorem rnew5_ok (w0 : World) (F : List Atom) (m : Int) (m0 : 1 ≤ m) (m1 : m ≤ 1024) :
    CallK Try.prog 37 [.int .i64 m] w0 (F) (Gives w0 fun v F2 => ∃ b g c, v = .tuple #[.pointer (some ⟨b, 0, none⟩), .int .i64 0] ∧ (m * 16).toNat ≤ c ∧ F2 = Blk b (.cells [Value.slice (some ⟨g, 0, none⟩) (m * 16).toNat c].toArray 67 (0, 0)) :: Own 51 1 (.slice (some ⟨g, 0, none⟩) (m * 16).toNat c) (m * 16).toNat (ints .u32 (List.replicate (m * 16).toNat 0)) :: F) := by
  refine c_enter Try.func37 rfl rfl rfl ?_
  refine g_seq ?_
  refine g_region ?_
  refine l_assign rfl rfl ?_
  refine l_assign rfl rfl ?_
  refine l_nil ?_
  refine g_seq ?_
  refine g_seq ?_
  refine g_region ?_
  refine l_move rfl rfl ?_
  refine l_lss rfl rfl rfl ?_
  refine l_move rfl rfl ?_
  refine l_split 6 rfl ?_ ?_
  · intro hbr
    have hbr := of_decide_eq_true hbr
    (exfalso; omega)
  intro hbr
  have hbr := of_decide_eq_false hbr
  refine l_guard_yes rfl rfl ?_
  refine l_move rfl rfl ?_
  refine l_guard_yes rfl rfl ?_
  refine l_gtr rfl rfl rfl ?_
  refine l_pick_f rfl rfl rfl ?_
  refine l_nil ?_
  refine g_cond rfl ?_ ?_
  · intro hbr
    have hbr := of_decide_eq_true hbr
    (exfalso; omega)
  intro hbr
  have hbr := of_decide_eq_false hbr
  refine g_skip ?_
  refine g_seq ?_
  refine g_region ?_
  refine l_move rfl rfl ?_
  refine l_mul rfl rfl rfl (w_i64 (by omega) (by omega)) ?_
  rw [Int.mul_comm 16 m]
  refine l_makew rfl Try.underlying38 Try.type51 rfl rfl rfl rfl (by omega) (by show (4 : Int) * _ ≤ _; omega) (by omega) ?_; intro b12
  refine l_build rfl rfl (fun w => bd_67_0 _ _ _ w) ?_
  refine l_boxs rfl rfl ?_; intro b14
  refine l_assign rfl rfl ?_
  refine l_assign rfl rfl ?_
  refine l_nil ?_
  refine g_ret Try.func37 rfl (.tmp rfl (.tmp rfl .nil)) ?_
  exact Gives.mki ⟨b14, b12, _, rfl, Nat.le_refl _, rfl⟩
def eR (n : Nat) (a k : Int) : Int := if inR n a k then 0 else 51
def wrW (W : List Int) (n : Nat) (a x : Int) : List Int := if inR n a 1 then W.set a.toNat x else W
theorem write_any (w0 : World) (F : List Atom) (b g n c : Nat) (W : List Int) (hW : W.length = n) (hc : n ≤ c) (hn : n ≤ 1073741824) (a : Int) (a0 : -9223372036854775808 ≤ a) (a1 : a ≤ 9223372036854775807) (x : Int) : CallK Try.prog 44 [.pointer (some ⟨b, 0, none⟩), .int .i64 a, .int .u32 x] w0 (Blk b (.cells [Value.slice (some ⟨g, 0, none⟩) n c].toArray 81 (0, 0)) :: Own 51 1 (.slice (some ⟨g, 0, none⟩) n c) n (ints .u32 W) :: F) (Gives w0 fun v F2 => v = .int .i64 (eR n a 1) ∧ F2 = Blk b (.cells [Value.slice (some ⟨g, 0, none⟩) n c].toArray 81 (0, 0)) :: Own 51 1 (.slice (some ⟨g, 0, none⟩) n c) n (ints .u32 (wrW W n a x)) :: F) := by
  by_cases h : inR n a 1
  · refine (write_ok w0 F b g n c W hW hc hn a x a1 h).gmono fun v F2 ⟨e1, e2⟩ => ⟨?_, ?_⟩
    · rw [e1] <;> simp only [eR, if_pos h]
    · rw [e2] <;> simp only [wrW, if_pos h]
  · refine (write_bad w0 F b g n c W hW hc hn x a a0 a1 h).gmono fun v F2 ⟨e1, e2⟩ => ⟨?_, ?_⟩
    · rw [e1] <;> simp only [eR, if_neg h]
    · rw [e2] <;> simp only [wrW, if_neg h]
theorem rwrite_any (w0 : World) (F : List Atom) (b g n c : Nat) (W : List Int) (hW : W.length = n) (hc : n ≤ c) (hn : n ≤ 1073741824) (a : Int) (a0 : -9223372036854775808 ≤ a) (a1 : a ≤ 9223372036854775807) (x : Int) : CallK Try.prog 45 [.pointer (some ⟨b, 0, none⟩), .int .i64 a, .int .u32 x] w0 (Blk b (.cells [Value.slice (some ⟨g, 0, none⟩) n c].toArray 67 (0, 0)) :: Own 51 1 (.slice (some ⟨g, 0, none⟩) n c) n (ints .u32 W) :: F) (Gives w0 fun v F2 => v = .int .i64 (eR n a 1) ∧ F2 = Blk b (.cells [Value.slice (some ⟨g, 0, none⟩) n c].toArray 67 (0, 0)) :: Own 51 1 (.slice (some ⟨g, 0, none⟩) n c) n (ints .u32 (wrW W n a x)) :: F) := by
  by_cases h : inR n a 1
  · refine (rwrite_ok w0 F b g n c W hW hc hn a x a1 h).gmono fun v F2 ⟨e1, e2⟩ => ⟨?_, ?_⟩
    · rw [e1] <;> simp only [eR, if_pos h]
    · rw [e2] <;> simp only [wrW, if_pos h]
  · refine (rwrite_bad w0 F b g n c W hW hc hn x a a0 a1 h).gmono fun v F2 ⟨e1, e2⟩ => ⟨?_, ?_⟩
    · rw [e1] <;> simp only [eR, if_neg h]
    · rw [e2] <;> simp only [wrW, if_neg h]
end Go.Proofs.Ythemlddepepekaa.Fw
