import Derived.Test.YtnkmhhjldfapdaaPlain
namespace Go.Proofs.Ytnkmhhjldfapdaa.Fw
open Go Go.Proofs
set_option linter.unusedVariables false
set_option linter.unusedSimpArgs false
set_option maxRecDepth 10000
theorem fa_113_1 (a : Addr) (w : World) : (Instr.fieldAt 113 (.pointer (some a)) 1).run Try.prog w = .ok (.pointer (some (a.add 1))) w := by
  simp [Instr.fieldAt, Try.runUnderlying113, Instr.sureAddr, fieldPlace, Try.sizeOf26, Sem.run_bind, Sem.run_pure]
theorem fa_113_0 (a : Addr) (w : World) : (Instr.fieldAt 113 (.pointer (some a)) 0).run Try.prog w = .ok (.pointer (some (a.add 0))) w := by
  simp [Instr.fieldAt, Try.runUnderlying113, Instr.sureAddr, fieldPlace, Try.sizeOf107, Sem.run_bind, Sem.run_pure]
theorem mo : Try.prog.follows .mixedOrders = true := by kernel_rfl
theorem fa_109_0 (a : Addr) (w : World) : (Instr.fieldAt 109 (.pointer (some a)) 0).run Try.prog w = .ok (.pointer (some (a.add 0))) w := by
  simp [Instr.fieldAt, Try.runUnderlying109, Instr.sureAddr, fieldPlace, Try.sizeOf36, Sem.run_bind, Sem.run_pure]
theorem fa_109_1 (a : Addr) (w : World) : (Instr.fieldAt 109 (.pointer (some a)) 1).run Try.prog w = .ok (.pointer (some (a.add 1))) w := by
  simp [Instr.fieldAt, Try.runUnderlying109, Instr.sureAddr, fieldPlace, Try.sizeOf3, Sem.run_bind, Sem.run_pure]
theorem or_low {x b : Int} (h0 : 0 ≤ x) (h1 : 0 ≤ b) (h2 : b ≤ 255) (h3 : x * 256 + b ≤ 18446744073709551615) : bOr 64 (x * 256) b = x * 256 + b := by
  obtain ⟨x, rfl⟩ := Int.eq_ofNat_of_zero_le h0
  obtain ⟨b, rfl⟩ := Int.eq_ofNat_of_zero_le h1
  try simp only [Int.ofNat_eq_natCast] at *
  unfold bOr
  have e1 : (x : Int) * 256 = ((x * 256 : Nat) : Int) := by norm_cast
  rw [e1, ofInt_nat, ofInt_nat]
  have hb : b < 2 ^ 8 := by omega
  have h4 : x * 256 ||| b = x * 256 + b := by
    have := Nat.shiftLeft_add_eq_or_of_lt hb x
    rw [Nat.shiftLeft_eq] at this
    simpa using this.symm
  have : (BitVec.ofNat 64 (x * 256) ||| BitVec.ofNat 64 b).toNat = x * 256 + b := by
    rw [BitVec.toNat_or, BitVec.toNat_ofNat, BitVec.toNat_ofNat, Nat.mod_eq_of_lt (by omega), Nat.mod_eq_of_lt (by omega), h4]
  rw [this]; norm_cast
/-- The number of so many bytes from a place on, the lowest first. -/
def numB (B : List Int) (p : Nat) : Nat → Int
  | 0 => 0
  | k + 1 => B.getD p 0 + 256 * numB B (p + 1) k
theorem numB_bd {B : List Int} (hU : ∀ i, 0 ≤ B.getD i 0 ∧ B.getD i 0 ≤ 255) : ∀ (k p : Nat), 0 ≤ numB B p k ∧ numB B p k < 256 ^ k
  | 0, p => by simp [numB]
  | k + 1, p => by
    have h1 := numB_bd hU k (p + 1)
    have h2 := hU p
    simp only [numB, Int.pow_succ]
    omega
theorem num_step {B : List Int} {p k i : Int} (p0 : 0 ≤ p) (i0 : 0 ≤ i) (ik : i < k) : numB B (p + i + 1).toNat (k - 1 - i).toNat * 256 + B.getD (p + i).toNat 0 = numB B (p + (i - 1) + 1).toNat (k - 1 - (i - 1)).toNat := by
  rw [show (k - 1 - (i - 1)).toNat = (k - 1 - i).toNat + 1 by omega, show (p + (i - 1) + 1).toNat = (p + i).toNat by omega]
  simp only [numB]
  rw [show (p + i + 1).toNat = (p + i).toNat + 1 by omega]
  omega
theorem pow256 {j : Nat} (h : j ≤ 7) : (256 : Int) ^ j ≤ 72057594037927936 := by
  have := Nat.pow_le_pow_right (n := 256) (by decide) h
  have h2 : ((256 ^ j : Nat) : Int) = (256 : Int) ^ j := by norm_cast
  rw [← h2]
  simp at this
  omega
theorem num_fits {B : List Int} (hU : ∀ i, 0 ≤ B.getD i 0 ∧ B.getD i 0 ≤ 255) {p : Nat} {j : Nat} (h : j ≤ 7) : 0 ≤ numB B p j ∧ numB B p j ≤ 72057594037927935 := by
  have h1 := numB_bd hU j p
  have h2 := pow256 h
  omega
/-- What a reader's number tells, and where the reader stands then. -/
def rdN (B : List Int) (p f k : Int) : Int × Int × Int := if f ≠ 0 then (0, p, f) else if (B.length : Int) - p < k then (0, p, 12) else (numB B p.toNat k.toNat, p + k, 0)
theorem rdN_flt {B : List Int} {p f k : Int} (h : f ≠ 0) : rdN B p f k = (0, p, f) := by unfold rdN; rw [if_pos h]
theorem rdN_short {B : List Int} {p f k : Int} (h : f = 0) (h2 : (B.length : Int) - p < k) : rdN B p f k = (0, p, 12) := by unfold rdN; rw [if_neg (by omega), if_pos h2]
theorem rdN_ok {B : List Int} {p f k : Int} (h : f = 0) (h2 : ¬ (B.length : Int) - p < k) : rdN B p f k = (numB B p.toNat k.toNat, p + k, 0) := by unfold rdN; rw [if_neg (by omega), if_neg h2]
theorem number_ok (w0 : World) (F : List Atom) (bq bs g n : Nat) (B : List Int) (hB : B.length = n) (hU : ∀ i, 0 ≤ B.getD i 0 ∧ B.getD i 0 ≤ 255) (hn : n ≤ 140737488355327) (p q : Int) (p0 : 0 ≤ p) (p1 : p ≤ n) (q0 : 0 ≤ q) (q1 : q ≤ 20) (k : Int) (k0 : 1 ≤ k) (k1 : k ≤ 8) :
    CallK Try.prog 75 [.pointer (some ⟨bq, 0, none⟩), .int .i64 k] w0 (Blk bq (.cells [Value.pointer (some ⟨bs, 0, none⟩), .int .i64 q].toArray 113 (0, 0)) :: Blk bs (.cells [Value.slice (some ⟨g, 0, none⟩) n n, .int .i64 p].toArray 109 (0, 0)) :: Own 5 1 (.slice (some ⟨g, 0, none⟩) n n) n (ints .u8 B) :: F) (Gives w0 fun v F2 => ∃ m p2 q2, rdN B p q k = (m, p2, q2) ∧ v = .int .u64 m ∧ F2 = Blk bq (.cells [Value.pointer (some ⟨bs, 0, none⟩), .int .i64 q2].toArray 113 (0, 0)) :: Blk bs (.cells [Value.slice (some ⟨g, 0, none⟩) n n, .int .i64 p2].toArray 109 (0, 0)) :: Own 5 1 (.slice (some ⟨g, 0, none⟩) n n) n (ints .u8 B) :: F) := by
  refine c_enter Try.func75 rfl rfl rfl ?_
  refine g_seq ?_
  refine g_region ?_
  refine l_assign rfl rfl ?_
  refine l_nil ?_
  refine g_seq ?_
  refine g_seq ?_
  refine g_region ?_
  refine l_move rfl rfl ?_
  refine l_eqpn rfl Try.underlying69 rfl rfl ?_
  refine l_move rfl rfl ?_
  refine l_guard_yes rfl rfl ?_
  refine l_move rfl rfl ?_
  refine l_guard_yes rfl rfl ?_
  refine l_nilCheck rfl rfl ?_
  refine l_guard_yes rfl rfl ?_
  refine l_fieldAddr rfl fa_113_1 rfl ?_
  refine l_guard_yes rfl rfl ?_
  first | refine l_ld rfl Try.isAgg26 rfl rfl ?_ | refine l_ldw rfl Try.isAgg26 rfl (by omega) ?_
  refine l_guard_yes rfl rfl ?_
  refine l_neq rfl rfl rfl ?_
  refine l_pick_f rfl rfl rfl ?_
  refine l_nil ?_
  refine g_cond rfl ?_ ?_
  · intro hbr
    have hbr := of_decide_eq_true hbr
    refine g_seq ?_
    refine g_region ?_
    refine l_assign rfl rfl ?_
    refine l_nil ?_
    refine g_ret Try.func75 rfl (.tmp rfl .nil) ?_
    (first | exact Gives.mki ⟨_, _, _, rdN_flt (by omega), rfl, rfl⟩ | exact Gives.mki ⟨_, _, _, rdN_short (by omega) (by omega), rfl, rfl⟩ | (rw [show q = 0 by omega]; exact Gives.mki ⟨_, _, _, rdN_ok (by omega) (by omega), rfl, rfl⟩))
  intro hbr
  have hbr := of_decide_eq_false hbr
  refine g_skip ?_
  refine g_seq ?_
  refine g_seq ?_
  refine g_region ?_
  refine l_move rfl rfl ?_
  refine l_inl rfl Try.call33 rfl ?_
  refine c_enter Try.func33 rfl rfl rfl ?_
  refine g_seq ?_
  refine g_region ?_
  refine l_assign rfl rfl ?_
  refine l_nil ?_
  refine g_seq ?_
  refine g_seq ?_
  refine g_region ?_
  refine l_move rfl rfl ?_
  refine l_eqpn rfl Try.underlying69 rfl rfl ?_
  refine l_nil ?_
  first | refine g_cond_f rfl ?_ | refine g_cond_f (congrArg (fun b => some (Value.bool b)) (decide_eq_false hbr)) ?_
  refine g_skip ?_
  refine g_seq ?_
  refine g_region ?_
  refine l_move rfl rfl ?_
  refine l_nilCheck rfl rfl ?_
  refine l_fieldAddr rfl fa_113_0 rfl ?_
  refine l_ld rfl Try.isAgg107 rfl rfl ?_
  refine l_inl rfl Try.call74 rfl ?_
  refine c_enter Try.func74 rfl rfl rfl ?_
  refine g_seq ?_
  refine g_region ?_
  refine l_assign rfl rfl ?_
  refine l_nil ?_
  refine g_seq ?_
  refine g_seq ?_
  refine g_region ?_
  refine l_move rfl rfl ?_
  refine l_eqpn rfl Try.underlying107 rfl rfl ?_
  refine l_nil ?_
  first | refine g_cond_f rfl ?_ | refine g_cond_f (congrArg (fun b => some (Value.bool b)) (decide_eq_false hbr)) ?_
  refine g_skip ?_
  refine g_seq ?_
  refine gp_start mo (by kernel_rfl) (by kernel_rfl) ?_
  refine gp_quiet 0 rfl rfl rfl rfl rfl rfl (q_move rfl) ?_
  refine gp_quiet 1 rfl rfl rfl rfl rfl rfl (q_nilCheck rfl) ?_
  refine gp_quiet 2 rfl rfl rfl rfl rfl rfl (q_fieldAddr fa_109_0 rfl) ?_
  refine gp_quiet 3 rfl rfl rfl rfl rfl rfl (q_ld Try.isAgg36 rfl rfl) ?_
  refine gp_quiet 4 rfl rfl rfl rfl rfl rfl (q_len Try.underlying36 rfl) ?_
  refine gp_quiet 5 rfl rfl rfl rfl rfl rfl (q_move rfl) ?_
  refine gp_quiet 6 rfl rfl rfl rfl rfl rfl (q_nilCheck rfl) ?_
  refine gp_quiet 7 rfl rfl rfl rfl rfl rfl (q_fieldAddr fa_109_1 rfl) ?_
  first | refine gp_quiet 8 rfl rfl rfl rfl rfl rfl (q_ld Try.isAgg3 rfl rfl) ?_ | refine gp_quiet 8 rfl rfl rfl rfl rfl rfl (q_ldw Try.isAgg3 rfl (by omega)) ?_
  first | refine gp_quiet 9 rfl rfl rfl rfl rfl rfl (q_sub_ rfl rfl (w_i64 (by omega) (by omega))) ?_ | refine gp_quiet 9 rfl rfl rfl rfl rfl rfl (q_subw rfl rfl) ?_
  refine gp_quiet 10 rfl rfl rfl rfl rfl rfl (q_assign rfl) ?_
  refine gp_end rfl rfl ?_
  refine g_ret Try.func74 rfl (.tmp rfl .nil) ?_
  first | refine ⟨.int _ _, rfl, ?_⟩ | refine ⟨_, rfl, ?_⟩
  refine l_assign rfl rfl ?_
  refine l_nil ?_
  refine g_ret Try.func33 rfl (.tmp rfl .nil) ?_
  first | refine ⟨.int _ _, rfl, ?_⟩ | refine ⟨_, rfl, ?_⟩
  refine l_move rfl rfl ?_
  refine l_lss rfl rfl rfl ?_
  refine l_nil ?_
  refine g_cond rfl ?_ ?_
  · intro hbr
    have hbr := of_decide_eq_true hbr
    refine g_seq ?_
    refine g_region ?_
    refine l_move rfl rfl ?_
    refine l_nilCheck rfl rfl ?_
    refine l_fieldAddr rfl fa_113_1 rfl ?_
    first | refine l_st Try.sizeOf26 rfl rfl rfl rfl ?_ | refine l_stw Try.sizeOf26 rfl rfl (by omega) ?_
    refine l_nil ?_
    refine g_seq ?_
    refine g_region ?_
    refine l_assign rfl rfl ?_
    refine l_nil ?_
    refine g_ret Try.func75 rfl (.tmp rfl .nil) ?_
    (first | exact Gives.mki ⟨_, _, _, rdN_flt (by omega), rfl, rfl⟩ | exact Gives.mki ⟨_, _, _, rdN_short (by omega) (by omega), rfl, rfl⟩ | (rw [show q = 0 by omega]; exact Gives.mki ⟨_, _, _, rdN_ok (by omega) (by omega), rfl, rfl⟩))
  intro hbr
  have hbr := of_decide_eq_false hbr
  refine g_skip ?_
  refine g_seq ?_
  refine g_region ?_
  refine l_assign rfl rfl ?_
  refine l_nil ?_
  refine g_seq ?_
  refine g_seq ?_
  refine g_region ?_
  refine l_move rfl rfl ?_
  first | refine l_sub_ rfl rfl rfl (w_i64 (by omega) (by omega)) ?_ | refine l_subw rfl rfl rfl ?_
  refine l_assign rfl rfl ?_
  refine l_nil ?_
  refine g_block ?_
  refine g_loopc (X := Int) [(0, _), (1, _), (4, _)] (.cons rfl (.cons rfl (.cons rfl (.nil)))) (fun i => -1 ≤ i ∧ i < k) (fun i => (i + 1).toNat) (fun i => [(5, .int .u64 (numB B (p + i + 1).toNat (k - 1 - i).toNat)), (6, .int .i64 i)]) ((k - 1)) (by omega) (.cons (by rw [show (k - 1 - (k - 1)).toNat = 0 by omega]; rfl) (.cons rfl .nil)) ?_
  rintro i ⟨i0, i1⟩ ih
  dsimp only [List.cons_append, List.nil_append] at ih ⊢
  have hbi := hU (p + i).toNat
  have hnf : 0 ≤ i → _ := fun h => num_fits hU (p := (p + i + 1).toNat) (j := (k - 1 - i).toNat) (by omega)
  refine g_seq ?_
  refine g_seq ?_
  refine g_region ?_
  refine l_move rfl rfl ?_
  refine l_geq rfl rfl rfl ?_
  refine l_nil ?_
  refine g_cond rfl ?_ ?_
  · intro hbr
    have hbr := of_decide_eq_true hbr
    refine g_skip ?_
    refine g_seq ?_
    refine g_block ?_
    refine gp_start mo (by kernel_rfl) (by kernel_rfl) ?_
    refine gp_quiet 0 rfl rfl rfl rfl rfl rfl (q_move rfl) ?_
    have hnf := hnf (by omega)
    refine gp_quiet 1 rfl rfl rfl rfl rfl rfl (q_shlc (C := 256) rfl rfl (by decide) (by decide) (w_u64 (by omega) (by omega))) ?_
    refine gp_quiet 2 rfl rfl rfl rfl rfl rfl (q_move rfl) ?_
    refine gp_quiet 3 rfl rfl rfl rfl rfl rfl (q_nilCheck rfl) ?_
    refine gp_quiet 4 rfl rfl rfl rfl rfl rfl (q_fieldAddr fa_113_0 rfl) ?_
    refine gp_quiet 5 rfl rfl rfl rfl rfl rfl (q_ld Try.isAgg107 rfl rfl) ?_
    refine gp_quiet 6 rfl rfl rfl rfl rfl rfl (q_nilCheck rfl) ?_
    refine gp_quiet 7 rfl rfl rfl rfl rfl rfl (q_fieldAddr fa_109_0 rfl) ?_
    refine gp_quiet 8 rfl rfl rfl rfl rfl rfl (q_ld Try.isAgg36 rfl rfl) ?_
    refine gp_quiet 9 rfl rfl rfl rfl rfl rfl (q_move rfl) ?_
    refine gp_quiet 10 rfl rfl rfl rfl rfl rfl (q_nilCheck rfl) ?_
    refine gp_quiet 11 rfl rfl rfl rfl rfl rfl (q_fieldAddr fa_113_0 rfl) ?_
    refine gp_quiet 12 rfl rfl rfl rfl rfl rfl (q_ld Try.isAgg107 rfl rfl) ?_
    refine gp_quiet 13 rfl rfl rfl rfl rfl rfl (q_nilCheck rfl) ?_
    refine gp_quiet 14 rfl rfl rfl rfl rfl rfl (q_fieldAddr fa_109_1 rfl) ?_
    first | refine gp_quiet 15 rfl rfl rfl rfl rfl rfl (q_ld Try.isAgg3 rfl rfl) ?_ | refine gp_quiet 15 rfl rfl rfl rfl rfl rfl (q_ldw Try.isAgg3 rfl (by omega)) ?_
    refine gp_quiet 16 rfl rfl rfl rfl rfl rfl (q_move rfl) ?_
    first | refine gp_quiet 17 rfl rfl rfl rfl rfl rfl (q_add rfl rfl (w_i64 (by omega) (by omega))) ?_ | refine gp_quiet 17 rfl rfl rfl rfl rfl rfl (q_addw rfl rfl) ?_
    refine gp_quiet 18 rfl rfl rfl rfl rfl rfl (q_ixs Try.underlying36 Try.sizeOf5 rfl rfl (by omega) (by omega)) ?_
    refine gp_quiet 19 rfl rfl rfl rfl rfl rfl (q_loadc Try.isAgg5 rfl (word_at (mem_getO 2 rfl) (by omega))) ?_
    first | refine gp_quiet 20 rfl rfl rfl rfl rfl rfl (q_conv Try.underlying5 Try.underlying53 rfl (w_u64 (by omega) (by omega))) ?_ | refine gp_quiet 20 rfl rfl rfl rfl rfl rfl (q_convm (m := 18446744073709551616) wr_u64 Try.underlying5 Try.underlying53 rfl) ?_
    refine gp_quiet 21 rfl rfl rfl rfl rfl rfl (q_orr (m := 64) (r := numB B (p + (i - 1) + 1).toNat (k - 1 - (i - 1)).toNat) rfl rfl rfl rfl (by rw [or_low (by omega) (by omega) (by omega) (by omega)]; exact num_step p0 (by omega) (by omega))) ?_
    refine gp_after 22 rfl rfl rfl rfl rfl rfl rfl rfl (q_assign rfl) ?_
    refine gp_end rfl rfl ?_
    refine g_inBlock ?_
    refine g_region ?_
    refine l_move rfl rfl ?_
    first | refine l_sub_ rfl rfl rfl (w_i64 (by omega) (by omega)) ?_ | refine l_subw rfl rfl rfl ?_
    refine l_assign rfl rfl ?_
    refine l_nil ?_
    exact g_againi (ih (i - 1) (by omega) (by omega)) (.cons rfl (.cons rfl (.cons rfl (.cons rfl (.cons rfl (.nil))))))
  intro hbr
  have hbr := of_decide_eq_false hbr
  refine g_exit rfl ?_
  obtain rfl : i = -1 := by omega
  rw [show (p + -1 + 1).toNat = p.toNat by omega, show (k - 1 - -1).toNat = k.toNat by omega]
  refine g_seq ?_
  refine g_region ?_
  refine l_move rfl rfl ?_
  refine l_nilCheck rfl rfl ?_
  refine l_fieldAddr rfl fa_113_0 rfl ?_
  refine l_ld rfl Try.isAgg107 rfl rfl ?_
  refine l_nilCheck rfl rfl ?_
  refine l_fieldAddr rfl fa_109_1 rfl ?_
  first | refine l_ld rfl Try.isAgg3 rfl rfl ?_ | refine l_ldw rfl Try.isAgg3 rfl (by omega) ?_
  refine l_move rfl rfl ?_
  first | refine l_add rfl rfl rfl (w_i64 (by omega) (by omega)) ?_ | refine l_addw rfl rfl rfl ?_
  refine l_nilCheck rfl rfl ?_
  refine l_fieldAddr rfl fa_109_1 rfl ?_
  first | refine l_st Try.sizeOf3 rfl rfl rfl rfl ?_ | refine l_stw Try.sizeOf3 rfl rfl (by omega) ?_
  refine l_nil ?_
  refine g_seq ?_
  refine g_region ?_
  refine l_move rfl rfl ?_
  refine l_assign rfl rfl ?_
  refine l_nil ?_
  refine g_ret Try.func75 rfl (.tmp rfl .nil) ?_
  (first | exact Gives.mki ⟨_, _, _, rdN_flt (by omega), rfl, rfl⟩ | exact Gives.mki ⟨_, _, _, rdN_short (by omega) (by omega), rfl, rfl⟩ | (rw [show q = 0 by omega]; exact Gives.mki ⟨_, _, _, rdN_ok (by omega) (by omega), rfl, rfl⟩))
end Go.Proofs.Ytnkmhhjldfapdaa.Fw
