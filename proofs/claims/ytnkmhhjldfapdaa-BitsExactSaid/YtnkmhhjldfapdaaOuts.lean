import Derived.Test.YtnkmhhjldfapdaaWriter
namespace Go.Proofs.Ytnkmhhjldfapdaa.Fw
open Go Go.Proofs
set_option linter.unusedVariables false
set_option linter.unusedSimpArgs false
set_option maxRecDepth 10000

theorem u8_ok (w0 : World) (F : List Atom) (bw br : Nat) (a : Option Addr) (n c : Nat) (B : List Int) (hB : B.length = n) (ha : n = 0 ∨ ∃ g, a = some ⟨g, 0, none⟩) (hnk : n ≤ 4398046511104) (x : Int) (x0 : 0 ≤ x) (x1 : x ≤ 255) (B0 : List Int) (hB0 : B ++ lowB x 1 = B0) :
    CallK Try.prog 40 [.pointer (some ⟨bw, 0, none⟩), .int .u8 x] w0 (Blk bw (.cells [Value.pointer (some ⟨br, 0, none⟩)].toArray 111 (0, 0)) :: Blk br (.cells [Value.slice a n c, .int .i64 0].toArray 109 (0, 0)) :: Own 5 1 (.slice a n c) n (ints .u8 B) :: F) (Gives w0 fun v F2 => ∃ a2 c2, (n + 1 = 0 ∨ ∃ g, a2 = some ⟨g, 0, none⟩) ∧ F2 = Blk bw (.cells [Value.pointer (some ⟨br, 0, none⟩)].toArray 111 (0, 0)) :: Blk br (.cells [Value.slice a2 (n + 1) c2, .int .i64 0].toArray 109 (0, 0)) :: Own 5 1 (.slice a2 (n + 1) c2) (n + 1) (ints .u8 B0) :: F) := by
  refine c_enter Try.func40 rfl rfl rfl ?_
  refine g_region ?_
  refine l_move rfl rfl ?_
  refine l_move rfl rfl ?_
  first | refine l_conv rfl Try.underlying5 Try.underlying53 rfl (w_u64 (by omega) (by omega)) ?_ | refine l_convm (m := 18446744073709551616) rfl wr_u64 Try.underlying5 Try.underlying53 rfl ?_
  refine l_call rfl Try.call76 rfl (lay_ok _ _ bw br a n c B hB ha _ _ (by omega) (by omega) (by omega) (by omega) (by omega) _ hB0 (n + 1) rfl) ?_; rintro _ _ ⟨a2, c2, ha2, rfl⟩
  refine l_nil ?_
  refine g_end Try.func40 rfl .nil ?_
  exact Gives.mki ⟨a2, c2, ha2, rfl⟩
theorem u32_ok (w0 : World) (F : List Atom) (bw br : Nat) (a : Option Addr) (n c : Nat) (B : List Int) (hB : B.length = n) (ha : n = 0 ∨ ∃ g, a = some ⟨g, 0, none⟩) (hnk : n ≤ 4398046511104) (x : Int) (x0 : 0 ≤ x) (x1 : x ≤ 4294967295) (B0 : List Int) (hB0 : B ++ lowB x 4 = B0) :
    CallK Try.prog 45 [.pointer (some ⟨bw, 0, none⟩), .int .u32 x] w0 (Blk bw (.cells [Value.pointer (some ⟨br, 0, none⟩)].toArray 111 (0, 0)) :: Blk br (.cells [Value.slice a n c, .int .i64 0].toArray 109 (0, 0)) :: Own 5 1 (.slice a n c) n (ints .u8 B) :: F) (Gives w0 fun v F2 => ∃ a2 c2, (n + 4 = 0 ∨ ∃ g, a2 = some ⟨g, 0, none⟩) ∧ F2 = Blk bw (.cells [Value.pointer (some ⟨br, 0, none⟩)].toArray 111 (0, 0)) :: Blk br (.cells [Value.slice a2 (n + 4) c2, .int .i64 0].toArray 109 (0, 0)) :: Own 5 1 (.slice a2 (n + 4) c2) (n + 4) (ints .u8 B0) :: F) := by
  refine c_enter Try.func45 rfl rfl rfl ?_
  refine g_region ?_
  refine l_move rfl rfl ?_
  refine l_move rfl rfl ?_
  first | refine l_conv rfl Try.underlying23 Try.underlying53 rfl (w_u64 (by omega) (by omega)) ?_ | refine l_convm (m := 18446744073709551616) rfl wr_u64 Try.underlying23 Try.underlying53 rfl ?_
  refine l_call rfl Try.call76 rfl (lay_ok _ _ bw br a n c B hB ha _ _ (by omega) (by omega) (by omega) (by omega) (by omega) _ hB0 (n + 4) rfl) ?_; rintro _ _ ⟨a2, c2, ha2, rfl⟩
  refine l_nil ?_
  refine g_end Try.func45 rfl .nil ?_
  exact Gives.mki ⟨a2, c2, ha2, rfl⟩
theorem u64_ok (w0 : World) (F : List Atom) (bw br : Nat) (a : Option Addr) (n c : Nat) (B : List Int) (hB : B.length = n) (ha : n = 0 ∨ ∃ g, a = some ⟨g, 0, none⟩) (hnk : n ≤ 4398046511104) (x : Int) (x0 : 0 ≤ x) (x1 : x ≤ 18446744073709551615) (B0 : List Int) (hB0 : B ++ lowB x 8 = B0) :
    CallK Try.prog 46 [.pointer (some ⟨bw, 0, none⟩), .int .u64 x] w0 (Blk bw (.cells [Value.pointer (some ⟨br, 0, none⟩)].toArray 111 (0, 0)) :: Blk br (.cells [Value.slice a n c, .int .i64 0].toArray 109 (0, 0)) :: Own 5 1 (.slice a n c) n (ints .u8 B) :: F) (Gives w0 fun v F2 => ∃ a2 c2, (n + 8 = 0 ∨ ∃ g, a2 = some ⟨g, 0, none⟩) ∧ F2 = Blk bw (.cells [Value.pointer (some ⟨br, 0, none⟩)].toArray 111 (0, 0)) :: Blk br (.cells [Value.slice a2 (n + 8) c2, .int .i64 0].toArray 109 (0, 0)) :: Own 5 1 (.slice a2 (n + 8) c2) (n + 8) (ints .u8 B0) :: F) := by
  refine c_enter Try.func46 rfl rfl rfl ?_
  refine g_region ?_
  refine l_move rfl rfl ?_
  refine l_move rfl rfl ?_
  refine l_call rfl Try.call76 rfl (lay_ok _ _ bw br a n c B hB ha _ _ (by omega) (by omega) (by omega) (by omega) (by omega) _ hB0 (n + 8) rfl) ?_; rintro _ _ ⟨a2, c2, ha2, rfl⟩
  refine l_nil ?_
  refine g_end Try.func46 rfl .nil ?_
  exact Gives.mki ⟨a2, c2, ha2, rfl⟩

theorem wtext_ok (w0 : World) (F : List Atom) (bw br : Nat) (a : Option Addr) (n c : Nat) (B : List Int) (hB : B.length = n) (ha : n = 0 ∨ ∃ g, a = some ⟨g, 0, none⟩) (hnk : n ≤ 4398046511104) (z : ByteArray) (hz : z.size ≤ 4294967295) (B0 : List Int) (hB0 : B ++ (lowB (z.size : Int) 4 ++ bytesI z) = B0) :
    CallK Try.prog 41 [.pointer (some ⟨bw, 0, none⟩), .string z] w0 (Blk bw (.cells [Value.pointer (some ⟨br, 0, none⟩)].toArray 111 (0, 0)) :: Blk br (.cells [Value.slice a n c, .int .i64 0].toArray 109 (0, 0)) :: Own 5 1 (.slice a n c) n (ints .u8 B) :: F) (Gives w0 fun v F2 => ∃ a2 c2, (n + 4 + z.size = 0 ∨ ∃ g, a2 = some ⟨g, 0, none⟩) ∧ F2 = Blk bw (.cells [Value.pointer (some ⟨br, 0, none⟩)].toArray 111 (0, 0)) :: Blk br (.cells [Value.slice a2 (n + 4 + z.size) c2, .int .i64 0].toArray 109 (0, 0)) :: Own 5 1 (.slice a2 (n + 4 + z.size) c2) (n + 4 + z.size) (ints .u8 B0) :: F) := by
  refine c_enter Try.func41 rfl rfl rfl ?_
  refine g_seq ?_
  refine g_seq ?_
  refine g_region ?_
  refine l_move rfl rfl ?_
  refine l_eqpn rfl Try.underlying61 rfl rfl ?_
  refine l_nil ?_
  first | refine g_cond_f rfl ?_ | refine g_cond_f (congrArg (fun b => some (Value.bool b)) (decide_eq_false hbr)) ?_
  refine g_skip ?_
  refine g_seq ?_
  refine g_region ?_
  refine l_move rfl rfl ?_
  refine l_move rfl rfl ?_
  refine l_lens rfl Try.underlying9 rfl ?_
  first | refine l_conv rfl Try.underlying3 Try.underlying23 rfl (w_u32 (by omega) (by omega)) ?_ | refine l_convm (m := 4294967296) rfl wr_u32 Try.underlying3 Try.underlying23 rfl ?_
  refine l_call rfl Try.call45 rfl (u32_ok _ _ bw br a n c B hB ha (by omega) _ (by omega) (by omega) _ rfl) ?_; rintro _ _ ⟨a2, c2, ha2, rfl⟩
  refine l_nil ?_
  refine gp_start mo (by kernel_rfl) (by kernel_rfl) ?_
  refine gp_quiet 0 rfl rfl rfl rfl rfl rfl (q_move rfl) ?_
  refine gp_quiet 1 rfl rfl rfl rfl rfl rfl (q_nilCheck rfl) ?_
  refine gp_quiet 2 rfl rfl rfl rfl rfl rfl (q_fieldAddr fa_111_0 rfl) ?_
  refine gp_quiet 3 rfl rfl rfl rfl rfl rfl (q_ld Try.isAgg107 rfl rfl) ?_
  refine gp_quiet 4 rfl rfl rfl rfl rfl rfl (q_move rfl) ?_
  refine gp_quiet 5 rfl rfl rfl rfl rfl rfl (q_nilCheck rfl) ?_
  refine gp_quiet 6 rfl rfl rfl rfl rfl rfl (q_fieldAddr fa_111_0 rfl) ?_
  refine gp_quiet 7 rfl rfl rfl rfl rfl rfl (q_ld Try.isAgg107 rfl rfl) ?_
  refine gp_quiet 8 rfl rfl rfl rfl rfl rfl (q_nilCheck rfl) ?_
  refine gp_quiet 9 rfl rfl rfl rfl rfl rfl (q_fieldAddr fa_109_0 rfl) ?_
  refine gp_quiet 10 rfl rfl rfl rfl rfl rfl (q_ld Try.isAgg36 rfl rfl) ?_
  refine gp_quiet 11 rfl rfl rfl rfl rfl rfl (q_move rfl) ?_
  refine gp_effa 12 [10, 11] [9, 8, 7, 6, 5, 4, 3, 2, 1, 0] rfl rfl rfl rfl rfl rfl rfl (does_app_str 2 (V := B ++ lowB (z.size : Int) 4) (m := n + 4) (m3 := n + 4 + z.size) Try.underlying36 Try.underlying9 Try.type5 rfl rfl rfl rfl rfl rfl (by omega) rfl (fun _ _ => rfl)) ?_
  rintro _ _ ⟨a3, c3, ha3, hn3, rfl, rfl⟩
  refine ⟨?_, ?_⟩
  · refine .cons rfl rfl rfl rfl rfl (q_fieldAddr fa_109_0 rfl) ?_
    refine .cons rfl rfl rfl rfl rfl (q_nilCheck rfl) ?_
    refine .cons rfl rfl rfl rfl rfl (q_ld Try.isAgg107 rfl rfl) ?_
    refine .cons rfl rfl rfl rfl rfl (q_fieldAddr fa_111_0 rfl) ?_
    refine .cons rfl rfl rfl rfl rfl (q_nilCheck rfl) ?_
    refine .cons rfl rfl rfl rfl rfl (q_move rfl) ?_
    refine .cons rfl rfl rfl rfl rfl (q_ld Try.isAgg107 rfl rfl) ?_
    refine .cons rfl rfl rfl rfl rfl (q_fieldAddr fa_111_0 rfl) ?_
    refine .cons rfl rfl rfl rfl rfl (q_nilCheck rfl) ?_
    refine .cons rfl rfl rfl rfl rfl (q_move rfl) ?_
    exact .nil
  refine gp_quiet 13 rfl rfl rfl rfl rfl rfl (q_nilCheck rfl) ?_
  refine gp_quiet 14 rfl rfl rfl rfl rfl rfl (q_fieldAddr fa_109_0 rfl) ?_
  refine gp_effa 15 [0, 1, 2, 3, 4, 5, 6, 7, 8, 9, 14] [13] rfl rfl rfl rfl rfl rfl rfl (does_st Try.sizeOf36 rfl rfl rfl rfl) ?_
  rintro _ _ ⟨rfl, rfl⟩
  refine ⟨?_, ?_⟩
  · refine .cons rfl rfl rfl rfl rfl (q_nilCheck rfl) ?_
    exact .nil
  refine gp_end rfl rfl ?_
  refine g_end Try.func41 rfl .nil ?_
  exact Gives.mki ⟨a3, c3, ha3, by rw [← hB0, ← List.append_assoc]⟩
theorem out_ok (w0 : World) (F : List Atom) (bw br : Nat) (a : Option Addr) (n c : Nat) (B : List Int) (hB : B.length = n) (ha : n = 0 ∨ ∃ g, a = some ⟨g, 0, none⟩) (hnk : n ≤ 140737488355327) :
    CallK Try.prog 28 [.pointer (some ⟨bw, 0, none⟩)] w0 (Blk bw (.cells [Value.pointer (some ⟨br, 0, none⟩)].toArray 111 (0, 0)) :: Blk br (.cells [Value.slice a n c, .int .i64 0].toArray 109 (0, 0)) :: Own 5 1 (.slice a n c) n (ints .u8 B) :: F) (Gives w0 fun v F2 => ∃ g, v = .slice (some ⟨g, 0, none⟩) n n ∧ F2 = Own 5 1 (.slice (some ⟨g, 0, none⟩) n n) n (ints .u8 B) :: Blk bw (.cells [Value.pointer (some ⟨br, 0, none⟩)].toArray 111 (0, 0)) :: Blk br (.cells [Value.slice a n c, .int .i64 0].toArray 109 (0, 0)) :: Own 5 1 (.slice a n c) n (ints .u8 B) :: F) := by
  refine c_enter Try.func28 rfl rfl rfl ?_
  refine g_seq ?_
  refine g_region ?_
  refine l_assign rfl rfl ?_
  refine l_nil ?_
  refine g_seq ?_
  refine g_seq ?_
  refine g_region ?_
  refine l_move rfl rfl ?_
  refine l_eqpn rfl Try.underlying61 rfl rfl ?_
  refine l_nil ?_
  first | refine g_cond_f rfl ?_ | refine g_cond_f (congrArg (fun b => some (Value.bool b)) (decide_eq_false hbr)) ?_
  refine g_skip ?_
  refine g_seq ?_
  refine g_region ?_
  refine l_move rfl rfl ?_
  refine l_nilCheck rfl rfl ?_
  refine l_fieldAddr rfl fa_111_0 rfl ?_
  refine l_ld rfl Try.isAgg107 rfl rfl ?_
  refine l_nilCheck rfl rfl ?_
  refine l_fieldAddr rfl fa_109_0 rfl ?_
  refine l_ld rfl Try.isAgg36 rfl rfl ?_
  refine l_len rfl Try.underlying36 rfl ?_
  refine l_make1 rfl Try.underlying36 Try.type5 rfl rfl rfl rfl rfl (by omega) (by show (1 : Int) * _ ≤ _; omega) (by omega) ?_; intro g14; rw [show List.replicate (n : Int).toNat (Value.int IntKind.u8 0) = ints .u8 (List.replicate n 0) by simp [ints], Int.toNat_natCast]
  refine l_assign rfl rfl ?_
  refine l_nil ?_
  refine g_seq ?_
  refine g_region ?_
  refine l_move rfl rfl ?_
  refine l_move rfl rfl ?_
  refine l_nilCheck rfl rfl ?_
  refine l_fieldAddr rfl fa_111_0 rfl ?_
  refine l_ld rfl Try.isAgg107 rfl rfl ?_
  refine l_nilCheck rfl rfl ?_
  refine l_fieldAddr rfl fa_109_0 rfl ?_
  refine l_ld rfl Try.isAgg36 rfl rfl ?_
  refine l_fact (own_cases (mem_getO 3 rfl)) ?_; intro hoc
  refine l_copyw 0 rfl Try.underlying36 Try.sizeOf5 rfl rfl rfl (Reads.of_own (mem_getO 3 rfl) (by rw [ints_length, hB, Nat.mul_one]) hoc.2.2) (by simp) (by rw [spl_full (q := n) (m := n) (by simp) (by omega) (Nat.le_refl _), List.take_of_length_le (by omega)]; rfl) ?_
  refine l_nil ?_
  refine g_seq ?_
  refine g_region ?_
  refine l_move rfl rfl ?_
  refine l_assign rfl rfl ?_
  refine l_nil ?_
  refine g_ret Try.func28 rfl (.tmp rfl .nil) ?_
  exact Gives.mki ⟨g14, rfl, rfl⟩
end Go.Proofs.Ytnkmhhjldfapdaa.Fw
