import Derived.Test.YtnkmhhjldfapdaaPlain
namespace Go.Proofs.Ytnkmhhjldfapdaa.Fw
open Go Go.Proofs
set_option linter.unusedVariables false
set_option linter.unusedSimpArgs false
set_option maxRecDepth 10000
theorem bd_109_z  (w : World) : (Instr.build 109 #[]).run Try.prog w = .ok (.agg #[.slice none 0 0, .int .i64 0]) w := by kernel_rfl
theorem bd_111_0 (a0_0 : Option Addr) (w : World) : (Instr.build 111 #[(0, .pointer a0_0)]).run Try.prog w = .ok (.agg #[.pointer a0_0]) w := by kernel_rfl
theorem mo : Try.prog.follows .mixedOrders = true := by kernel_rfl
theorem fa_111_0 (a : Addr) (w : World) : (Instr.fieldAt 111 (.pointer (some a)) 0).run Try.prog w = .ok (.pointer (some (a.add 0))) w := by
  simp [Instr.fieldAt, Try.runUnderlying111, Instr.sureAddr, fieldPlace, Try.sizeOf107, Sem.run_bind, Sem.run_pure]
theorem fa_109_0 (a : Addr) (w : World) : (Instr.fieldAt 109 (.pointer (some a)) 0).run Try.prog w = .ok (.pointer (some (a.add 0))) w := by
  simp [Instr.fieldAt, Try.runUnderlying109, Instr.sureAddr, fieldPlace, Try.sizeOf36, Sem.run_bind, Sem.run_pure]
def lowB (x : Int) : Nat → List Int
  | 0 => []
  | k + 1 => x % 256 :: lowB (x / 256) k
theorem lowB_len (x : Int) : ∀ k, (lowB x k).length = k
  | 0 => rfl
  | k + 1 => by simp [lowB, lowB_len (x / 256) k]
theorem lowB_byte {x : Int} : ∀ {k : Nat} {b : Int}, b ∈ lowB x k → 0 ≤ b ∧ b ≤ 255
  | 0, b, h => by simp [lowB] at h
  | k + 1, b, h => by
    rcases List.mem_cons.1 h with rfl | h
    · omega
    · exact lowB_byte h
theorem g_wnil {P : Program} {f : FuncId} {w0 : World} {K : Post} {n : Nat} {d : List Deferred} {k : List Item} {e : Env} {F : List Atom} (E : Nat) (kd : IntKind) (h : G P f w0 K n d k e (Own E 1 (.slice none 0 0) 0 (ints kd []) :: F)) : G P f w0 K n d k e F := g_own_nil E 1 h
theorem lay_step {x : Int} {B L : List Int} {m : Nat} (h : B ++ lowB x (m + 1) = L) : (B ++ [x % 256]) ++ lowB (x / 256) m = L := by
  rw [← h]; simp [lowB]
theorem neww_ok (w0 : World) (F : List Atom)  :
    CallK Try.prog 25 [] w0 (F) (Gives w0 fun v F2 => ∃ bw br, v = .pointer (some ⟨bw, 0, none⟩) ∧ F2 = Blk bw (.cells [Value.pointer (some ⟨br, 0, none⟩)].toArray 111 (0, 0)) :: Blk br (.cells [Value.slice none 0 0, .int .i64 0].toArray 109 (0, 0)) :: Own 5 1 (.slice none 0 0) 0 (ints .u8 []) :: F) := by
  refine c_enter Try.func25 rfl rfl rfl ?_
  refine g_seq ?_
  refine g_region ?_
  refine l_assign rfl rfl ?_
  refine l_nil ?_
  refine g_seq ?_
  refine g_region ?_
  refine l_build rfl rfl (fun w => bd_109_z w) ?_
  refine l_boxs rfl rfl ?_; intro b2
  refine l_build rfl rfl (fun w => bd_111_0 _ w) ?_
  refine l_boxs rfl rfl ?_; intro b4
  refine l_assign rfl rfl ?_
  refine l_nil ?_
  refine g_wnil 5 .u8 ?_
  refine g_ret Try.func25 rfl (.tmp rfl .nil) ?_
  exact Gives.mki ⟨b4, b2, rfl, rfl⟩
theorem lay_ok (w0 : World) (F : List Atom) (bw br : Nat) (a : Option Addr) (n c : Nat) (B : List Int) (hB : B.length = n) (ha : n = 0 ∨ ∃ g, a = some ⟨g, 0, none⟩) (x k : Int) (x0 : 0 ≤ x) (x1 : x ≤ 18446744073709551615) (k0 : 0 ≤ k) (k1 : k ≤ 8) (hnk : n ≤ 4398046511104) (B0 : List Int) (hB0 : B ++ lowB x k.toNat = B0) (m : Nat) (hm : n + k.toNat = m) :
    CallK Try.prog 76 [.pointer (some ⟨bw, 0, none⟩), .int .u64 x, .int .i64 k] w0 (Blk bw (.cells [Value.pointer (some ⟨br, 0, none⟩)].toArray 111 (0, 0)) :: Blk br (.cells [Value.slice a n c, .int .i64 0].toArray 109 (0, 0)) :: Own 5 1 (.slice a n c) n (ints .u8 B) :: F) (Gives w0 fun v F2 => ∃ a2 c2, (m = 0 ∨ ∃ g, a2 = some ⟨g, 0, none⟩) ∧ F2 = Blk bw (.cells [Value.pointer (some ⟨br, 0, none⟩)].toArray 111 (0, 0)) :: Blk br (.cells [Value.slice a2 m c2, .int .i64 0].toArray 109 (0, 0)) :: Own 5 1 (.slice a2 m c2) m (ints .u8 B0) :: F) := by
  refine c_enter Try.func76 rfl rfl rfl ?_
  refine g_seq ?_
  refine g_seq ?_
  refine g_region ?_
  refine l_move rfl rfl ?_
  refine l_eqpn rfl Try.underlying61 rfl rfl ?_
  refine l_nil ?_
  first | refine g_cond_f rfl ?_ | refine g_cond_f (congrArg (fun b => some (Value.bool b)) (decide_eq_false hbr)) ?_
  refine g_skip ?_
  refine g_seq ?_
  refine g_region ?_
  refine l_move rfl rfl ?_
  refine l_move rfl rfl ?_
  refine l_nil ?_
  refine g_block ?_
  refine g_loopk (X := Int × Int × Option Addr × Nat × Nat × List Int) [(0, _), (8, _)] (.cons rfl (.cons rfl (.nil))) (fun z => 0 ≤ z.1 ∧ z.1 ≤ k ∧ 0 ≤ z.2.1 ∧ z.2.1 ≤ 18446744073709551615 ∧ z.2.2.2.1 = n + z.1.toNat ∧ z.2.2.2.2.2.length = z.2.2.2.1 ∧ z.2.2.2.2.2 ++ lowB z.2.1 (k - z.1).toNat = B0 ∧ (z.2.2.2.1 = 0 ∨ ∃ g, z.2.2.1 = some ⟨g, 0, none⟩)) (fun z => (k - z.1).toNat) (fun z => [(1, .int .u64 z.2.1), (9, .int .i64 z.1)]) (fun z => Blk bw (.cells [Value.pointer (some ⟨br, 0, none⟩)].toArray 111 (0, 0)) :: Blk br (.cells [Value.slice z.2.2.1 z.2.2.2.1 z.2.2.2.2.1, .int .i64 0].toArray 109 (0, 0)) :: Own 5 1 (.slice z.2.2.1 z.2.2.2.1 z.2.2.2.2.1) z.2.2.2.1 (ints .u8 z.2.2.2.2.2) :: F) ((0, x, a, n, c, B)) (⟨by simp only; omega, by simp only; omega, by simp only; omega, by simp only; omega, by simp, hB, by simp only; rw [show (k - 0).toNat = k.toNat by omega]; exact hB0, ha⟩) (.cons rfl (.cons rfl .nil)) (fun w hw => SPI.holds hw) ?_
  rintro ⟨i, y, a1, n1, c1, L⟩ ⟨i0, i1, y0, y1, hn1, hL, hBL, ha1⟩ ih
  dsimp only [List.cons_append, List.nil_append] at ih ⊢
  simp only at i0 i1 y0 y1 hn1 hL hBL ha1
  refine g_seq ?_
  refine g_region ?_
  refine l_lss rfl rfl rfl ?_
  refine l_nil ?_
  refine g_seq ?_
  refine g_cond rfl ?_ ?_
  · intro hbr
    have hbr := of_decide_eq_true hbr
    refine g_skip ?_
    refine g_seq ?_
    refine g_block ?_
    refine g_seq ?_
    refine gp_start mo (by kernel_rfl) (by kernel_rfl) ?_
    refine gp_quiet 0 rfl rfl rfl rfl rfl rfl (q_move rfl) ?_
    refine gp_quiet 1 rfl rfl rfl rfl rfl rfl (q_nilCheck rfl) ?_
    refine gp_quiet 2 rfl rfl rfl rfl rfl rfl (q_fieldAddr fa_111_0 rfl) ?_
    refine gp_quiet 3 rfl rfl rfl rfl rfl rfl (q_ld Try.isAgg107 rfl rfl) ?_
    refine gp_quiet 4 rfl rfl rfl rfl rfl rfl (q_move rfl) ?_
    refine gp_quiet 5 rfl rfl rfl rfl rfl rfl (q_nilCheck rfl) ?_
    refine gp_quiet 6 rfl rfl rfl rfl rfl rfl (q_fieldAddr fa_111_0 rfl) ?_
    refine gp_quiet 7 rfl rfl rfl rfl rfl rfl (q_ld Try.isAgg107 rfl rfl) ?_
    refine gp_quiet 8 rfl rfl rfl rfl rfl rfl (q_nilCheck rfl) ?_
    refine gp_quiet 9 rfl rfl rfl rfl rfl rfl (q_fieldAddr fa_109_0 rfl) ?_
    refine gp_quiet 10 rfl rfl rfl rfl rfl rfl (q_ld Try.isAgg36 rfl rfl) ?_
    refine gp_quiet 11 rfl rfl rfl rfl rfl rfl (q_move rfl) ?_
    refine gp_quiet 12 rfl rfl rfl rfl rfl rfl (q_convm (m := 256) wr_u8 Try.underlying53 Try.underlying5 rfl) ?_
    refine gp_effa 13 [12] [11, 10, 9, 8, 7, 6, 5, 4, 3, 2, 1, 0] rfl rfl rfl rfl rfl rfl rfl (does_buildSlice Try.underlying36 Try.sizeOf5 Try.zeroValue5 rfl rfl rfl rfl rfl rfl) ?_
    rintro _ _ ⟨b24, rfl, rfl⟩
    refine ⟨?_, ?_⟩
    · refine .cons rfl rfl rfl rfl rfl (q_move rfl) ?_
      refine .cons rfl rfl rfl rfl rfl (q_ld Try.isAgg36 rfl rfl) ?_
      refine .cons rfl rfl rfl rfl rfl (q_fieldAddr fa_109_0 rfl) ?_
      refine .cons rfl rfl rfl rfl rfl (q_nilCheck rfl) ?_
      refine .cons rfl rfl rfl rfl rfl (q_ld Try.isAgg107 rfl rfl) ?_
      refine .cons rfl rfl rfl rfl rfl (q_fieldAddr fa_111_0 rfl) ?_
      refine .cons rfl rfl rfl rfl rfl (q_nilCheck rfl) ?_
      refine .cons rfl rfl rfl rfl rfl (q_move rfl) ?_
      refine .cons rfl rfl rfl rfl rfl (q_ld Try.isAgg107 rfl rfl) ?_
      refine .cons rfl rfl rfl rfl rfl (q_fieldAddr fa_111_0 rfl) ?_
      refine .cons rfl rfl rfl rfl rfl (q_nilCheck rfl) ?_
      refine .cons rfl rfl rfl rfl rfl (q_move rfl) ?_
      exact .nil
    refine gp_effa 14 [10] [11, 9, 8, 7, 6, 5, 4, 3, 2, 1, 0] rfl rfl rfl rfl rfl rfl rfl (does_apps 3 (by_ := 1) (kd := .u8) (V := L) (W := [y % 256]) (m := n1) (m2 := 1) Try.underlying36 Try.type5 rfl rfl rfl rfl rfl rfl rfl ⟨rfl, .inl ⟨_, _, _, rfl, .own (mem_getO 0 rfl)⟩⟩ (by omega) (by simp only [maxLen]; omega) rfl rfl (fun _ _ => rfl)) ?_
    rintro _ _ ⟨a25, c25, ha25, hn25, rfl, rfl⟩
    refine ⟨?_, ?_⟩
    · refine .cons rfl rfl rfl rfl rfl (q_move rfl) ?_
      refine .cons rfl rfl rfl rfl rfl (q_fieldAddr fa_109_0 rfl) ?_
      refine .cons rfl rfl rfl rfl rfl (q_nilCheck rfl) ?_
      refine .cons rfl rfl rfl rfl rfl (q_ld Try.isAgg107 rfl rfl) ?_
      refine .cons rfl rfl rfl rfl rfl (q_fieldAddr fa_111_0 rfl) ?_
      refine .cons rfl rfl rfl rfl rfl (q_nilCheck rfl) ?_
      refine .cons rfl rfl rfl rfl rfl (q_move rfl) ?_
      refine .cons rfl rfl rfl rfl rfl (q_ld Try.isAgg107 rfl rfl) ?_
      refine .cons rfl rfl rfl rfl rfl (q_fieldAddr fa_111_0 rfl) ?_
      refine .cons rfl rfl rfl rfl rfl (q_nilCheck rfl) ?_
      refine .cons rfl rfl rfl rfl rfl (q_move rfl) ?_
      exact .nil
    refine gp_quiet 15 rfl rfl rfl rfl rfl rfl (q_nilCheck rfl) ?_
    refine gp_quiet 16 rfl rfl rfl rfl rfl rfl (q_fieldAddr fa_109_0 rfl) ?_
    refine gp_effa 17 [0, 1, 2, 3, 4, 5, 6, 7, 8, 9, 11, 16] [15] rfl rfl rfl rfl rfl rfl rfl (does_st Try.sizeOf36 rfl rfl rfl rfl) ?_
    rintro _ _ ⟨rfl, rfl⟩
    refine ⟨?_, ?_⟩
    · refine .cons rfl rfl rfl rfl rfl (q_nilCheck rfl) ?_
      exact .nil
    refine gp_end rfl rfl ?_
    refine g_region ?_
    refine l_move rfl rfl ?_
    refine l_shrc (C := 256) rfl rfl rfl (by decide) (by decide) ?_
    refine l_assign rfl rfl ?_
    refine l_nil ?_
    refine g_inBlock ?_
    refine g_region ?_
    first | refine l_add rfl rfl rfl (w_i64 (by omega) (by omega)) ?_ | refine l_addw rfl rfl rfl ?_
    refine l_move rfl rfl ?_
    refine l_nil ?_
    have hkx : (k - i).toNat = (k - (i + 1)).toNat + 1 := by omega
    rw [hkx] at hBL
    exact g_againi (ih (i + 1, y / 256, a25, n1 + 1, c25, L ++ [y % 256]) ⟨by simp only; omega, by simp only; omega, by simp only; omega, by simp only; omega, by simp only; omega, by simp only; rw [List.length_append, hL]; rfl, lay_step hBL, ha25⟩ (by simp only; omega)) (.cons rfl (.cons rfl (.cons rfl (.cons rfl (.nil)))))
  intro hbr
  have hbr := of_decide_eq_false hbr
  refine g_exit rfl ?_
  obtain rfl : i = k := by omega
  rw [show (i - i).toNat = 0 by omega] at hBL
  simp only [lowB, List.append_nil] at hBL
  subst hBL
  rw [← hn1] at hm
  subst hm
  refine g_end Try.func76 rfl .nil ?_
  exact Gives.mki ⟨a1, c1, ha1, rfl⟩
end Go.Proofs.Ytnkmhhjldfapdaa.Fw
