import Derived.Test.YtlgcghhjgcdigaaDiff5
namespace Go.Proofs.Ytlgcghhjgcdigaa.Fw
open Go Go.Proofs
set_option linter.unusedVariables false
set_option linter.unusedSimpArgs false
set_option maxRecDepth 10000
theorem fa_74_1 (a : Addr) (w : World) : (Instr.fieldAt 74 (.pointer (some a)) 1).run Try.prog w = .ok (.pointer (some (a.add 1))) w := by
  simp [Instr.fieldAt, Try.runUnderlying74, Instr.sureAddr, fieldPlace, Try.sizeOf69, Sem.run_bind, Sem.run_pure]
theorem bd_102_0_1_2 (a0_0 : Fn) (s0_0 : Array Value) (f0_0 : Array Value) (a1_0 : Int) (a2_0 : Int) (w : World) : (Instr.build 102 #[(0, .func a0_0 s0_0 f0_0), (1, .int .i64 a1_0), (2, .int .i64 a2_0)]).run Try.prog w = .ok (.agg #[.func a0_0 s0_0 f0_0, .int .i64 a1_0, .int .i64 a2_0]) w := by kernel_rfl
theorem fa_102_1 (a : Addr) (w : World) : (Instr.fieldAt 102 (.pointer (some a)) 1).run Try.prog w = .ok (.pointer (some (a.add 1))) w := by
  simp [Instr.fieldAt, Try.runUnderlying102, Instr.sureAddr, fieldPlace, Try.sizeOf3, Sem.run_bind, Sem.run_pure]
theorem fa_102_2 (a : Addr) (w : World) : (Instr.fieldAt 102 (.pointer (some a)) 2).run Try.prog w = .ok (.pointer (some (a.add 2))) w := by
  simp [Instr.fieldAt, Try.runUnderlying102, Instr.sureAddr, fieldPlace, Try.sizeOf3, Sem.run_bind, Sem.run_pure]
theorem fa_102_0 (a : Addr) (w : World) : (Instr.fieldAt 102 (.pointer (some a)) 0).run Try.prog w = .ok (.pointer (some (a.add 0))) w := by
  simp [Instr.fieldAt, Try.runUnderlying102, Instr.sureAddr, fieldPlace, Try.sizeOf31, Sem.run_bind, Sem.run_pure]
set_option maxHeartbeats 8000000 in
theorem iters_keep (w0 : World) (F : List Atom) (wb : Nat) (S : WS) (hS : SOk S) (hN1 : 1 ≤ S.N) (hJ : S.J ≤ 1099511627776) (kd : Int) (kd0 : -9223372036854775808 ≤ kd) (kd1 : kd ≤ 9223372036854775807) (who : Int) (who0 : -9223372036854775808 ≤ who) (who1 : who ≤ 9223372036854775807) (oth : Int) (oth0 : -9223372036854775808 ≤ oth) (oth1 : oth ≤ 9223372036854775807) (oa : Int) (oa0 : -9223372036854775808 ≤ oa) (oa1 : oa ≤ 9223372036854775807) (ob : Int) (ob0 : -9223372036854775808 ≤ ob) (ob1 : ob ≤ 9223372036854775807) (oc : Int) (oc0 : -9223372036854775808 ≤ oc) (oc1 : oc ≤ 9223372036854775807) (ox : Int) (ox0 : 0 ≤ ox) (ox1 : ox ≤ 4294967295) (sa : Option Addr) (sn sc : Nat) (Y : List Int) (hY : Y.length = sn) (hsn : sn ≤ 2147483647) (hR : IR w0 F .u32 sa sn Y) (hYU : W32s Y) (hk : kd = 13) :
    CallK Try.prog 26 [.pointer (some ⟨wb, 0, none⟩), .agg [Value.int .i64 kd, .int .i64 who, .int .i64 oth, .int .i64 oa, .int .i64 ob, .int .i64 oc, .int .u32 ox, .slice sa sn sc].toArray] w0 (Blk wb (.cells [Value.slice S.la S.N S.lc, .slice S.ia S.J S.ic, .slice S.ka S.K S.kc].toArray 74 (0, 0)) :: Own 94 2 (.slice S.la S.N S.lc) S.N (rowsN S.N (fun j => mpR (S.M j))) :: BigF S.N (fun j => mpA (S.M j)) :: Own 102 3 (.slice S.ia S.J S.ic) S.J (rowsN S.J (fun j => kiR (S.T j))) :: BigF S.J (fun j => kiA (S.T j)) :: Own 107 4 (.slice S.ka S.K S.kc) S.K (rowsN S.K (fun j => bkR (S.B j))) :: BigF S.K (fun j => bkA (S.B j)) :: F) (Gives w0 fun v F2 => ∃ S' : WS, v = .bool true ∧ SOk S' ∧ S.N ≤ S'.N ∧ S'.J ≤ S.J + 1 ∧ S'.K ≤ S.K + 0 ∧ F2 = Blk wb (.cells [Value.slice S'.la S'.N S'.lc, .slice S'.ia S'.J S'.ic, .slice S'.ka S'.K S'.kc].toArray 74 (0, 0)) :: Own 94 2 (.slice S'.la S'.N S'.lc) S'.N (rowsN S'.N (fun j => mpR (S'.M j))) :: BigF S'.N (fun j => mpA (S'.M j)) :: Own 102 3 (.slice S'.ia S'.J S'.ic) S'.J (rowsN S'.J (fun j => kiR (S'.T j))) :: BigF S'.J (fun j => kiA (S'.T j)) :: Own 107 4 (.slice S'.ka S'.K S'.kc) S'.K (rowsN S'.K (fun j => bkR (S'.B j))) :: BigF S'.K (fun j => bkA (S'.B j)) :: F) := by
  have hN := hS.hN
  obtain ⟨i, hi⟩ : ∃ q : Nat, pk who (S.N : Int) = (q : Int) := ⟨(pk who (S.N : Int)).toNat, by have := pk_lt who (n := (S.N : Int)) (by omega); omega⟩
  have hiN : i < S.N := by have := pk_lt who (n := (S.N : Int)) (by omega); omega
  obtain ⟨jj, hjj⟩ : ∃ q : Nat, pk oth (S.N : Int) = (q : Int) := ⟨(pk oth (S.N : Int)).toNat, by have := pk_lt oth (n := (S.N : Int)) (by omega); omega⟩
  have hjjN : jj < S.N := by have := pk_lt oth (n := (S.N : Int)) (by omega); omega
  obtain ⟨gl, hgl⟩ := hS.hla.resolve_left (by omega)
  refine c_enter Try.func26 rfl rfl rfl ?_
  refine g_seq ?_
  refine g_region ?_
  refine l_boxs rfl rfl ?_; intro b3
  refine l_assign rfl rfl ?_
  refine l_nil ?_
  refine g_seq ?_
  refine g_seq ?_
  refine g_region ?_
  refine l_fieldAddr rfl fa_65_0 rfl ?_
  first | refine l_ld rfl Try.isAgg3 rfl rfl ?_ | refine l_ldw rfl Try.isAgg3 rfl (by omega) ?_
  refine l_eql rfl rfl rfl ?_
  refine l_nil ?_
  refine g_cond rfl ?_ ?_
  · intro hbr
    have hbr := of_decide_eq_true hbr
    refine g_seq ?_
    refine gp_start mo (by kernel_rfl) (by kernel_rfl) ?_
    refine gp_quiet 0 rfl rfl rfl rfl rfl rfl (q_fieldAddr fa_65_1 rfl) ?_
    first | refine gp_quiet 1 rfl rfl rfl rfl rfl rfl (q_ld Try.isAgg3 rfl rfl) ?_ | refine gp_quiet 1 rfl rfl rfl rfl rfl rfl (q_ldw Try.isAgg3 rfl (by omega)) ?_
    refine gp_quiet 2 rfl rfl rfl rfl rfl rfl (q_move rfl) ?_
    refine gp_quiet 3 rfl rfl rfl rfl rfl rfl (q_nilCheck rfl) ?_
    refine gp_quiet 4 rfl rfl rfl rfl rfl rfl (q_fieldAddr fa_74_0 rfl) ?_
    refine gp_quiet 5 rfl rfl rfl rfl rfl rfl (q_ld Try.isAgg68 rfl rfl) ?_
    refine gp_quiet 6 rfl rfl rfl rfl rfl rfl (q_len Try.underlying68 rfl) ?_
    refine gp_effa 7 [1, 6] [5, 4, 3, 2, 0] rfl rfl rfl rfl rfl rfl rfl (does_call Try.call8 rfl (pick_ok _ _ who (S.N : Int) (by omega) (by omega) (by omega) (by omega))) ?_
    rintro _ _ ⟨rfl, rfl⟩
    rw [hi]
    refine ⟨?_, ?_⟩
    · refine .cons rfl rfl rfl rfl rfl (q_ld Try.isAgg68 rfl rfl) ?_
      refine .cons rfl rfl rfl rfl rfl (q_fieldAddr fa_74_0 rfl) ?_
      refine .cons rfl rfl rfl rfl rfl (q_nilCheck rfl) ?_
      refine .cons rfl rfl rfl rfl rfl (q_move rfl) ?_
      refine .cons rfl rfl rfl rfl rfl (q_fieldAddr fa_65_1 rfl) ?_
      exact .nil
    refine gp_quiet 8 rfl rfl rfl rfl rfl rfl (q_assign rfl) ?_
    refine gp_end rfl rfl ?_
    refine g_seq ?_
    refine gp_start mo (by kernel_rfl) (by kernel_rfl) ?_
    refine gp_quiet 0 rfl rfl rfl rfl rfl rfl (q_fieldAddr fa_65_2 rfl) ?_
    first | refine gp_quiet 1 rfl rfl rfl rfl rfl rfl (q_ld Try.isAgg3 rfl rfl) ?_ | refine gp_quiet 1 rfl rfl rfl rfl rfl rfl (q_ldw Try.isAgg3 rfl (by omega)) ?_
    refine gp_quiet 2 rfl rfl rfl rfl rfl rfl (q_move rfl) ?_
    refine gp_quiet 3 rfl rfl rfl rfl rfl rfl (q_nilCheck rfl) ?_
    refine gp_quiet 4 rfl rfl rfl rfl rfl rfl (q_fieldAddr fa_74_0 rfl) ?_
    refine gp_quiet 5 rfl rfl rfl rfl rfl rfl (q_ld Try.isAgg68 rfl rfl) ?_
    refine gp_quiet 6 rfl rfl rfl rfl rfl rfl (q_len Try.underlying68 rfl) ?_
    refine gp_effa 7 [1, 6] [5, 4, 3, 2, 0] rfl rfl rfl rfl rfl rfl rfl (does_call Try.call8 rfl (pick_ok _ _ oth (S.N : Int) (by omega) (by omega) (by omega) (by omega))) ?_
    rintro _ _ ⟨rfl, rfl⟩
    rw [hjj]
    refine ⟨?_, ?_⟩
    · refine .cons rfl rfl rfl rfl rfl (q_ld Try.isAgg68 rfl rfl) ?_
      refine .cons rfl rfl rfl rfl rfl (q_fieldAddr fa_74_0 rfl) ?_
      refine .cons rfl rfl rfl rfl rfl (q_nilCheck rfl) ?_
      refine .cons rfl rfl rfl rfl rfl (q_move rfl) ?_
      refine .cons rfl rfl rfl rfl rfl (q_fieldAddr fa_65_2 rfl) ?_
      exact .nil
    refine gp_quiet 8 rfl rfl rfl rfl rfl rfl (q_assign rfl) ?_
    refine gp_end rfl rfl ?_
    refine g_seq ?_
    refine gp_start mo (by kernel_rfl) (by kernel_rfl) ?_
    rw [hgl]
    refine gp_quiet 0 rfl rfl rfl rfl rfl rfl (q_move rfl) ?_
    refine gp_quiet 1 rfl rfl rfl rfl rfl rfl (q_move rfl) ?_
    refine gp_quiet 2 rfl rfl rfl rfl rfl rfl (q_nilCheck rfl) ?_
    refine gp_quiet 3 rfl rfl rfl rfl rfl rfl (q_fieldAddr fa_74_1 rfl) ?_
    refine gp_quiet 4 rfl rfl rfl rfl rfl rfl (q_ld Try.isAgg69 rfl rfl) ?_
    refine gp_quiet 5 rfl rfl rfl rfl rfl rfl (q_move rfl) ?_
    refine gp_quiet 6 rfl rfl rfl rfl rfl rfl (q_nilCheck rfl) ?_
    refine gp_quiet 7 rfl rfl rfl rfl rfl rfl (q_fieldAddr fa_74_0 rfl) ?_
    refine gp_quiet 8 rfl rfl rfl rfl rfl rfl (q_ld Try.isAgg68 rfl rfl) ?_
    refine gp_quiet 9 rfl rfl rfl rfl rfl rfl (q_move rfl) ?_
    refine gp_quiet 10 rfl rfl rfl rfl rfl rfl (q_ixs Try.underlying68 Try.sizeOf94 rfl rfl (by omega) (by omega)) ?_
    refine gp_quiet 11 rfl rfl rfl rfl rfl rfl (q_fieldAddr fa_94_0 rfl) ?_
    refine gp_quiet 12 rfl rfl rfl rfl rfl rfl (q_loadc (v := .pointer (some ⟨(S.M i).x, 0, none⟩)) Try.isAgg25 rfl (rn_cell (f := fun j => mpR (S.M j)) (k := i) (j := 0) (by first | exact mem_getO 0 rfl | exact mem_getO 1 rfl | exact mem_getO 2 rfl | exact mem_getO 3 rfl | exact mem_getO 4 rfl | exact mem_getO 5 rfl | exact mem_getO 6 rfl | exact mem_getO 7 rfl | exact mem_getO 8 rfl | exact mem_getO 9 rfl | exact mem_getO 10 rfl | exact mem_getO 11 rfl) (mpR_len S.M S.N) (by omega) (by decide) rfl)) ?_
    refine gp_quiet 13 rfl rfl rfl rfl rfl rfl (q_move rfl) ?_
    refine gp_quiet 14 rfl rfl rfl rfl rfl rfl (q_nilCheck rfl) ?_
    refine gp_quiet 15 rfl rfl rfl rfl rfl rfl (q_fieldAddr fa_74_0 rfl) ?_
    refine gp_quiet 16 rfl rfl rfl rfl rfl rfl (q_ld Try.isAgg68 rfl rfl) ?_
    refine gp_quiet 17 rfl rfl rfl rfl rfl rfl (q_move rfl) ?_
    refine gp_quiet 18 rfl rfl rfl rfl rfl rfl (q_ixs Try.underlying68 Try.sizeOf94 rfl rfl (by omega) (by omega)) ?_
    refine gp_quiet 19 rfl rfl rfl rfl rfl rfl (q_fieldAddr fa_94_0 rfl) ?_
    refine gp_quiet 20 rfl rfl rfl rfl rfl rfl (q_loadc (v := .pointer (some ⟨(S.M jj).x, 0, none⟩)) Try.isAgg25 rfl (rn_cell (f := fun j => mpR (S.M j)) (k := jj) (j := 0) (by first | exact mem_getO 0 rfl | exact mem_getO 1 rfl | exact mem_getO 2 rfl | exact mem_getO 3 rfl | exact mem_getO 4 rfl | exact mem_getO 5 rfl | exact mem_getO 6 rfl | exact mem_getO 7 rfl | exact mem_getO 8 rfl | exact mem_getO 9 rfl | exact mem_getO 10 rfl | exact mem_getO 11 rfl) (mpR_len S.M S.N) (by omega) (by decide) rfl)) ?_
    refine gp_quiet 22 rfl rfl rfl rfl rfl rfl (q_move rfl) ?_
    refine gp_quiet 23 rfl rfl rfl rfl rfl rfl (q_move rfl) ?_
    refine gp_effa 21 [12, 20] [23, 22, 19, 18, 17, 16, 15, 14, 13, 11, 10, 9, 8, 7, 6, 5, 4, 3, 2, 1, 0] rfl rfl rfl rfl rfl rfl rfl (does_call Try.call11 rfl (differ_c _ _ (some ⟨(S.M i).x, 0, none⟩) (some ⟨(S.M jj).x, 0, none⟩))) ?_
    rintro _ _ ⟨bm, bo, rfl, rfl⟩
    refine ⟨?_, ?_⟩
    · refine .cons rfl rfl rfl rfl rfl (q_move rfl) ?_
      refine .cons rfl rfl rfl rfl rfl (q_move rfl) ?_
      refine .cons rfl rfl rfl rfl rfl (q_fieldAddr fa_94_0 rfl) ?_
      refine .cons rfl rfl rfl rfl rfl (q_ixs Try.underlying68 Try.sizeOf94 rfl rfl (by omega) (by omega)) ?_
      refine .cons rfl rfl rfl rfl rfl (q_move rfl) ?_
      refine .cons rfl rfl rfl rfl rfl (q_ld Try.isAgg68 rfl rfl) ?_
      refine .cons rfl rfl rfl rfl rfl (q_fieldAddr fa_74_0 rfl) ?_
      refine .cons rfl rfl rfl rfl rfl (q_nilCheck rfl) ?_
      refine .cons rfl rfl rfl rfl rfl (q_move rfl) ?_
      refine .cons rfl rfl rfl rfl rfl (q_fieldAddr fa_94_0 rfl) ?_
      refine .cons rfl rfl rfl rfl rfl (q_ixs Try.underlying68 Try.sizeOf94 rfl rfl (by omega) (by omega)) ?_
      refine .cons rfl rfl rfl rfl rfl (q_move rfl) ?_
      refine .cons rfl rfl rfl rfl rfl (q_ld Try.isAgg68 rfl rfl) ?_
      refine .cons rfl rfl rfl rfl rfl (q_fieldAddr fa_74_0 rfl) ?_
      refine .cons rfl rfl rfl rfl rfl (q_nilCheck rfl) ?_
      refine .cons rfl rfl rfl rfl rfl (q_move rfl) ?_
      refine .cons rfl rfl rfl rfl rfl (q_ld Try.isAgg69 rfl rfl) ?_
      refine .cons rfl rfl rfl rfl rfl (q_fieldAddr fa_74_1 rfl) ?_
      refine .cons rfl rfl rfl rfl rfl (q_nilCheck rfl) ?_
      refine .cons rfl rfl rfl rfl rfl (q_move rfl) ?_
      refine .cons rfl rfl rfl rfl rfl (q_move rfl) ?_
      exact .nil
    refine gp_quiet 24 rfl rfl rfl rfl rfl rfl (q_build rfl (fun w => bd_102_0_1_2 _ _ _ _ _ w)) ?_
    refine gp_effa 25 [24] [23, 22, 19, 18, 17, 16, 15, 14, 13, 11, 10, 9, 8, 7, 6, 5, 4, 3, 2, 1, 0] rfl rfl rfl rfl rfl rfl rfl (does_buildSlice Try.underlying69 Try.sizeOf102 Try.zeroValue102 rfl rfl rfl rfl rfl rfl) ?_
    rintro _ _ ⟨b54, rfl, rfl⟩
    refine ⟨?_, ?_⟩
    · refine .cons rfl rfl rfl rfl rfl (q_move rfl) ?_
      refine .cons rfl rfl rfl rfl rfl (q_move rfl) ?_
      refine .cons rfl rfl rfl rfl rfl (q_fieldAddr fa_94_0 rfl) ?_
      refine .cons rfl rfl rfl rfl rfl (q_ixs Try.underlying68 Try.sizeOf94 rfl rfl (by omega) (by omega)) ?_
      refine .cons rfl rfl rfl rfl rfl (q_move rfl) ?_
      refine .cons rfl rfl rfl rfl rfl (q_ld Try.isAgg68 rfl rfl) ?_
      refine .cons rfl rfl rfl rfl rfl (q_fieldAddr fa_74_0 rfl) ?_
      refine .cons rfl rfl rfl rfl rfl (q_nilCheck rfl) ?_
      refine .cons rfl rfl rfl rfl rfl (q_move rfl) ?_
      refine .cons rfl rfl rfl rfl rfl (q_fieldAddr fa_94_0 rfl) ?_
      refine .cons rfl rfl rfl rfl rfl (q_ixs Try.underlying68 Try.sizeOf94 rfl rfl (by omega) (by omega)) ?_
      refine .cons rfl rfl rfl rfl rfl (q_move rfl) ?_
      refine .cons rfl rfl rfl rfl rfl (q_ld Try.isAgg68 rfl rfl) ?_
      refine .cons rfl rfl rfl rfl rfl (q_fieldAddr fa_74_0 rfl) ?_
      refine .cons rfl rfl rfl rfl rfl (q_nilCheck rfl) ?_
      refine .cons rfl rfl rfl rfl rfl (q_move rfl) ?_
      refine .cons rfl rfl rfl rfl rfl (q_ld Try.isAgg69 rfl rfl) ?_
      refine .cons rfl rfl rfl rfl rfl (q_fieldAddr fa_74_1 rfl) ?_
      refine .cons rfl rfl rfl rfl rfl (q_nilCheck rfl) ?_
      refine .cons rfl rfl rfl rfl rfl (q_move rfl) ?_
      refine .cons rfl rfl rfl rfl rfl (q_move rfl) ?_
      exact .nil
    refine gp_fronto b54 ?_
    refine gp_take (Own 102 3 (.slice S.ia S.J S.ic) S.J (rowsN S.J (fun j => kiR (S.T j)))) ?_
    refine gp_effa 26 [4] [23, 22, 19, 18, 17, 16, 15, 14, 13, 11, 10, 9, 8, 7, 6, 5, 3, 2, 1, 0] rfl rfl rfl rfl rfl rfl rfl (does_appendS 0 (sz := 3) (by_ := 24) (m2 := 1) (m3 := S.J + 1) (news := kiR ⟨bm, bo, i, jj, (S.M i).x, (S.M jj).x⟩) (X3 := rowsN (S.J + 1) (fun j => kiR (upF S.T S.J ⟨bm, bo, i, jj, (S.M i).x, (S.M jj).x⟩ j))) Try.underlying69 Try.type102 rfl rfl rfl rfl rfl rfl rfl rfl ⟨rfl, .inl ⟨_, _, _, rfl, .own (mem_getO 1 rfl)⟩⟩ rfl (by omega) (by simp only [maxLen]; omega) rfl (rowsN_push (r := kiR) (K := S.J) (B := S.T) (x := ⟨bm, bo, i, jj, (S.M i).x, (S.M jj).x⟩)) (fun _ _ => rfl)) ?_
    rintro _ _ ⟨a55, c55, ha55, rfl, rfl⟩
    refine ⟨?_, ?_⟩
    · refine .cons rfl rfl rfl rfl rfl (q_move rfl) ?_
      refine .cons rfl rfl rfl rfl rfl (q_move rfl) ?_
      refine .cons rfl rfl rfl rfl rfl (q_fieldAddr fa_94_0 rfl) ?_
      refine .cons rfl rfl rfl rfl rfl (q_ixs Try.underlying68 Try.sizeOf94 rfl rfl (by omega) (by omega)) ?_
      refine .cons rfl rfl rfl rfl rfl (q_move rfl) ?_
      refine .cons rfl rfl rfl rfl rfl (q_ld Try.isAgg68 rfl rfl) ?_
      refine .cons rfl rfl rfl rfl rfl (q_fieldAddr fa_74_0 rfl) ?_
      refine .cons rfl rfl rfl rfl rfl (q_nilCheck rfl) ?_
      refine .cons rfl rfl rfl rfl rfl (q_move rfl) ?_
      refine .cons rfl rfl rfl rfl rfl (q_fieldAddr fa_94_0 rfl) ?_
      refine .cons rfl rfl rfl rfl rfl (q_ixs Try.underlying68 Try.sizeOf94 rfl rfl (by omega) (by omega)) ?_
      refine .cons rfl rfl rfl rfl rfl (q_move rfl) ?_
      refine .cons rfl rfl rfl rfl rfl (q_ld Try.isAgg68 rfl rfl) ?_
      refine .cons rfl rfl rfl rfl rfl (q_fieldAddr fa_74_0 rfl) ?_
      refine .cons rfl rfl rfl rfl rfl (q_nilCheck rfl) ?_
      refine .cons rfl rfl rfl rfl rfl (q_move rfl) ?_
      refine .cons rfl rfl rfl rfl rfl (q_fieldAddr fa_74_1 rfl) ?_
      refine .cons rfl rfl rfl rfl rfl (q_nilCheck rfl) ?_
      refine .cons rfl rfl rfl rfl rfl (q_move rfl) ?_
      refine .cons rfl rfl rfl rfl rfl (q_move rfl) ?_
      exact .nil
    refine gp_quiet 27 rfl rfl rfl rfl rfl rfl (q_nilCheck rfl) ?_
    refine gp_quiet 28 rfl rfl rfl rfl rfl rfl (q_fieldAddr fa_74_1 rfl) ?_
    refine gp_effa 29 [0, 1, 2, 3, 5, 6, 7, 8, 9, 10, 11, 13, 14, 15, 16, 17, 18, 19, 22, 23, 28] [27] rfl rfl rfl rfl rfl rfl rfl (does_st Try.sizeOf69 rfl rfl rfl rfl) ?_
    rintro _ _ ⟨rfl, rfl⟩
    refine ⟨?_, ?_⟩
    · refine .cons rfl rfl rfl rfl rfl (q_nilCheck rfl) ?_
      exact .nil
    refine gp_end rfl rfl ?_
    refine g_seq ?_
    refine g_region ?_
    rw [← hgl]
    refine l_assign rfl rfl ?_
    refine l_nil ?_
    refine g_take (BigF S.J (fun j => kiA (S.T j))) ?_
    refine g_take (Blk bo (.cells [Value.pointer (some ⟨(S.M jj).x, 0, none⟩)].toArray 25 (0, 0))) ?_
    refine g_take (Blk bm (.cells [Value.pointer (some ⟨(S.M i).x, 0, none⟩)].toArray 25 (0, 0))) ?_
    refine g_unstar ?_
    refine g_snocb (fun j => kiA (upF S.T S.J ⟨bm, bo, i, jj, (S.M i).x, (S.M jj).x⟩ j)) (by simp only [upF_at]; rfl) (fun k hk => by simp only [upF_ne (show k ≠ S.J by omega)]) ?_
    obtain ⟨g55, rfl⟩ := ha55.resolve_left (by omega)
    refine g_ret Try.func26 rfl (.tmp rfl .nil) ?_
    exact Gives.mki ⟨⟨S.N, S.M, S.la, S.lc, S.J + 1, upF S.T S.J ⟨bm, bo, i, jj, (S.M i).x, (S.M jj).x⟩, some ⟨g55, 0, none⟩, c55, S.K, S.B, S.ka, S.kc⟩, rfl, hS.it hiN hjjN rfl rfl g55 c55, Nat.le_refl _, Nat.le_refl _, by simp only; omega, rfl⟩
  · intro hbr
    have hbr := of_decide_eq_false hbr
    (exfalso; first | omega | (simp at hbr; done))
set_option maxHeartbeats 8000000 in
theorem iters_go (w0 : World) (F : List Atom) (wb : Nat) (S : WS) (hS : SOk S) (hN1 : 1 ≤ S.N) (hJ : S.J ≤ 1099511627776) (kd : Int) (kd0 : -9223372036854775808 ≤ kd) (kd1 : kd ≤ 9223372036854775807) (who : Int) (who0 : -9223372036854775808 ≤ who) (who1 : who ≤ 9223372036854775807) (oth : Int) (oth0 : -9223372036854775808 ≤ oth) (oth1 : oth ≤ 9223372036854775807) (oa : Int) (oa0 : -9223372036854775808 ≤ oa) (oa1 : oa ≤ 9223372036854775807) (ob : Int) (ob0 : -9223372036854775808 ≤ ob) (ob1 : ob ≤ 9223372036854775807) (oc : Int) (oc0 : -9223372036854775808 ≤ oc) (oc1 : oc ≤ 9223372036854775807) (ox : Int) (ox0 : 0 ≤ ox) (ox1 : ox ≤ 4294967295) (sa : Option Addr) (sn sc : Nat) (Y : List Int) (hY : Y.length = sn) (hsn : sn ≤ 2147483647) (hR : IR w0 F .u32 sa sn Y) (hYU : W32s Y) (hk : kd ≠ 13) (hJ1 : 1 ≤ S.J) :
    CallK Try.prog 26 [.pointer (some ⟨wb, 0, none⟩), .agg [Value.int .i64 kd, .int .i64 who, .int .i64 oth, .int .i64 oa, .int .i64 ob, .int .i64 oc, .int .u32 ox, .slice sa sn sc].toArray] w0 (Blk wb (.cells [Value.slice S.la S.N S.lc, .slice S.ia S.J S.ic, .slice S.ka S.K S.kc].toArray 74 (0, 0)) :: Own 94 2 (.slice S.la S.N S.lc) S.N (rowsN S.N (fun j => mpR (S.M j))) :: BigF S.N (fun j => mpA (S.M j)) :: Own 102 3 (.slice S.ia S.J S.ic) S.J (rowsN S.J (fun j => kiR (S.T j))) :: BigF S.J (fun j => kiA (S.T j)) :: Own 107 4 (.slice S.ka S.K S.kc) S.K (rowsN S.K (fun j => bkR (S.B j))) :: BigF S.K (fun j => bkA (S.B j)) :: F) (Gives w0 fun v F2 => v = .bool true ∧ F2 = Blk wb (.cells [Value.slice S.la S.N S.lc, .slice S.ia S.J S.ic, .slice S.ka S.K S.kc].toArray 74 (0, 0)) :: Own 94 2 (.slice S.la S.N S.lc) S.N (rowsN S.N (fun j => mpR (S.M j))) :: BigF S.N (fun j => mpA (S.M j)) :: Own 102 3 (.slice S.ia S.J S.ic) S.J (rowsN S.J (fun j => kiR (S.T j))) :: BigF S.J (fun j => kiA (S.T j)) :: Own 107 4 (.slice S.ka S.K S.kc) S.K (rowsN S.K (fun j => bkR (S.B j))) :: BigF S.K (fun j => bkA (S.B j)) :: F) := by
  have hN := hS.hN
  obtain ⟨gl, hgl⟩ := hS.hla.resolve_left (by omega)
  obtain ⟨gi, hgi⟩ := hS.hia.resolve_left (by omega)
  obtain ⟨q, hq⟩ : ∃ q : Nat, pk oc (S.J : Int) = (q : Int) := ⟨(pk oc (S.J : Int)).toNat, by have := pk_lt oc (n := (S.J : Int)) (by omega); omega⟩
  have hqJ : q < S.J := by have := pk_lt oc (n := (S.J : Int)) (by omega); omega
  obtain ⟨hT1, hT2, hT3, hT4⟩ := hS.hT q hqJ
  obtain ⟨p1, p2, p3, p4, p5, p6⟩ := hS.hM _ hT1
  obtain ⟨q1, q2, q3, q4, q5, q6⟩ := hS.hM _ hT2
  obtain ⟨n, hn1, hn2, hnn⟩ : ∃ n, (S.M (S.T q).a).n ≤ n ∧ (S.M (S.T q).b).n ≤ n ∧ (n = (S.M (S.T q).a).n ∨ n = (S.M (S.T q).b).n) := ⟨max (S.M (S.T q).a).n (S.M (S.T q).b).n, by omega, by omega, by omega⟩
  have hn : n ≤ 1073741824 := by omega
  have hx : Hid ((S.M (S.T q).a).n ≤ n ∧ (S.M (S.T q).b).n ≤ n ∧ (n = (S.M (S.T q).a).n ∨ n = (S.M (S.T q).b).n)) := ⟨⟨hn1, hn2, hnn⟩⟩
  clear hnn
  refine c_enter Try.func26 rfl rfl rfl ?_
  refine g_seq ?_
  refine g_region ?_
  refine l_boxs rfl rfl ?_; intro b3
  refine l_assign rfl rfl ?_
  refine l_nil ?_
  refine g_seq ?_
  refine g_seq ?_
  refine g_region ?_
  refine l_fieldAddr rfl fa_65_0 rfl ?_
  first | refine l_ld rfl Try.isAgg3 rfl rfl ?_ | refine l_ldw rfl Try.isAgg3 rfl (by omega) ?_
  refine l_eql rfl rfl rfl ?_
  refine l_nil ?_
  refine g_cond rfl ?_ ?_
  · intro hbr
    have hbr := of_decide_eq_true hbr
    (exfalso; first | omega | (simp at hbr; done))
  intro hbr
  have hbr := of_decide_eq_false hbr
  refine g_skip ?_
  refine g_seq ?_
  refine g_seq ?_
  refine g_region ?_
  refine l_move rfl rfl ?_
  refine l_nilCheck rfl rfl ?_
  refine l_fieldAddr rfl fa_74_1 rfl ?_
  refine l_ld rfl Try.isAgg69 rfl rfl ?_
  refine l_len rfl Try.underlying69 rfl ?_
  refine l_eql rfl rfl rfl ?_
  refine l_nil ?_
  refine g_cond rfl ?_ ?_
  · intro hbr
    have hbr := of_decide_eq_true hbr
    (exfalso; first | omega | (simp at hbr; done))
  intro hbr
  have hbr := of_decide_eq_false hbr
  refine g_skip ?_
  refine g_seq ?_
  refine gp_start mo (by kernel_rfl) (by kernel_rfl) ?_
  rw [hgi]
  refine gp_quiet 0 rfl rfl rfl rfl rfl rfl (q_move rfl) ?_
  refine gp_quiet 1 rfl rfl rfl rfl rfl rfl (q_nilCheck rfl) ?_
  refine gp_quiet 2 rfl rfl rfl rfl rfl rfl (q_fieldAddr fa_74_1 rfl) ?_
  refine gp_quiet 3 rfl rfl rfl rfl rfl rfl (q_ld Try.isAgg69 rfl rfl) ?_
  refine gp_quiet 4 rfl rfl rfl rfl rfl rfl (q_fieldAddr fa_65_5 rfl) ?_
  first | refine gp_quiet 5 rfl rfl rfl rfl rfl rfl (q_ld Try.isAgg3 rfl rfl) ?_ | refine gp_quiet 5 rfl rfl rfl rfl rfl rfl (q_ldw Try.isAgg3 rfl (by omega)) ?_
  refine gp_quiet 6 rfl rfl rfl rfl rfl rfl (q_move rfl) ?_
  refine gp_quiet 7 rfl rfl rfl rfl rfl rfl (q_nilCheck rfl) ?_
  refine gp_quiet 8 rfl rfl rfl rfl rfl rfl (q_fieldAddr fa_74_1 rfl) ?_
  refine gp_quiet 9 rfl rfl rfl rfl rfl rfl (q_ld Try.isAgg69 rfl rfl) ?_
  refine gp_quiet 10 rfl rfl rfl rfl rfl rfl (q_len Try.underlying69 rfl) ?_
  refine gp_two 11 [5, 10] [9, 8, 7, 6, 4, 3, 2, 1, 0] 14 [] [10, 9, 8, 7, 6, 5, 4, 3, 2, 1, 0] rfl rfl rfl rfl rfl rfl (does_call Try.call8 rfl (pick_ok _ _ oc (S.J : Int) (by omega) (by omega) (by omega) (by omega))) (does_allocs Try.zeroValue102) ?_ ?_
  · rintro _ _ ⟨rfl, rfl⟩
    rw [hq]
    refine ⟨?_, ?_⟩
    · refine .cons rfl rfl rfl rfl rfl (q_ld Try.isAgg69 rfl rfl) ?_
      refine .cons rfl rfl rfl rfl rfl (q_fieldAddr fa_74_1 rfl) ?_
      refine .cons rfl rfl rfl rfl rfl (q_nilCheck rfl) ?_
      refine .cons rfl rfl rfl rfl rfl (q_move rfl) ?_
      refine .cons rfl rfl rfl rfl rfl (q_fieldAddr fa_65_5 rfl) ?_
      refine .cons rfl rfl rfl rfl rfl (q_ld Try.isAgg69 rfl rfl) ?_
      refine .cons rfl rfl rfl rfl rfl (q_fieldAddr fa_74_1 rfl) ?_
      refine .cons rfl rfl rfl rfl rfl (q_nilCheck rfl) ?_
      refine .cons rfl rfl rfl rfl rfl (q_move rfl) ?_
      exact .nil
    refine gp_quiet 12 rfl rfl rfl rfl rfl rfl (q_ixs Try.underlying69 Try.sizeOf102 rfl rfl (by omega) (by omega)) ?_
    refine gp_quiet 13 rfl rfl rfl rfl rfl rfl (q_loadr (l := kiR (S.T q)) Try.isAgg102 Try.sizeOf102 rfl rfl (rn_row (f := fun j => kiR (S.T j)) (k := q) (by first | exact mem_getO 0 rfl | exact mem_getO 1 rfl | exact mem_getO 2 rfl | exact mem_getO 3 rfl | exact mem_getO 4 rfl | exact mem_getO 5 rfl | exact mem_getO 6 rfl | exact mem_getO 7 rfl | exact mem_getO 8 rfl | exact mem_getO 9 rfl | exact mem_getO 10 rfl | exact mem_getO 11 rfl) (kiR_len S.T S.J) hqJ)) ?_
    refine gp_eff 14 rfl rfl rfl rfl rfl rfl (does_allocs Try.zeroValue102) ?_
    rintro _ _ ⟨b7, rfl, rfl⟩
    refine ⟨?_, ?_⟩
    · refine .cons rfl rfl rfl rfl rfl (q_loadr (l := kiR (S.T q)) Try.isAgg102 Try.sizeOf102 rfl rfl (rn_row (f := fun j => kiR (S.T j)) (k := q) (by first | exact mem_getO 0 rfl | exact mem_getO 1 rfl | exact mem_getO 2 rfl | exact mem_getO 3 rfl | exact mem_getO 4 rfl | exact mem_getO 5 rfl | exact mem_getO 6 rfl | exact mem_getO 7 rfl | exact mem_getO 8 rfl | exact mem_getO 9 rfl | exact mem_getO 10 rfl | exact mem_getO 11 rfl) (kiR_len S.T S.J) hqJ)) ?_
      refine .cons rfl rfl rfl rfl rfl (q_ixs Try.underlying69 Try.sizeOf102 rfl rfl (by omega) (by omega)) ?_
      refine .cons rfl rfl rfl rfl rfl (q_ld Try.isAgg69 rfl rfl) ?_
      refine .cons rfl rfl rfl rfl rfl (q_fieldAddr fa_74_1 rfl) ?_
      refine .cons rfl rfl rfl rfl rfl (q_nilCheck rfl) ?_
      refine .cons rfl rfl rfl rfl rfl (q_move rfl) ?_
      refine .cons rfl rfl rfl rfl rfl (q_fieldAddr fa_65_5 rfl) ?_
      refine .cons rfl rfl rfl rfl rfl (q_ld Try.isAgg69 rfl rfl) ?_
      refine .cons rfl rfl rfl rfl rfl (q_fieldAddr fa_74_1 rfl) ?_
      refine .cons rfl rfl rfl rfl rfl (q_nilCheck rfl) ?_
      refine .cons rfl rfl rfl rfl rfl (q_move rfl) ?_
      exact .nil
    refine gp_effa 15 [0, 1, 2, 3, 4, 6, 7, 8, 9, 12, 13] [] rfl rfl rfl rfl rfl rfl rfl (does_sts Try.sizeOf102 rfl rfl rfl rfl rfl) ?_
    rintro _ _ ⟨rfl, rfl⟩
    refine ⟨?_, ?_⟩
    · exact .nil
    refine gp_end rfl rfl ?_
    refine g_seq ?_
    refine gp_start mo (by kernel_rfl) (by kernel_rfl) ?_
    rw [← hgi, hgl]
    refine gp_quiet 0 rfl rfl rfl rfl rfl rfl (q_move rfl) ?_
    refine gp_quiet 1 rfl rfl rfl rfl rfl rfl (q_nilCheck rfl) ?_
    refine gp_quiet 2 rfl rfl rfl rfl rfl rfl (q_fieldAddr fa_74_0 rfl) ?_
    refine gp_quiet 3 rfl rfl rfl rfl rfl rfl (q_ld Try.isAgg68 rfl rfl) ?_
    refine gp_quiet 4 rfl rfl rfl rfl rfl rfl (q_fieldAddr fa_102_1 rfl) ?_
    first | refine gp_quiet 5 rfl rfl rfl rfl rfl rfl (q_ld Try.isAgg3 rfl rfl) ?_ | refine gp_quiet 5 rfl rfl rfl rfl rfl rfl (q_ldw Try.isAgg3 rfl (by omega)) ?_
    refine gp_quiet 6 rfl rfl rfl rfl rfl rfl (q_ixs Try.underlying68 Try.sizeOf94 rfl rfl (by omega) (by omega)) ?_
    refine gp_quiet 7 rfl rfl rfl rfl rfl rfl (q_fieldAddr fa_94_1 rfl) ?_
    refine gp_quiet 8 rfl rfl rfl rfl rfl rfl (q_loadc (v := .pointer (some ⟨(S.M (S.T q).a).y, 0, none⟩)) Try.isAgg87 rfl (rn_cell (f := fun j => mpR (S.M j)) (k := (S.T q).a) (j := 1) (by first | exact mem_getO 0 rfl | exact mem_getO 1 rfl | exact mem_getO 2 rfl | exact mem_getO 3 rfl | exact mem_getO 4 rfl | exact mem_getO 5 rfl | exact mem_getO 6 rfl | exact mem_getO 7 rfl | exact mem_getO 8 rfl | exact mem_getO 9 rfl | exact mem_getO 10 rfl | exact mem_getO 11 rfl) (mpR_len S.M S.N) (by omega) (by decide) rfl)) ?_
    refine gp_quiet 9 rfl rfl rfl rfl rfl rfl (q_move rfl) ?_
    refine gp_quiet 10 rfl rfl rfl rfl rfl rfl (q_nilCheck rfl) ?_
    refine gp_quiet 11 rfl rfl rfl rfl rfl rfl (q_fieldAddr fa_74_0 rfl) ?_
    refine gp_quiet 12 rfl rfl rfl rfl rfl rfl (q_ld Try.isAgg68 rfl rfl) ?_
    refine gp_quiet 13 rfl rfl rfl rfl rfl rfl (q_fieldAddr fa_102_2 rfl) ?_
    first | refine gp_quiet 14 rfl rfl rfl rfl rfl rfl (q_ld Try.isAgg3 rfl rfl) ?_ | refine gp_quiet 14 rfl rfl rfl rfl rfl rfl (q_ldw Try.isAgg3 rfl (by omega)) ?_
    refine gp_quiet 15 rfl rfl rfl rfl rfl rfl (q_ixs Try.underlying68 Try.sizeOf94 rfl rfl (by omega) (by omega)) ?_
    refine gp_quiet 16 rfl rfl rfl rfl rfl rfl (q_fieldAddr fa_94_1 rfl) ?_
    refine gp_quiet 17 rfl rfl rfl rfl rfl rfl (q_loadc (v := .pointer (some ⟨(S.M (S.T q).b).y, 0, none⟩)) Try.isAgg87 rfl (rn_cell (f := fun j => mpR (S.M j)) (k := (S.T q).b) (j := 1) (by first | exact mem_getO 0 rfl | exact mem_getO 1 rfl | exact mem_getO 2 rfl | exact mem_getO 3 rfl | exact mem_getO 4 rfl | exact mem_getO 5 rfl | exact mem_getO 6 rfl | exact mem_getO 7 rfl | exact mem_getO 8 rfl | exact mem_getO 9 rfl | exact mem_getO 10 rfl | exact mem_getO 11 rfl) (mpR_len S.M S.N) (by omega) (by decide) rfl)) ?_
    refine gp_effa 18 [8, 17] [16, 15, 14, 13, 12, 11, 10, 9, 7, 6, 5, 4, 3, 2, 1, 0] rfl rfl rfl rfl rfl rfl rfl (does_call Try.call45 rfl (rdiffer_x _ _ (S.M (S.T q).a).y (S.M (S.T q).a).h (S.M (S.T q).a).n (S.M (S.T q).a).d (S.M (S.T q).b).y (S.M (S.T q).b).h (S.M (S.T q).b).n (S.M (S.T q).b).d n hx.out.1 hx.out.2.1 hx.out.2.2 hn (S.M (S.T q).a).W (S.M (S.T q).b).W (mp_rd (j := (S.T q).a) (by first | exact mem_getO 0 rfl | exact mem_getO 1 rfl | exact mem_getO 2 rfl | exact mem_getO 3 rfl | exact mem_getO 4 rfl | exact mem_getO 5 rfl | exact mem_getO 6 rfl | exact mem_getO 7 rfl | exact mem_getO 8 rfl | exact mem_getO 9 rfl | exact mem_getO 10 rfl | exact mem_getO 11 rfl) hT1).2 p1 (mp_rd (j := (S.T q).b) (by first | exact mem_getO 0 rfl | exact mem_getO 1 rfl | exact mem_getO 2 rfl | exact mem_getO 3 rfl | exact mem_getO 4 rfl | exact mem_getO 5 rfl | exact mem_getO 6 rfl | exact mem_getO 7 rfl | exact mem_getO 8 rfl | exact mem_getO 9 rfl | exact mem_getO 10 rfl | exact mem_getO 11 rfl) hT2).2 q1)) ?_
    rintro _ _ ⟨a8, c8, T8, rfl, hT8, ha8, hc8, rfl⟩
    replace ha8 := Hid.mk ha8
    have hTn := difs_len (S.M (S.T q).a).W (S.M (S.T q).b).W n
    rw [← hT8] at hTn
    refine ⟨?_, ?_⟩
    · refine .cons rfl rfl rfl rfl rfl (q_fieldAddr fa_94_1 rfl) ?_
      refine .cons rfl rfl rfl rfl rfl (q_ixs Try.underlying68 Try.sizeOf94 rfl rfl (by omega) (by omega)) ?_
      first | refine .cons rfl rfl rfl rfl rfl (q_ld Try.isAgg3 rfl rfl) ?_ | refine .cons rfl rfl rfl rfl rfl (q_ldw Try.isAgg3 rfl (by omega)) ?_
      refine .cons rfl rfl rfl rfl rfl (q_fieldAddr fa_102_2 rfl) ?_
      refine .cons rfl rfl rfl rfl rfl (q_ld Try.isAgg68 rfl rfl) ?_
      refine .cons rfl rfl rfl rfl rfl (q_fieldAddr fa_74_0 rfl) ?_
      refine .cons rfl rfl rfl rfl rfl (q_nilCheck rfl) ?_
      refine .cons rfl rfl rfl rfl rfl (q_move rfl) ?_
      refine .cons rfl rfl rfl rfl rfl (q_fieldAddr fa_94_1 rfl) ?_
      refine .cons rfl rfl rfl rfl rfl (q_ixs Try.underlying68 Try.sizeOf94 rfl rfl (by omega) (by omega)) ?_
      first | refine .cons rfl rfl rfl rfl rfl (q_ld Try.isAgg3 rfl rfl) ?_ | refine .cons rfl rfl rfl rfl rfl (q_ldw Try.isAgg3 rfl (by omega)) ?_
      refine .cons rfl rfl rfl rfl rfl (q_fieldAddr fa_102_1 rfl) ?_
      refine .cons rfl rfl rfl rfl rfl (q_ld Try.isAgg68 rfl rfl) ?_
      refine .cons rfl rfl rfl rfl rfl (q_fieldAddr fa_74_0 rfl) ?_
      refine .cons rfl rfl rfl rfl rfl (q_nilCheck rfl) ?_
      refine .cons rfl rfl rfl rfl rfl (q_move rfl) ?_
      exact .nil
    refine gp_quiet 19 rfl rfl rfl rfl rfl rfl (q_assign rfl) ?_
    refine gp_end rfl rfl ?_
    refine g_seq ?_
    refine g_region ?_
    rw [← hgl]
    refine l_fieldAddr rfl fa_102_0 rfl ?_
    refine l_ld rfl Try.isAgg31 rfl rfl ?_
    refine l_move rfl rfl ?_
    refine l_len rfl Try.underlying36 rfl ?_
    first | refine l_add rfl rfl rfl (w_i64 (by omega) (by omega)) ?_ | refine l_addw rfl rfl rfl ?_
    refine l_call rfl Try.call13 rfl (along_any _ _ (S.M (S.T q).a).x (S.M (S.T q).a).g (S.M (S.T q).a).n (S.M (S.T q).a).c (S.M (S.T q).b).x (S.M (S.T q).b).g (S.M (S.T q).b).n (S.M (S.T q).b).c n hx.out.1 hx.out.2.1 hx.out.2.2 hn (S.M (S.T q).a).W (S.M (S.T q).b).W (mp_rd (j := (S.T q).a) (by first | exact mem_getO 0 rfl | exact mem_getO 1 rfl | exact mem_getO 2 rfl | exact mem_getO 3 rfl | exact mem_getO 4 rfl | exact mem_getO 5 rfl | exact mem_getO 6 rfl | exact mem_getO 7 rfl | exact mem_getO 8 rfl | exact mem_getO 9 rfl | exact mem_getO 10 rfl | exact mem_getO 11 rfl) hT1).1 p1 (mp_rd (j := (S.T q).b) (by first | exact mem_getO 0 rfl | exact mem_getO 1 rfl | exact mem_getO 2 rfl | exact mem_getO 3 rfl | exact mem_getO 4 rfl | exact mem_getO 5 rfl | exact mem_getO 6 rfl | exact mem_getO 7 rfl | exact mem_getO 8 rfl | exact mem_getO 9 rfl | exact mem_getO 10 rfl | exact mem_getO 11 rfl) hT2).1 q1 (S.T q).bm (S.T q).bo (by rw [← hT3]; exact (ki_rd (j := q) (by first | exact mem_getO 0 rfl | exact mem_getO 1 rfl | exact mem_getO 2 rfl | exact mem_getO 3 rfl | exact mem_getO 4 rfl | exact mem_getO 5 rfl | exact mem_getO 6 rfl | exact mem_getO 7 rfl | exact mem_getO 8 rfl | exact mem_getO 9 rfl | exact mem_getO 10 rfl | exact mem_getO 11 rfl) hqJ).1) (by rw [← hT4]; exact (ki_rd (j := q) (by first | exact mem_getO 0 rfl | exact mem_getO 1 rfl | exact mem_getO 2 rfl | exact mem_getO 3 rfl | exact mem_getO 4 rfl | exact mem_getO 5 rfl | exact mem_getO 6 rfl | exact mem_getO 7 rfl | exact mem_getO 8 rfl | exact mem_getO 9 rfl | exact mem_getO 10 rfl | exact mem_getO 11 rfl) hqJ).2) ((T8.length : Int) + 1) (by omega) (by omega)) ?_; rintro _ _ ⟨a9, c9, T9, rfl, hT9, ha9, rfl⟩
    replace ha9 := Hid.mk ha9
    refine l_assign rfl rfl ?_
    refine l_nil ?_
    refine g_seq ?_
    refine g_region ?_
    refine l_move rfl rfl ?_
    refine l_move rfl rfl ?_
    have hT9b : T9 = T8 := by rw [hT9, ← hT8, List.take_of_length_le (by omega)]
    rw [hT9b]
    refine l_call rfl Try.call47 rfl (samei_ok _ _ a9 a8 T8.length c9 c8 T8 (IR.own rfl (by first | exact mem_getO 0 rfl | exact mem_getO 1 rfl | exact mem_getO 2 rfl | exact mem_getO 3 rfl | exact mem_getO 4 rfl | exact mem_getO 5 rfl | exact mem_getO 6 rfl | exact mem_getO 7 rfl | exact mem_getO 8 rfl | exact mem_getO 9 rfl | exact mem_getO 10 rfl | exact mem_getO 11 rfl) (hT9b ▸ ha9.out)) (IR.own rfl (by first | exact mem_getO 0 rfl | exact mem_getO 1 rfl | exact mem_getO 2 rfl | exact mem_getO 3 rfl | exact mem_getO 4 rfl | exact mem_getO 5 rfl | exact mem_getO 6 rfl | exact mem_getO 7 rfl | exact mem_getO 8 rfl | exact mem_getO 9 rfl | exact mem_getO 10 rfl | exact mem_getO 11 rfl) ha8.out) (by omega)) ?_; rintro _ _ ⟨rfl, rfl⟩
    refine l_assign rfl rfl ?_
    refine l_nil ?_
    refine g_ret Try.func26 rfl (.tmp rfl .nil) ?_
    exact Gives.mki ⟨rfl, rfl⟩
  · rintro _ _ ⟨b7, rfl, rfl⟩
    refine ⟨?_, ?_⟩
    · refine .cons rfl rfl rfl rfl rfl (q_len Try.underlying69 rfl) ?_
      refine .cons rfl rfl rfl rfl rfl (q_ld Try.isAgg69 rfl rfl) ?_
      refine .cons rfl rfl rfl rfl rfl (q_fieldAddr fa_74_1 rfl) ?_
      refine .cons rfl rfl rfl rfl rfl (q_nilCheck rfl) ?_
      refine .cons rfl rfl rfl rfl rfl (q_move rfl) ?_
      first | refine .cons rfl rfl rfl rfl rfl (q_ld Try.isAgg3 rfl rfl) ?_ | refine .cons rfl rfl rfl rfl rfl (q_ldw Try.isAgg3 rfl (by omega)) ?_
      refine .cons rfl rfl rfl rfl rfl (q_fieldAddr fa_65_5 rfl) ?_
      refine .cons rfl rfl rfl rfl rfl (q_ld Try.isAgg69 rfl rfl) ?_
      refine .cons rfl rfl rfl rfl rfl (q_fieldAddr fa_74_1 rfl) ?_
      refine .cons rfl rfl rfl rfl rfl (q_nilCheck rfl) ?_
      refine .cons rfl rfl rfl rfl rfl (q_move rfl) ?_
      exact .nil
    refine gp_effa 11 [5, 10] [9, 8, 7, 6, 4, 3, 2, 1, 0] rfl rfl rfl rfl rfl rfl rfl (does_call Try.call8 rfl (pick_ok _ _ oc (S.J : Int) (by omega) (by omega) (by omega) (by omega))) ?_
    rintro _ _ ⟨rfl, rfl⟩
    rw [hq]
    refine ⟨?_, ?_⟩
    · refine .cons rfl rfl rfl rfl rfl (q_ld Try.isAgg69 rfl rfl) ?_
      refine .cons rfl rfl rfl rfl rfl (q_fieldAddr fa_74_1 rfl) ?_
      refine .cons rfl rfl rfl rfl rfl (q_nilCheck rfl) ?_
      refine .cons rfl rfl rfl rfl rfl (q_move rfl) ?_
      refine .cons rfl rfl rfl rfl rfl (q_fieldAddr fa_65_5 rfl) ?_
      refine .cons rfl rfl rfl rfl rfl (q_ld Try.isAgg69 rfl rfl) ?_
      refine .cons rfl rfl rfl rfl rfl (q_fieldAddr fa_74_1 rfl) ?_
      refine .cons rfl rfl rfl rfl rfl (q_nilCheck rfl) ?_
      refine .cons rfl rfl rfl rfl rfl (q_move rfl) ?_
      exact .nil
    refine gp_quiet 12 rfl rfl rfl rfl rfl rfl (q_ixs Try.underlying69 Try.sizeOf102 rfl rfl (by omega) (by omega)) ?_
    refine gp_quiet 13 rfl rfl rfl rfl rfl rfl (q_loadr (l := kiR (S.T q)) Try.isAgg102 Try.sizeOf102 rfl rfl (rn_row (f := fun j => kiR (S.T j)) (k := q) (by first | exact mem_getO 0 rfl | exact mem_getO 1 rfl | exact mem_getO 2 rfl | exact mem_getO 3 rfl | exact mem_getO 4 rfl | exact mem_getO 5 rfl | exact mem_getO 6 rfl | exact mem_getO 7 rfl | exact mem_getO 8 rfl | exact mem_getO 9 rfl | exact mem_getO 10 rfl | exact mem_getO 11 rfl) (kiR_len S.T S.J) hqJ)) ?_
    refine gp_effa 15 [0, 1, 2, 3, 4, 6, 7, 8, 9, 12, 13] [] rfl rfl rfl rfl rfl rfl rfl (does_sts Try.sizeOf102 rfl rfl rfl rfl rfl) ?_
    rintro _ _ ⟨rfl, rfl⟩
    refine ⟨?_, ?_⟩
    · exact .nil
    refine gp_end rfl rfl ?_
    refine g_seq ?_
    refine gp_start mo (by kernel_rfl) (by kernel_rfl) ?_
    rw [← hgi, hgl]
    refine gp_quiet 0 rfl rfl rfl rfl rfl rfl (q_move rfl) ?_
    refine gp_quiet 1 rfl rfl rfl rfl rfl rfl (q_nilCheck rfl) ?_
    refine gp_quiet 2 rfl rfl rfl rfl rfl rfl (q_fieldAddr fa_74_0 rfl) ?_
    refine gp_quiet 3 rfl rfl rfl rfl rfl rfl (q_ld Try.isAgg68 rfl rfl) ?_
    refine gp_quiet 4 rfl rfl rfl rfl rfl rfl (q_fieldAddr fa_102_1 rfl) ?_
    first | refine gp_quiet 5 rfl rfl rfl rfl rfl rfl (q_ld Try.isAgg3 rfl rfl) ?_ | refine gp_quiet 5 rfl rfl rfl rfl rfl rfl (q_ldw Try.isAgg3 rfl (by omega)) ?_
    refine gp_quiet 6 rfl rfl rfl rfl rfl rfl (q_ixs Try.underlying68 Try.sizeOf94 rfl rfl (by omega) (by omega)) ?_
    refine gp_quiet 7 rfl rfl rfl rfl rfl rfl (q_fieldAddr fa_94_1 rfl) ?_
    refine gp_quiet 8 rfl rfl rfl rfl rfl rfl (q_loadc (v := .pointer (some ⟨(S.M (S.T q).a).y, 0, none⟩)) Try.isAgg87 rfl (rn_cell (f := fun j => mpR (S.M j)) (k := (S.T q).a) (j := 1) (by first | exact mem_getO 0 rfl | exact mem_getO 1 rfl | exact mem_getO 2 rfl | exact mem_getO 3 rfl | exact mem_getO 4 rfl | exact mem_getO 5 rfl | exact mem_getO 6 rfl | exact mem_getO 7 rfl | exact mem_getO 8 rfl | exact mem_getO 9 rfl | exact mem_getO 10 rfl | exact mem_getO 11 rfl) (mpR_len S.M S.N) (by omega) (by decide) rfl)) ?_
    refine gp_quiet 9 rfl rfl rfl rfl rfl rfl (q_move rfl) ?_
    refine gp_quiet 10 rfl rfl rfl rfl rfl rfl (q_nilCheck rfl) ?_
    refine gp_quiet 11 rfl rfl rfl rfl rfl rfl (q_fieldAddr fa_74_0 rfl) ?_
    refine gp_quiet 12 rfl rfl rfl rfl rfl rfl (q_ld Try.isAgg68 rfl rfl) ?_
    refine gp_quiet 13 rfl rfl rfl rfl rfl rfl (q_fieldAddr fa_102_2 rfl) ?_
    first | refine gp_quiet 14 rfl rfl rfl rfl rfl rfl (q_ld Try.isAgg3 rfl rfl) ?_ | refine gp_quiet 14 rfl rfl rfl rfl rfl rfl (q_ldw Try.isAgg3 rfl (by omega)) ?_
    refine gp_quiet 15 rfl rfl rfl rfl rfl rfl (q_ixs Try.underlying68 Try.sizeOf94 rfl rfl (by omega) (by omega)) ?_
    refine gp_quiet 16 rfl rfl rfl rfl rfl rfl (q_fieldAddr fa_94_1 rfl) ?_
    refine gp_quiet 17 rfl rfl rfl rfl rfl rfl (q_loadc (v := .pointer (some ⟨(S.M (S.T q).b).y, 0, none⟩)) Try.isAgg87 rfl (rn_cell (f := fun j => mpR (S.M j)) (k := (S.T q).b) (j := 1) (by first | exact mem_getO 0 rfl | exact mem_getO 1 rfl | exact mem_getO 2 rfl | exact mem_getO 3 rfl | exact mem_getO 4 rfl | exact mem_getO 5 rfl | exact mem_getO 6 rfl | exact mem_getO 7 rfl | exact mem_getO 8 rfl | exact mem_getO 9 rfl | exact mem_getO 10 rfl | exact mem_getO 11 rfl) (mpR_len S.M S.N) (by omega) (by decide) rfl)) ?_
    refine gp_effa 18 [8, 17] [16, 15, 14, 13, 12, 11, 10, 9, 7, 6, 5, 4, 3, 2, 1, 0] rfl rfl rfl rfl rfl rfl rfl (does_call Try.call45 rfl (rdiffer_x _ _ (S.M (S.T q).a).y (S.M (S.T q).a).h (S.M (S.T q).a).n (S.M (S.T q).a).d (S.M (S.T q).b).y (S.M (S.T q).b).h (S.M (S.T q).b).n (S.M (S.T q).b).d n hx.out.1 hx.out.2.1 hx.out.2.2 hn (S.M (S.T q).a).W (S.M (S.T q).b).W (mp_rd (j := (S.T q).a) (by first | exact mem_getO 0 rfl | exact mem_getO 1 rfl | exact mem_getO 2 rfl | exact mem_getO 3 rfl | exact mem_getO 4 rfl | exact mem_getO 5 rfl | exact mem_getO 6 rfl | exact mem_getO 7 rfl | exact mem_getO 8 rfl | exact mem_getO 9 rfl | exact mem_getO 10 rfl | exact mem_getO 11 rfl) hT1).2 p1 (mp_rd (j := (S.T q).b) (by first | exact mem_getO 0 rfl | exact mem_getO 1 rfl | exact mem_getO 2 rfl | exact mem_getO 3 rfl | exact mem_getO 4 rfl | exact mem_getO 5 rfl | exact mem_getO 6 rfl | exact mem_getO 7 rfl | exact mem_getO 8 rfl | exact mem_getO 9 rfl | exact mem_getO 10 rfl | exact mem_getO 11 rfl) hT2).2 q1)) ?_
    rintro _ _ ⟨a8, c8, T8, rfl, hT8, ha8, hc8, rfl⟩
    replace ha8 := Hid.mk ha8
    have hTn := difs_len (S.M (S.T q).a).W (S.M (S.T q).b).W n
    rw [← hT8] at hTn
    refine ⟨?_, ?_⟩
    · refine .cons rfl rfl rfl rfl rfl (q_fieldAddr fa_94_1 rfl) ?_
      refine .cons rfl rfl rfl rfl rfl (q_ixs Try.underlying68 Try.sizeOf94 rfl rfl (by omega) (by omega)) ?_
      first | refine .cons rfl rfl rfl rfl rfl (q_ld Try.isAgg3 rfl rfl) ?_ | refine .cons rfl rfl rfl rfl rfl (q_ldw Try.isAgg3 rfl (by omega)) ?_
      refine .cons rfl rfl rfl rfl rfl (q_fieldAddr fa_102_2 rfl) ?_
      refine .cons rfl rfl rfl rfl rfl (q_ld Try.isAgg68 rfl rfl) ?_
      refine .cons rfl rfl rfl rfl rfl (q_fieldAddr fa_74_0 rfl) ?_
      refine .cons rfl rfl rfl rfl rfl (q_nilCheck rfl) ?_
      refine .cons rfl rfl rfl rfl rfl (q_move rfl) ?_
      refine .cons rfl rfl rfl rfl rfl (q_fieldAddr fa_94_1 rfl) ?_
      refine .cons rfl rfl rfl rfl rfl (q_ixs Try.underlying68 Try.sizeOf94 rfl rfl (by omega) (by omega)) ?_
      first | refine .cons rfl rfl rfl rfl rfl (q_ld Try.isAgg3 rfl rfl) ?_ | refine .cons rfl rfl rfl rfl rfl (q_ldw Try.isAgg3 rfl (by omega)) ?_
      refine .cons rfl rfl rfl rfl rfl (q_fieldAddr fa_102_1 rfl) ?_
      refine .cons rfl rfl rfl rfl rfl (q_ld Try.isAgg68 rfl rfl) ?_
      refine .cons rfl rfl rfl rfl rfl (q_fieldAddr fa_74_0 rfl) ?_
      refine .cons rfl rfl rfl rfl rfl (q_nilCheck rfl) ?_
      refine .cons rfl rfl rfl rfl rfl (q_move rfl) ?_
      exact .nil
    refine gp_quiet 19 rfl rfl rfl rfl rfl rfl (q_assign rfl) ?_
    refine gp_end rfl rfl ?_
    refine g_seq ?_
    refine g_region ?_
    rw [← hgl]
    refine l_fieldAddr rfl fa_102_0 rfl ?_
    refine l_ld rfl Try.isAgg31 rfl rfl ?_
    refine l_move rfl rfl ?_
    refine l_len rfl Try.underlying36 rfl ?_
    first | refine l_add rfl rfl rfl (w_i64 (by omega) (by omega)) ?_ | refine l_addw rfl rfl rfl ?_
    refine l_call rfl Try.call13 rfl (along_any _ _ (S.M (S.T q).a).x (S.M (S.T q).a).g (S.M (S.T q).a).n (S.M (S.T q).a).c (S.M (S.T q).b).x (S.M (S.T q).b).g (S.M (S.T q).b).n (S.M (S.T q).b).c n hx.out.1 hx.out.2.1 hx.out.2.2 hn (S.M (S.T q).a).W (S.M (S.T q).b).W (mp_rd (j := (S.T q).a) (by first | exact mem_getO 0 rfl | exact mem_getO 1 rfl | exact mem_getO 2 rfl | exact mem_getO 3 rfl | exact mem_getO 4 rfl | exact mem_getO 5 rfl | exact mem_getO 6 rfl | exact mem_getO 7 rfl | exact mem_getO 8 rfl | exact mem_getO 9 rfl | exact mem_getO 10 rfl | exact mem_getO 11 rfl) hT1).1 p1 (mp_rd (j := (S.T q).b) (by first | exact mem_getO 0 rfl | exact mem_getO 1 rfl | exact mem_getO 2 rfl | exact mem_getO 3 rfl | exact mem_getO 4 rfl | exact mem_getO 5 rfl | exact mem_getO 6 rfl | exact mem_getO 7 rfl | exact mem_getO 8 rfl | exact mem_getO 9 rfl | exact mem_getO 10 rfl | exact mem_getO 11 rfl) hT2).1 q1 (S.T q).bm (S.T q).bo (by rw [← hT3]; exact (ki_rd (j := q) (by first | exact mem_getO 0 rfl | exact mem_getO 1 rfl | exact mem_getO 2 rfl | exact mem_getO 3 rfl | exact mem_getO 4 rfl | exact mem_getO 5 rfl | exact mem_getO 6 rfl | exact mem_getO 7 rfl | exact mem_getO 8 rfl | exact mem_getO 9 rfl | exact mem_getO 10 rfl | exact mem_getO 11 rfl) hqJ).1) (by rw [← hT4]; exact (ki_rd (j := q) (by first | exact mem_getO 0 rfl | exact mem_getO 1 rfl | exact mem_getO 2 rfl | exact mem_getO 3 rfl | exact mem_getO 4 rfl | exact mem_getO 5 rfl | exact mem_getO 6 rfl | exact mem_getO 7 rfl | exact mem_getO 8 rfl | exact mem_getO 9 rfl | exact mem_getO 10 rfl | exact mem_getO 11 rfl) hqJ).2) ((T8.length : Int) + 1) (by omega) (by omega)) ?_; rintro _ _ ⟨a9, c9, T9, rfl, hT9, ha9, rfl⟩
    replace ha9 := Hid.mk ha9
    refine l_assign rfl rfl ?_
    refine l_nil ?_
    refine g_seq ?_
    refine g_region ?_
    refine l_move rfl rfl ?_
    refine l_move rfl rfl ?_
    have hT9b : T9 = T8 := by rw [hT9, ← hT8, List.take_of_length_le (by omega)]
    rw [hT9b]
    refine l_call rfl Try.call47 rfl (samei_ok _ _ a9 a8 T8.length c9 c8 T8 (IR.own rfl (by first | exact mem_getO 0 rfl | exact mem_getO 1 rfl | exact mem_getO 2 rfl | exact mem_getO 3 rfl | exact mem_getO 4 rfl | exact mem_getO 5 rfl | exact mem_getO 6 rfl | exact mem_getO 7 rfl | exact mem_getO 8 rfl | exact mem_getO 9 rfl | exact mem_getO 10 rfl | exact mem_getO 11 rfl) (hT9b ▸ ha9.out)) (IR.own rfl (by first | exact mem_getO 0 rfl | exact mem_getO 1 rfl | exact mem_getO 2 rfl | exact mem_getO 3 rfl | exact mem_getO 4 rfl | exact mem_getO 5 rfl | exact mem_getO 6 rfl | exact mem_getO 7 rfl | exact mem_getO 8 rfl | exact mem_getO 9 rfl | exact mem_getO 10 rfl | exact mem_getO 11 rfl) ha8.out) (by omega)) ?_; rintro _ _ ⟨rfl, rfl⟩
    refine l_assign rfl rfl ?_
    refine l_nil ?_
    refine g_ret Try.func26 rfl (.tmp rfl .nil) ?_
    exact Gives.mki ⟨rfl, rfl⟩
theorem iters_no (w0 : World) (F : List Atom) (wb : Nat) (S : WS) (hS : SOk S) (hN1 : 1 ≤ S.N) (hJ : S.J ≤ 1099511627776) (kd : Int) (kd0 : -9223372036854775808 ≤ kd) (kd1 : kd ≤ 9223372036854775807) (who : Int) (who0 : -9223372036854775808 ≤ who) (who1 : who ≤ 9223372036854775807) (oth : Int) (oth0 : -9223372036854775808 ≤ oth) (oth1 : oth ≤ 9223372036854775807) (oa : Int) (oa0 : -9223372036854775808 ≤ oa) (oa1 : oa ≤ 9223372036854775807) (ob : Int) (ob0 : -9223372036854775808 ≤ ob) (ob1 : ob ≤ 9223372036854775807) (oc : Int) (oc0 : -9223372036854775808 ≤ oc) (oc1 : oc ≤ 9223372036854775807) (ox : Int) (ox0 : 0 ≤ ox) (ox1 : ox ≤ 4294967295) (sa : Option Addr) (sn sc : Nat) (Y : List Int) (hY : Y.length = sn) (hsn : sn ≤ 2147483647) (hR : IR w0 F .u32 sa sn Y) (hYU : W32s Y) (hk : kd ≠ 13) (hJ0 : S.J = 0) :
    CallK Try.prog 26 [.pointer (some ⟨wb, 0, none⟩), .agg [Value.int .i64 kd, .int .i64 who, .int .i64 oth, .int .i64 oa, .int .i64 ob, .int .i64 oc, .int .u32 ox, .slice sa sn sc].toArray] w0 (Blk wb (.cells [Value.slice S.la S.N S.lc, .slice S.ia S.J S.ic, .slice S.ka S.K S.kc].toArray 74 (0, 0)) :: Own 94 2 (.slice S.la S.N S.lc) S.N (rowsN S.N (fun j => mpR (S.M j))) :: BigF S.N (fun j => mpA (S.M j)) :: Own 102 3 (.slice S.ia S.J S.ic) S.J (rowsN S.J (fun j => kiR (S.T j))) :: BigF S.J (fun j => kiA (S.T j)) :: Own 107 4 (.slice S.ka S.K S.kc) S.K (rowsN S.K (fun j => bkR (S.B j))) :: BigF S.K (fun j => bkA (S.B j)) :: F) (Gives w0 fun v F2 => v = .bool true ∧ F2 = Blk wb (.cells [Value.slice S.la S.N S.lc, .slice S.ia S.J S.ic, .slice S.ka S.K S.kc].toArray 74 (0, 0)) :: Own 94 2 (.slice S.la S.N S.lc) S.N (rowsN S.N (fun j => mpR (S.M j))) :: BigF S.N (fun j => mpA (S.M j)) :: Own 102 3 (.slice S.ia S.J S.ic) S.J (rowsN S.J (fun j => kiR (S.T j))) :: BigF S.J (fun j => kiA (S.T j)) :: Own 107 4 (.slice S.ka S.K S.kc) S.K (rowsN S.K (fun j => bkR (S.B j))) :: BigF S.K (fun j => bkA (S.B j)) :: F) := by
  refine c_enter Try.func26 rfl rfl rfl ?_
  refine g_seq ?_
  refine g_region ?_
  refine l_boxs rfl rfl ?_; intro b3
  refine l_assign rfl rfl ?_
  refine l_nil ?_
  refine g_seq ?_
  refine g_seq ?_
  refine g_region ?_
  refine l_fieldAddr rfl fa_65_0 rfl ?_
  first | refine l_ld rfl Try.isAgg3 rfl rfl ?_ | refine l_ldw rfl Try.isAgg3 rfl (by omega) ?_
  refine l_eql rfl rfl rfl ?_
  refine l_nil ?_
  refine g_cond rfl ?_ ?_
  · intro hbr
    have hbr := of_decide_eq_true hbr
    (exfalso; first | omega | (simp at hbr; done))
  intro hbr
  have hbr := of_decide_eq_false hbr
  refine g_skip ?_
  refine g_seq ?_
  refine g_seq ?_
  refine g_region ?_
  refine l_move rfl rfl ?_
  refine l_nilCheck rfl rfl ?_
  refine l_fieldAddr rfl fa_74_1 rfl ?_
  refine l_ld rfl Try.isAgg69 rfl rfl ?_
  refine l_len rfl Try.underlying69 rfl ?_
  refine l_eql rfl rfl rfl ?_
  refine l_nil ?_
  refine g_cond rfl ?_ ?_
  · intro hbr
    have hbr := of_decide_eq_true hbr
    refine g_seq ?_
    refine g_region ?_
    refine l_assign rfl rfl ?_
    refine l_nil ?_
    refine g_ret Try.func26 rfl (.tmp rfl .nil) ?_
    exact Gives.mki ⟨rfl, rfl⟩
  · intro hbr
    have hbr := of_decide_eq_false hbr
    (exfalso; first | omega | (simp at hbr; done))
theorem iters_any (w0 : World) (F : List Atom) (wb : Nat) (S : WS) (hS : SOk S) (hN1 : 1 ≤ S.N) (hJ : S.J ≤ 1099511627776) (kd : Int) (kd0 : -9223372036854775808 ≤ kd) (kd1 : kd ≤ 9223372036854775807) (who : Int) (who0 : -9223372036854775808 ≤ who) (who1 : who ≤ 9223372036854775807) (oth : Int) (oth0 : -9223372036854775808 ≤ oth) (oth1 : oth ≤ 9223372036854775807) (oa : Int) (oa0 : -9223372036854775808 ≤ oa) (oa1 : oa ≤ 9223372036854775807) (ob : Int) (ob0 : -9223372036854775808 ≤ ob) (ob1 : ob ≤ 9223372036854775807) (oc : Int) (oc0 : -9223372036854775808 ≤ oc) (oc1 : oc ≤ 9223372036854775807) (ox : Int) (ox0 : 0 ≤ ox) (ox1 : ox ≤ 4294967295) (sa : Option Addr) (sn sc : Nat) (Y : List Int) (hY : Y.length = sn) (hsn : sn ≤ 2147483647) (hR : IR w0 F .u32 sa sn Y) (hYU : W32s Y) : CallK Try.prog 26 [.pointer (some ⟨wb, 0, none⟩), .agg [Value.int .i64 kd, .int .i64 who, .int .i64 oth, .int .i64 oa, .int .i64 ob, .int .i64 oc, .int .u32 ox, .slice sa sn sc].toArray] w0 (Blk wb (.cells [Value.slice S.la S.N S.lc, .slice S.ia S.J S.ic, .slice S.ka S.K S.kc].toArray 74 (0, 0)) :: Own 94 2 (.slice S.la S.N S.lc) S.N (rowsN S.N (fun j => mpR (S.M j))) :: BigF S.N (fun j => mpA (S.M j)) :: Own 102 3 (.slice S.ia S.J S.ic) S.J (rowsN S.J (fun j => kiR (S.T j))) :: BigF S.J (fun j => kiA (S.T j)) :: Own 107 4 (.slice S.ka S.K S.kc) S.K (rowsN S.K (fun j => bkR (S.B j))) :: BigF S.K (fun j => bkA (S.B j)) :: F) (Gives w0 fun v F2 => ∃ S' : WS, v = .bool true ∧ SOk S' ∧ S.N ≤ S'.N ∧ S'.J ≤ S.J + 1 ∧ S'.K ≤ S.K + 0 ∧ F2 = Blk wb (.cells [Value.slice S'.la S'.N S'.lc, .slice S'.ia S'.J S'.ic, .slice S'.ka S'.K S'.kc].toArray 74 (0, 0)) :: Own 94 2 (.slice S'.la S'.N S'.lc) S'.N (rowsN S'.N (fun j => mpR (S'.M j))) :: BigF S'.N (fun j => mpA (S'.M j)) :: Own 102 3 (.slice S'.ia S'.J S'.ic) S'.J (rowsN S'.J (fun j => kiR (S'.T j))) :: BigF S'.J (fun j => kiA (S'.T j)) :: Own 107 4 (.slice S'.ka S'.K S'.kc) S'.K (rowsN S'.K (fun j => bkR (S'.B j))) :: BigF S'.K (fun j => bkA (S'.B j)) :: F) := by
  by_cases k1 : kd = 13
  · exact iters_keep w0 F wb S hS hN1 hJ kd kd0 kd1 who who0 who1 oth oth0 oth1 oa oa0 oa1 ob ob0 ob1 oc oc0 oc1 ox ox0 ox1 sa sn sc Y hY hsn hR hYU k1
  by_cases h : 1 ≤ S.J
  · exact (iters_go w0 F wb S hS hN1 hJ kd kd0 kd1 who who0 who1 oth oth0 oth1 oa oa0 oa1 ob ob0 ob1 oc oc0 oc1 ox ox0 ox1 sa sn sc Y hY hsn hR hYU k1 h).gmono fun v F2 ⟨e1, e2⟩ => ⟨S, e1, hS, Nat.le_refl _, by omega, by omega, e2⟩
  · exact (iters_no w0 F wb S hS hN1 hJ kd kd0 kd1 who who0 who1 oth oth0 oth1 oa oa0 oa1 ob ob0 ob1 oc oc0 oc1 ox ox0 ox1 sa sn sc Y hY hsn hR hYU k1 (by omega)).gmono fun v F2 ⟨e1, e2⟩ => ⟨S, e1, hS, Nat.le_refl _, by omega, by omega, e2⟩
end Go.Proofs.Ytlgcghhjgcdigaa.Fw
