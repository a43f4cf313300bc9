import Derived.Test.YthemlddepepekaaWorld
namespace Go.Proofs.Ythemlddepepekaa.Fw
open Go Go.Proofs
set_option linter.unusedVariables false
set_option linter.unusedSimpArgs false
set_option maxRecDepth 10000
theorem fa_53_0 (a : Addr) (w : World) : (Instr.fieldAt 53 (.pointer (some a)) 0).run Try.prog w = .ok (.pointer (some (a.add 0))) w := by
  simp [Instr.fieldAt, Try.runUnderlying53, Instr.sureAddr, fieldPlace, Try.sizeOf3, Sem.run_bind, Sem.run_pure]
theorem fa_63_0 (a : Addr) (w : World) : (Instr.fieldAt 63 (.pointer (some a)) 0).run Try.prog w = .ok (.pointer (some (a.add 0))) w := by
  simp [Instr.fieldAt, Try.runUnderlying63, Instr.sureAddr, fieldPlace, Try.sizeOf24, Sem.run_bind, Sem.run_pure]
theorem fa_53_2 (a : Addr) (w : World) : (Instr.fieldAt 53 (.pointer (some a)) 2).run Try.prog w = .ok (.pointer (some (a.add 2))) w := by
  simp [Instr.fieldAt, Try.runUnderlying53, Instr.sureAddr, fieldPlace, Try.sizeOf3, Sem.run_bind, Sem.run_pure]
theorem fa_63_1 (a : Addr) (w : World) : (Instr.fieldAt 63 (.pointer (some a)) 1).run Try.prog w = .ok (.pointer (some (a.add 1))) w := by
  simp [Instr.fieldAt, Try.runUnderlying63, Instr.sureAddr, fieldPlace, Try.sizeOf56, Sem.run_bind, Sem.run_pure]
theorem fa_53_5 (a : Addr) (w : World) : (Instr.fieldAt 53 (.pointer (some a)) 5).run Try.prog w = .ok (.pointer (some (a.add 5))) w := by
  simp [Instr.fieldAt, Try.runUnderlying53, Instr.sureAddr, fieldPlace, Try.sizeOf51, Sem.run_bind, Sem.run_pure]
set_option maxHeartbeats 8000000 in
theorem words_ok17 (w0 : World) (F : List Atom) (wb : Nat) (S : WS) (hS : SOk S) (hN : S.N ≤ 1099511627776) (hK : S.K ≤ 1099511627000) (kd : Int) (kd0 : -9223372036854775808 ≤ kd) (kd1 : kd ≤ 9223372036854775807) (who : Int) (who0 : -9223372036854775808 ≤ who) (who1 : who ≤ 9223372036854775807) (oa : Int) (oa0 : -9223372036854775808 ≤ oa) (oa1 : oa ≤ 9223372036854775807) (ob : Int) (ob0 : -9223372036854775808 ≤ ob) (ob1 : ob ≤ 9223372036854775807) (oq : Bool) (ox : Int) (ox0 : 0 ≤ ox) (ox1 : ox ≤ 4294967295) (ga : Option Addr) (gc : Nat) (G : List Int) (hsg : G.length ≤ 2147483647) (hG : RA w0 F .i64 ga G.length gc G) (hGb : I64s G) (sa : Option Addr) (sc : Nat) (Y : List Int) (hsn : Y.length ≤ 2147483647) (hY : RA w0 F .u32 sa Y.length sc Y) (hYU : W32s Y) :
    CallK Try.prog 18 [.pointer (some ⟨wb, 0, none⟩), .agg [Value.int .i64 kd, .int .i64 who, .int .i64 oa, .int .i64 ob, .bool oq, .int .u32 ox, .slice ga G.length gc, .slice sa Y.length sc].toArray] w0 (Blk wb (.cells [Value.pointer (some ⟨S.m.x, 0, none⟩), .pointer (some ⟨S.m.y, 0, none⟩), .pointer (some ⟨S.p.x, 0, none⟩), .pointer (some ⟨S.p.y, 0, none⟩), .slice S.la S.N S.lc, .slice S.ka S.K S.kc, .slice none 0 0].toArray 63 (0, 0)) :: mpA S.m :: mpA S.p :: Own 95 2 (.slice S.la S.N S.lc) S.N (rowsN S.N (fun j => chR (S.C j))) :: BigF S.N (fun j => chA (S.C j)) :: Own 111 4 (.slice S.ka S.K S.kc) S.K (rowsN S.K (fun j => bkR (S.B j))) :: BigF S.K (fun j => bkA (S.B j)) :: F) (Gives w0 fun v F2 => ∃ S' : WS, v = .bool true ∧ SOk S' ∧ (S.N ≤ S'.N ∧ S'.N ≤ S.N + 0 ∧ S'.K ≤ S.K + 0) ∧ F2 = Blk wb (.cells [Value.pointer (some ⟨S'.m.x, 0, none⟩), .pointer (some ⟨S'.m.y, 0, none⟩), .pointer (some ⟨S'.p.x, 0, none⟩), .pointer (some ⟨S'.p.y, 0, none⟩), .slice S'.la S'.N S'.lc, .slice S'.ka S'.K S'.kc, .slice none 0 0].toArray 63 (0, 0)) :: mpA S'.m :: mpA S'.p :: Own 95 2 (.slice S'.la S'.N S'.lc) S'.N (rowsN S'.N (fun j => chR (S'.C j))) :: BigF S'.N (fun j => chA (S'.C j)) :: Own 111 4 (.slice S'.ka S'.K S'.kc) S'.K (rowsN S'.K (fun j => bkR (S'.B j))) :: BigF S'.K (fun j => bkA (S'.B j)) :: F) := by
  refine c_enter Try.func18 rfl rfl rfl ?_
  refine g_seq ?_
  refine g_region ?_
  refine l_boxs rfl rfl ?_; intro b3
  refine l_assign rfl rfl ?_
  refine l_nil ?_
  refine g_seq ?_
  refine g_seq ?_
  refine g_region ?_
  refine l_take (mpA S.m) ?_
  refine l_openm ?_
  refine l_fieldAddr rfl fa_53_0 rfl ?_
  first | refine l_ld rfl Try.isAgg3 rfl rfl ?_ | refine l_ldw rfl Try.isAgg3 rfl (by omega) ?_
  refine l_nil ?_
  refine g_block ?_
  refine g_seq ?_
  refine g_region ?_
  refine l_eql rfl rfl rfl ?_
  refine l_assign rfl rfl ?_
  refine l_nil ?_
  refine g_cond rfl ?_ ?_
  · intro hbr
    have hbr := of_decide_eq_true hbr
    refine g_seq ?_
    refine gp_start mo (by kernel_rfl) (by kernel_rfl) ?_
    refine gp_quiet 0 rfl rfl rfl rfl rfl rfl (q_move rfl) ?_
    refine gp_quiet 1 rfl rfl rfl rfl rfl rfl (q_nilCheck rfl) ?_
    refine gp_quiet 2 rfl rfl rfl rfl rfl rfl (q_fieldAddr fa_63_0 rfl) ?_
    refine gp_quiet 3 rfl rfl rfl rfl rfl rfl (q_ld Try.isAgg24 rfl rfl) ?_
    refine gp_quiet 4 rfl rfl rfl rfl rfl rfl (q_fieldAddr fa_53_2 rfl) ?_
    first | refine gp_quiet 5 rfl rfl rfl rfl rfl rfl (q_ld Try.isAgg3 rfl rfl) ?_ | refine gp_quiet 5 rfl rfl rfl rfl rfl rfl (q_ldw Try.isAgg3 rfl (by omega)) ?_
    refine gp_take (Own 51 1 (.slice (some ⟨S.m.g, 0, none⟩) 32 S.m.c) 32 (ints .u32 S.m.W)) ?_
    refine gp_take (Blk S.m.x (.cells [Value.slice (some ⟨S.m.g, 0, none⟩) 32 S.m.c].toArray 81 (0, 0))) ?_
    refine gp_effa 6 [3, 5] [4, 2, 1, 0] rfl rfl rfl rfl rfl rfl rfl (does_call Try.call26 rfl (ltake_ok _ _ S.m.x S.m.g 32 S.m.c S.m.W hS.hm.len hS.hm.hc (by omega) oa oa0 oa1)) ?_
    rintro _ _ ⟨k1, e1, V1, rfl, hV1, rfl, hG1⟩
    refine ⟨?_, ?_⟩
    · refine .cons rfl rfl rfl rfl rfl (q_fieldAddr fa_53_2 rfl) ?_
      refine .cons rfl rfl rfl rfl rfl (q_fieldAddr fa_63_0 rfl) ?_
      refine .cons rfl rfl rfl rfl rfl (q_nilCheck rfl) ?_
      refine .cons rfl rfl rfl rfl rfl (q_move rfl) ?_
      exact .nil
    refine gp_quiet 7 rfl rfl rfl rfl rfl rfl (q_move rfl) ?_
    refine gp_quiet 8 rfl rfl rfl rfl rfl rfl (q_extract rfl rfl) ?_
    refine gp_quiet 9 rfl rfl rfl rfl rfl rfl (q_extract rfl rfl) ?_
    refine gp_quiet 10 rfl rfl rfl rfl rfl rfl (q_assign rfl) ?_
    refine gp_quiet 11 rfl rfl rfl rfl rfl rfl (q_assign rfl) ?_
    refine gp_end rfl rfl ?_
    refine g_seq ?_
    refine gp_start mo (by kernel_rfl) (by kernel_rfl) ?_
    refine gp_quiet 0 rfl rfl rfl rfl rfl rfl (q_move rfl) ?_
    refine gp_quiet 1 rfl rfl rfl rfl rfl rfl (q_nilCheck rfl) ?_
    refine gp_quiet 2 rfl rfl rfl rfl rfl rfl (q_fieldAddr fa_63_1 rfl) ?_
    refine gp_quiet 3 rfl rfl rfl rfl rfl rfl (q_ld Try.isAgg56 rfl rfl) ?_
    refine gp_quiet 4 rfl rfl rfl rfl rfl rfl (q_fieldAddr fa_53_2 rfl) ?_
    first | refine gp_quiet 5 rfl rfl rfl rfl rfl rfl (q_ld Try.isAgg3 rfl rfl) ?_ | refine gp_quiet 5 rfl rfl rfl rfl rfl rfl (q_ldw Try.isAgg3 rfl (by omega)) ?_
    refine gp_take (Own 51 1 (.slice (some ⟨S.m.h, 0, none⟩) 32 S.m.d) 32 (ints .u32 S.m.W)) ?_
    refine gp_take (Blk S.m.y (.cells [Value.slice (some ⟨S.m.h, 0, none⟩) 32 S.m.d].toArray 67 (0, 0))) ?_
    refine gp_effa 6 [3, 5] [4, 2, 1, 0] rfl rfl rfl rfl rfl rfl rfl (does_call Try.call38 rfl (rltake_ok _ _ S.m.y S.m.h 32 S.m.d S.m.W hS.hm.len hS.hm.hd (by omega) oa oa0 oa1)) ?_
    rintro _ _ ⟨k2, e2, V2, rfl, hV2, rfl, hG2⟩
    obtain ⟨rfl, rfl, rfl⟩ := hG1.same hG2
    refine ⟨?_, ?_⟩
    · refine .cons rfl rfl rfl rfl rfl (q_fieldAddr fa_53_2 rfl) ?_
      refine .cons rfl rfl rfl rfl rfl (q_fieldAddr fa_63_1 rfl) ?_
      refine .cons rfl rfl rfl rfl rfl (q_nilCheck rfl) ?_
      refine .cons rfl rfl rfl rfl rfl (q_move rfl) ?_
      exact .nil
    refine gp_quiet 7 rfl rfl rfl rfl rfl rfl (q_move rfl) ?_
    refine gp_quiet 8 rfl rfl rfl rfl rfl rfl (q_extract rfl rfl) ?_
    refine gp_quiet 9 rfl rfl rfl rfl rfl rfl (q_extract rfl rfl) ?_
    refine gp_quiet 10 rfl rfl rfl rfl rfl rfl (q_assign rfl) ?_
    refine gp_quiet 11 rfl rfl rfl rfl rfl rfl (q_assign rfl) ?_
    refine gp_end rfl rfl ?_
    refine g_seq ?_
    refine g_region ?_
    refine l_move rfl rfl ?_
    refine l_move rfl rfl ?_
    refine l_eql rfl rfl rfl ?_
    refine l_move rfl rfl ?_
    refine l_split 48 rfl ?_ ?_
    · intro hbr
      have hbr := of_decide_eq_true hbr
      refine l_guard_yes rfl rfl ?_
      refine l_move rfl rfl ?_
      refine l_guard_yes rfl rfl ?_
      refine l_move rfl rfl ?_
      refine l_guard_yes rfl rfl ?_
      refine l_eql rfl rfl rfl ?_
      refine l_pick_t rfl rfl rfl ?_
      refine l_assign rfl rfl ?_
      refine l_nil ?_
      refine g_take (Own 51 1 (.slice (some ⟨S.m.h, 0, none⟩) 32 S.m.d) 32 (ints .u32 V1)) ?_
      refine g_take (Blk S.m.y (.cells [Value.slice (some ⟨S.m.h, 0, none⟩) 32 S.m.d].toArray 67 (0, 0))) ?_
      refine g_take (Own 51 1 (.slice (some ⟨S.m.g, 0, none⟩) 32 S.m.c) 32 (ints .u32 V1)) ?_
      refine g_take (Blk S.m.x (.cells [Value.slice (some ⟨S.m.g, 0, none⟩) 32 S.m.c].toArray 81 (0, 0))) ?_
      refine g_closem V1 ?_
      refine g_ret Try.func18 rfl (.tmp rfl .nil) ?_
      exact Gives.mki ⟨⟨⟨S.m.x, S.m.g, S.m.c, S.m.y, S.m.h, S.m.d, V1⟩, S.p, S.N, S.C, S.la, S.lc, S.K, S.B, S.ka, S.kc⟩, (by first | rfl | exact congrArg Value.bool (decide_eq_true rfl) | (simp [resVal]; done)), hS.mem ⟨hV1, hS.hm.hc, hS.hm.hd, (hG1.w32 hS.hm.u).1⟩, ⟨Nat.le_refl _, Nat.le_refl _, Nat.le_refl _⟩, rfl⟩
    · intro hbr
      have hbr := of_decide_eq_false hbr
      (exfalso; first | omega | (simp at hbr; done))
  intro hbr
  have hbr := of_decide_eq_false hbr
  refine g_seq ?_
  refine g_region ?_
  refine l_eql rfl rfl rfl ?_
  refine l_assign rfl rfl ?_
  refine l_nil ?_
  refine g_cond rfl ?_ ?_
  · intro hbr
    have hbr := of_decide_eq_true hbr
    refine g_seq ?_
    refine gp_start mo (by kernel_rfl) (by kernel_rfl) ?_
    refine gp_quiet 0 rfl rfl rfl rfl rfl rfl (q_move rfl) ?_
    refine gp_quiet 1 rfl rfl rfl rfl rfl rfl (q_nilCheck rfl) ?_
    refine gp_quiet 2 rfl rfl rfl rfl rfl rfl (q_fieldAddr fa_63_0 rfl) ?_
    refine gp_quiet 3 rfl rfl rfl rfl rfl rfl (q_ld Try.isAgg24 rfl rfl) ?_
    refine gp_quiet 4 rfl rfl rfl rfl rfl rfl (q_fieldAddr fa_53_2 rfl) ?_
    first | refine gp_quiet 5 rfl rfl rfl rfl rfl rfl (q_ld Try.isAgg3 rfl rfl) ?_ | refine gp_quiet 5 rfl rfl rfl rfl rfl rfl (q_ldw Try.isAgg3 rfl (by omega)) ?_
    refine gp_quiet 6 rfl rfl rfl rfl rfl rfl (q_fieldAddr fa_53_5 rfl) ?_
    first | refine gp_quiet 7 rfl rfl rfl rfl rfl rfl (q_ld Try.isAgg51 rfl rfl) ?_ | refine gp_quiet 7 rfl rfl rfl rfl rfl rfl (q_ldw Try.isAgg51 rfl (by omega)) ?_
    refine gp_take (Own 51 1 (.slice (some ⟨S.m.g, 0, none⟩) 32 S.m.c) 32 (ints .u32 S.m.W)) ?_
    refine gp_take (Blk S.m.x (.cells [Value.slice (some ⟨S.m.g, 0, none⟩) 32 S.m.c].toArray 81 (0, 0))) ?_
    refine gp_effa 8 [3, 5, 7] [6, 4, 2, 1, 0] rfl rfl rfl rfl rfl rfl rfl (does_call Try.call39 rfl (lmine_ok _ _ S.m.x S.m.g 32 S.m.c S.m.W hS.hm.len hS.hm.hc (by omega) oa oa0 oa1 ox)) ?_
    rintro _ _ ⟨k1, e1, rfl, rfl, hG1⟩
    refine ⟨?_, ?_⟩
    · refine .cons rfl rfl rfl rfl rfl (q_fieldAddr fa_53_5 rfl) ?_
      refine .cons rfl rfl rfl rfl rfl (q_fieldAddr fa_53_2 rfl) ?_
      refine .cons rfl rfl rfl rfl rfl (q_fieldAddr fa_63_0 rfl) ?_
      refine .cons rfl rfl rfl rfl rfl (q_nilCheck rfl) ?_
      refine .cons rfl rfl rfl rfl rfl (q_move rfl) ?_
      exact .nil
    refine gp_quiet 9 rfl rfl rfl rfl rfl rfl (q_move rfl) ?_
    refine gp_quiet 10 rfl rfl rfl rfl rfl rfl (q_extract rfl rfl) ?_
    refine gp_quiet 11 rfl rfl rfl rfl rfl rfl (q_extract rfl rfl) ?_
    refine gp_quiet 12 rfl rfl rfl rfl rfl rfl (q_assign rfl) ?_
    refine gp_quiet 13 rfl rfl rfl rfl rfl rfl (q_assign rfl) ?_
    refine gp_end rfl rfl ?_
    refine g_seq ?_
    refine gp_start mo (by kernel_rfl) (by kernel_rfl) ?_
    refine gp_quiet 0 rfl rfl rfl rfl rfl rfl (q_move rfl) ?_
    refine gp_quiet 1 rfl rfl rfl rfl rfl rfl (q_nilCheck rfl) ?_
    refine gp_quiet 2 rfl rfl rfl rfl rfl rfl (q_fieldAddr fa_63_1 rfl) ?_
    refine gp_quiet 3 rfl rfl rfl rfl rfl rfl (q_ld Try.isAgg56 rfl rfl) ?_
    refine gp_quiet 4 rfl rfl rfl rfl rfl rfl (q_fieldAddr fa_53_2 rfl) ?_
    first | refine gp_quiet 5 rfl rfl rfl rfl rfl rfl (q_ld Try.isAgg3 rfl rfl) ?_ | refine gp_quiet 5 rfl rfl rfl rfl rfl rfl (q_ldw Try.isAgg3 rfl (by omega)) ?_
    refine gp_quiet 6 rfl rfl rfl rfl rfl rfl (q_fieldAddr fa_53_5 rfl) ?_
    first | refine gp_quiet 7 rfl rfl rfl rfl rfl rfl (q_ld Try.isAgg51 rfl rfl) ?_ | refine gp_quiet 7 rfl rfl rfl rfl rfl rfl (q_ldw Try.isAgg51 rfl (by omega)) ?_
    refine gp_take (Own 51 1 (.slice (some ⟨S.m.h, 0, none⟩) 32 S.m.d) 32 (ints .u32 S.m.W)) ?_
    refine gp_take (Blk S.m.y (.cells [Value.slice (some ⟨S.m.h, 0, none⟩) 32 S.m.d].toArray 67 (0, 0))) ?_
    refine gp_effa 8 [3, 5, 7] [6, 4, 2, 1, 0] rfl rfl rfl rfl rfl rfl rfl (does_call Try.call40 rfl (rlmine_ok _ _ S.m.y S.m.h 32 S.m.d S.m.W hS.hm.len hS.hm.hd (by omega) oa oa0 oa1 ox)) ?_
    rintro _ _ ⟨k2, e2, rfl, rfl, hG2⟩
    obtain ⟨rfl, rfl⟩ := hG1.same hG2
    refine ⟨?_, ?_⟩
    · refine .cons rfl rfl rfl rfl rfl (q_fieldAddr fa_53_5 rfl) ?_
      refine .cons rfl rfl rfl rfl rfl (q_fieldAddr fa_53_2 rfl) ?_
      refine .cons rfl rfl rfl rfl rfl (q_fieldAddr fa_63_1 rfl) ?_
      refine .cons rfl rfl rfl rfl rfl (q_nilCheck rfl) ?_
      refine .cons rfl rfl rfl rfl rfl (q_move rfl) ?_
      exact .nil
    refine gp_quiet 9 rfl rfl rfl rfl rfl rfl (q_move rfl) ?_
    refine gp_quiet 10 rfl rfl rfl rfl rfl rfl (q_extract rfl rfl) ?_
    refine gp_quiet 11 rfl rfl rfl rfl rfl rfl (q_extract rfl rfl) ?_
    refine gp_quiet 12 rfl rfl rfl rfl rfl rfl (q_assign rfl) ?_
    refine gp_quiet 13 rfl rfl rfl rfl rfl rfl (q_assign rfl) ?_
    refine gp_end rfl rfl ?_
    refine g_seq ?_
    refine g_region ?_
    refine l_move rfl rfl ?_
    refine l_move rfl rfl ?_
    refine l_eqlb rfl Try.underlying4 rfl rfl ?_
    refine l_move rfl rfl ?_
    refine l_split 82 rfl ?_ ?_
    · intro hbr
      have hb82 := hbr
      refine l_guard_yes rfl rfl ?_
      refine l_move rfl rfl ?_
      refine l_guard_yes rfl rfl ?_
      refine l_move rfl rfl ?_
      refine l_guard_yes rfl rfl ?_
      refine l_eql rfl rfl rfl ?_
      refine l_pick_t rfl rfl rfl ?_
      refine l_assign rfl rfl ?_
      refine l_nil ?_
      refine g_take (Own 51 1 (.slice (some ⟨S.m.h, 0, none⟩) 32 S.m.d) 32 (ints .u32 S.m.W)) ?_
      refine g_take (Blk S.m.y (.cells [Value.slice (some ⟨S.m.h, 0, none⟩) 32 S.m.d].toArray 67 (0, 0))) ?_
      refine g_take (Own 51 1 (.slice (some ⟨S.m.g, 0, none⟩) 32 S.m.c) 32 (ints .u32 S.m.W)) ?_
      refine g_take (Blk S.m.x (.cells [Value.slice (some ⟨S.m.g, 0, none⟩) 32 S.m.c].toArray 81 (0, 0))) ?_
      refine g_closem S.m.W ?_
      refine g_ret Try.func18 rfl (.tmp rfl .nil) ?_
      exact Gives.mki ⟨⟨⟨S.m.x, S.m.g, S.m.c, S.m.y, S.m.h, S.m.d, S.m.W⟩, S.p, S.N, S.C, S.la, S.lc, S.K, S.B, S.ka, S.kc⟩, (by first | rfl | exact congrArg Value.bool (decide_eq_true rfl) | (simp [resVal]; done)), hS.mem hS.hm, ⟨Nat.le_refl _, Nat.le_refl _, Nat.le_refl _⟩, rfl⟩
    · intro hbr
      first | (exfalso; simp at hbr; done) | (exfalso; simp at hbr; omega) | (exfalso; first | omega | (simp at hbr; done))
  intro hbr
  have hbr := of_decide_eq_false hbr
  refine g_seq ?_
  refine g_region ?_
  refine l_eql rfl rfl rfl ?_
  refine l_assign rfl rfl ?_
  refine l_nil ?_
  refine g_cond rfl ?_ ?_
  · intro hbr
    have hbr := of_decide_eq_true hbr
    refine g_seq ?_
    refine gp_start mo (by kernel_rfl) (by kernel_rfl) ?_
    refine gp_quiet 0 rfl rfl rfl rfl rfl rfl (q_move rfl) ?_
    refine gp_quiet 1 rfl rfl rfl rfl rfl rfl (q_nilCheck rfl) ?_
    refine gp_quiet 2 rfl rfl rfl rfl rfl rfl (q_fieldAddr fa_63_0 rfl) ?_
    refine gp_quiet 3 rfl rfl rfl rfl rfl rfl (q_ld Try.isAgg24 rfl rfl) ?_
    refine gp_quiet 4 rfl rfl rfl rfl rfl rfl (q_fieldAddr fa_53_2 rfl) ?_
    first | refine gp_quiet 5 rfl rfl rfl rfl rfl rfl (q_ld Try.isAgg3 rfl rfl) ?_ | refine gp_quiet 5 rfl rfl rfl rfl rfl rfl (q_ldw Try.isAgg3 rfl (by omega)) ?_
    refine gp_quiet 6 rfl rfl rfl rfl rfl rfl (q_fieldAddr fa_53_5 rfl) ?_
    first | refine gp_quiet 7 rfl rfl rfl rfl rfl rfl (q_ld Try.isAgg51 rfl rfl) ?_ | refine gp_quiet 7 rfl rfl rfl rfl rfl rfl (q_ldw Try.isAgg51 rfl (by omega)) ?_
    refine gp_take (Own 51 1 (.slice (some ⟨S.m.g, 0, none⟩) 32 S.m.c) 32 (ints .u32 S.m.W)) ?_
    refine gp_take (Blk S.m.x (.cells [Value.slice (some ⟨S.m.g, 0, none⟩) 32 S.m.c].toArray 81 (0, 0))) ?_
    refine gp_effa 8 [3, 5, 7] [6, 4, 2, 1, 0] rfl rfl rfl rfl rfl rfl rfl (does_call Try.call41 rfl (lfree_ok _ _ S.m.x S.m.g 32 S.m.c S.m.W hS.hm.len hS.hm.hc (by omega) oa oa0 oa1 ox)) ?_
    rintro _ _ ⟨e1, V1, rfl, hV1, rfl, hG1⟩
    refine ⟨?_, ?_⟩
    · refine .cons rfl rfl rfl rfl rfl (q_fieldAddr fa_53_5 rfl) ?_
      refine .cons rfl rfl rfl rfl rfl (q_fieldAddr fa_53_2 rfl) ?_
      refine .cons rfl rfl rfl rfl rfl (q_fieldAddr fa_63_0 rfl) ?_
      refine .cons rfl rfl rfl rfl rfl (q_nilCheck rfl) ?_
      refine .cons rfl rfl rfl rfl rfl (q_move rfl) ?_
      exact .nil
    refine gp_quiet 9 rfl rfl rfl rfl rfl rfl (q_assign rfl) ?_
    refine gp_end rfl rfl ?_
    refine g_seq ?_
    refine gp_start mo (by kernel_rfl) (by kernel_rfl) ?_
    refine gp_quiet 0 rfl rfl rfl rfl rfl rfl (q_move rfl) ?_
    refine gp_quiet 1 rfl rfl rfl rfl rfl rfl (q_nilCheck rfl) ?_
    refine gp_quiet 2 rfl rfl rfl rfl rfl rfl (q_fieldAddr fa_63_1 rfl) ?_
    refine gp_quiet 3 rfl rfl rfl rfl rfl rfl (q_ld Try.isAgg56 rfl rfl) ?_
    refine gp_quiet 4 rfl rfl rfl rfl rfl rfl (q_fieldAddr fa_53_2 rfl) ?_
    first | refine gp_quiet 5 rfl rfl rfl rfl rfl rfl (q_ld Try.isAgg3 rfl rfl) ?_ | refine gp_quiet 5 rfl rfl rfl rfl rfl rfl (q_ldw Try.isAgg3 rfl (by omega)) ?_
    refine gp_quiet 6 rfl rfl rfl rfl rfl rfl (q_fieldAddr fa_53_5 rfl) ?_
    first | refine gp_quiet 7 rfl rfl rfl rfl rfl rfl (q_ld Try.isAgg51 rfl rfl) ?_ | refine gp_quiet 7 rfl rfl rfl rfl rfl rfl (q_ldw Try.isAgg51 rfl (by omega)) ?_
    refine gp_take (Own 51 1 (.slice (some ⟨S.m.h, 0, none⟩) 32 S.m.d) 32 (ints .u32 S.m.W)) ?_
    refine gp_take (Blk S.m.y (.cells [Value.slice (some ⟨S.m.h, 0, none⟩) 32 S.m.d].toArray 67 (0, 0))) ?_
    refine gp_effa 8 [3, 5, 7] [6, 4, 2, 1, 0] rfl rfl rfl rfl rfl rfl rfl (does_call Try.call42 rfl (rlfree_ok _ _ S.m.y S.m.h 32 S.m.d S.m.W hS.hm.len hS.hm.hd (by omega) oa oa0 oa1 ox)) ?_
    rintro _ _ ⟨e2, V2, rfl, hV2, rfl, hG2⟩
    obtain ⟨rfl, rfl⟩ := hG1.same hG2
    refine ⟨?_, ?_⟩
    · refine .cons rfl rfl rfl rfl rfl (q_fieldAddr fa_53_5 rfl) ?_
      refine .cons rfl rfl rfl rfl rfl (q_fieldAddr fa_53_2 rfl) ?_
      refine .cons rfl rfl rfl rfl rfl (q_fieldAddr fa_63_1 rfl) ?_
      refine .cons rfl rfl rfl rfl rfl (q_nilCheck rfl) ?_
      refine .cons rfl rfl rfl rfl rfl (q_move rfl) ?_
      exact .nil
    refine gp_quiet 9 rfl rfl rfl rfl rfl rfl (q_assign rfl) ?_
    refine gp_end rfl rfl ?_
    refine g_seq ?_
    refine g_region ?_
    refine l_move rfl rfl ?_
    refine l_move rfl rfl ?_
    refine l_eql rfl rfl rfl ?_
    refine l_assign rfl rfl ?_
    refine l_nil ?_
    refine g_take (Own 51 1 (.slice (some ⟨S.m.h, 0, none⟩) 32 S.m.d) 32 (ints .u32 V1)) ?_
    refine g_take (Blk S.m.y (.cells [Value.slice (some ⟨S.m.h, 0, none⟩) 32 S.m.d].toArray 67 (0, 0))) ?_
    refine g_take (Own 51 1 (.slice (some ⟨S.m.g, 0, none⟩) 32 S.m.c) 32 (ints .u32 V1)) ?_
    refine g_take (Blk S.m.x (.cells [Value.slice (some ⟨S.m.g, 0, none⟩) 32 S.m.c].toArray 81 (0, 0))) ?_
    refine g_closem V1 ?_
    refine g_ret Try.func18 rfl (.tmp rfl .nil) ?_
    exact Gives.mki ⟨⟨⟨S.m.x, S.m.g, S.m.c, S.m.y, S.m.h, S.m.d, V1⟩, S.p, S.N, S.C, S.la, S.lc, S.K, S.B, S.ka, S.kc⟩, (by first | rfl | exact congrArg Value.bool (decide_eq_true rfl) | (simp [resVal]; done)), hS.mem ⟨hV1, hS.hm.hc, hS.hm.hd, hG1.w32 hS.hm.u⟩, ⟨Nat.le_refl _, Nat.le_refl _, Nat.le_refl _⟩, rfl⟩
  intro hbr
  have hbr := of_decide_eq_false hbr
  refine g_seq ?_
  refine g_region ?_
  refine l_eql rfl rfl rfl ?_
  refine l_assign rfl rfl ?_
  refine l_nil ?_
  refine g_cond rfl ?_ ?_
  · intro hbr
    have hbr := of_decide_eq_true hbr
    refine g_seq ?_
    refine gp_start mo (by kernel_rfl) (by kernel_rfl) ?_
    refine gp_quiet 0 rfl rfl rfl rfl rfl rfl (q_move rfl) ?_
    refine gp_quiet 1 rfl rfl rfl rfl rfl rfl (q_nilCheck rfl) ?_
    refine gp_quiet 2 rfl rfl rfl rfl rfl rfl (q_fieldAddr fa_63_0 rfl) ?_
    refine gp_quiet 3 rfl rfl rfl rfl rfl rfl (q_ld Try.isAgg24 rfl rfl) ?_
    refine gp_quiet 4 rfl rfl rfl rfl rfl rfl (q_fieldAddr fa_53_2 rfl) ?_
    first | refine gp_quiet 5 rfl rfl rfl rfl rfl rfl (q_ld Try.isAgg3 rfl rfl) ?_ | refine gp_quiet 5 rfl rfl rfl rfl rfl rfl (q_ldw Try.isAgg3 rfl (by omega)) ?_
    refine gp_take (Own 51 1 (.slice (some ⟨S.m.g, 0, none⟩) 32 S.m.c) 32 (ints .u32 S.m.W)) ?_
    refine gp_take (Blk S.m.x (.cells [Value.slice (some ⟨S.m.g, 0, none⟩) 32 S.m.c].toArray 81 (0, 0))) ?_
    refine gp_effa 6 [3, 5] [4, 2, 1, 0] rfl rfl rfl rfl rfl rfl rfl (does_call Try.call15 rfl (lwait_ok _ _ S.m.x S.m.g 32 S.m.c S.m.W hS.hm.len hS.hm.hc (by omega) oa oa0 oa1)) ?_
    rintro _ _ ⟨k1, y1, e1, rfl, rfl, hG1⟩
    refine ⟨?_, ?_⟩
    · refine .cons rfl rfl rfl rfl rfl (q_fieldAddr fa_53_2 rfl) ?_
      refine .cons rfl rfl rfl rfl rfl (q_fieldAddr fa_63_0 rfl) ?_
      refine .cons rfl rfl rfl rfl rfl (q_nilCheck rfl) ?_
      refine .cons rfl rfl rfl rfl rfl (q_move rfl) ?_
      exact .nil
    refine gp_quiet 7 rfl rfl rfl rfl rfl rfl (q_move rfl) ?_
    refine gp_quiet 8 rfl rfl rfl rfl rfl rfl (q_extract rfl rfl) ?_
    refine gp_quiet 9 rfl rfl rfl rfl rfl rfl (q_extract rfl rfl) ?_
    refine gp_quiet 10 rfl rfl rfl rfl rfl rfl (q_assign rfl) ?_
    refine gp_quiet 11 rfl rfl rfl rfl rfl rfl (q_assign rfl) ?_
    refine gp_end rfl rfl ?_
    refine g_seq ?_
    refine gp_start mo (by kernel_rfl) (by kernel_rfl) ?_
    refine gp_quiet 0 rfl rfl rfl rfl rfl rfl (q_move rfl) ?_
    refine gp_quiet 1 rfl rfl rfl rfl rfl rfl (q_nilCheck rfl) ?_
    refine gp_quiet 2 rfl rfl rfl rfl rfl rfl (q_fieldAddr fa_63_1 rfl) ?_
    refine gp_quiet 3 rfl rfl rfl rfl rfl rfl (q_ld Try.isAgg56 rfl rfl) ?_
    refine gp_quiet 4 rfl rfl rfl rfl rfl rfl (q_fieldAddr fa_53_2 rfl) ?_
    first | refine gp_quiet 5 rfl rfl rfl rfl rfl rfl (q_ld Try.isAgg3 rfl rfl) ?_ | refine gp_quiet 5 rfl rfl rfl rfl rfl rfl (q_ldw Try.isAgg3 rfl (by omega)) ?_
    refine gp_take (Own 51 1 (.slice (some ⟨S.m.h, 0, none⟩) 32 S.m.d) 32 (ints .u32 S.m.W)) ?_
    refine gp_take (Blk S.m.y (.cells [Value.slice (some ⟨S.m.h, 0, none⟩) 32 S.m.d].toArray 67 (0, 0))) ?_
    refine gp_effa 6 [3, 5] [4, 2, 1, 0] rfl rfl rfl rfl rfl rfl rfl (does_call Try.call43 rfl (rlwait_ok _ _ S.m.y S.m.h 32 S.m.d S.m.W hS.hm.len hS.hm.hd (by omega) oa oa0 oa1)) ?_
    rintro _ _ ⟨k2, y2, e2, rfl, rfl, hG2⟩
    obtain ⟨rfl, rfl, rfl⟩ := hG1.same hG2
    refine ⟨?_, ?_⟩
    · refine .cons rfl rfl rfl rfl rfl (q_fieldAddr fa_53_2 rfl) ?_
      refine .cons rfl rfl rfl rfl rfl (q_fieldAddr fa_63_1 rfl) ?_
      refine .cons rfl rfl rfl rfl rfl (q_nilCheck rfl) ?_
      refine .cons rfl rfl rfl rfl rfl (q_move rfl) ?_
      exact .nil
    refine gp_quiet 7 rfl rfl rfl rfl rfl rfl (q_move rfl) ?_
    refine gp_quiet 8 rfl rfl rfl rfl rfl rfl (q_extract rfl rfl) ?_
    refine gp_quiet 9 rfl rfl rfl rfl rfl rfl (q_extract rfl rfl) ?_
    refine gp_quiet 10 rfl rfl rfl rfl rfl rfl (q_assign rfl) ?_
    refine gp_quiet 11 rfl rfl rfl rfl rfl rfl (q_assign rfl) ?_
    refine gp_end rfl rfl ?_
    refine g_seq ?_
    refine g_region ?_
    refine l_move rfl rfl ?_
    refine l_move rfl rfl ?_
    refine l_eql rfl rfl rfl ?_
    refine l_move rfl rfl ?_
    refine l_split 135 rfl ?_ ?_
    · intro hbr
      have hbr := of_decide_eq_true hbr
      refine l_guard_yes rfl rfl ?_
      refine l_move rfl rfl ?_
      refine l_guard_yes rfl rfl ?_
      refine l_move rfl rfl ?_
      refine l_guard_yes rfl rfl ?_
      refine l_eql rfl rfl rfl ?_
      refine l_pick_t rfl rfl rfl ?_
      refine l_assign rfl rfl ?_
      refine l_nil ?_
      refine g_take (Own 51 1 (.slice (some ⟨S.m.h, 0, none⟩) 32 S.m.d) 32 (ints .u32 S.m.W)) ?_
      refine g_take (Blk S.m.y (.cells [Value.slice (some ⟨S.m.h, 0, none⟩) 32 S.m.d].toArray 67 (0, 0))) ?_
      refine g_take (Own 51 1 (.slice (some ⟨S.m.g, 0, none⟩) 32 S.m.c) 32 (ints .u32 S.m.W)) ?_
      refine g_take (Blk S.m.x (.cells [Value.slice (some ⟨S.m.g, 0, none⟩) 32 S.m.c].toArray 81 (0, 0))) ?_
      refine g_closem S.m.W ?_
      refine g_ret Try.func18 rfl (.tmp rfl .nil) ?_
      exact Gives.mki ⟨⟨⟨S.m.x, S.m.g, S.m.c, S.m.y, S.m.h, S.m.d, S.m.W⟩, S.p, S.N, S.C, S.la, S.lc, S.K, S.B, S.ka, S.kc⟩, (by first | rfl | exact congrArg Value.bool (decide_eq_true rfl) | (simp [resVal]; done)), hS.mem hS.hm, ⟨Nat.le_refl _, Nat.le_refl _, Nat.le_refl _⟩, rfl⟩
    · intro hbr
      have hbr := of_decide_eq_false hbr
      (exfalso; first | omega | (simp at hbr; done))
  intro hbr
  have hbr := of_decide_eq_false hbr
  refine g_skip ?_
  refine g_inBlock ?_
  refine g_seq ?_
  refine gp_start mo (by kernel_rfl) (by kernel_rfl) ?_
  refine gp_quiet 0 rfl rfl rfl rfl rfl rfl (q_move rfl) ?_
  refine gp_quiet 1 rfl rfl rfl rfl rfl rfl (q_nilCheck rfl) ?_
  refine gp_quiet 2 rfl rfl rfl rfl rfl rfl (q_fieldAddr fa_63_0 rfl) ?_
  refine gp_quiet 3 rfl rfl rfl rfl rfl rfl (q_ld Try.isAgg24 rfl rfl) ?_
  refine gp_quiet 4 rfl rfl rfl rfl rfl rfl (q_fieldAddr fa_53_2 rfl) ?_
  first | refine gp_quiet 5 rfl rfl rfl rfl rfl rfl (q_ld Try.isAgg3 rfl rfl) ?_ | refine gp_quiet 5 rfl rfl rfl rfl rfl rfl (q_ldw Try.isAgg3 rfl (by omega)) ?_
  refine gp_quiet 6 rfl rfl rfl rfl rfl rfl (q_fieldAddr fa_53_5 rfl) ?_
  first | refine gp_quiet 7 rfl rfl rfl rfl rfl rfl (q_ld Try.isAgg51 rfl rfl) ?_ | refine gp_quiet 7 rfl rfl rfl rfl rfl rfl (q_ldw Try.isAgg51 rfl (by omega)) ?_
  refine gp_take (Own 51 1 (.slice (some ⟨S.m.g, 0, none⟩) 32 S.m.c) 32 (ints .u32 S.m.W)) ?_
  refine gp_take (Blk S.m.x (.cells [Value.slice (some ⟨S.m.g, 0, none⟩) 32 S.m.c].toArray 81 (0, 0))) ?_
  refine gp_effa 8 [3, 5, 7] [6, 4, 2, 1, 0] rfl rfl rfl rfl rfl rfl rfl (does_call Try.call44 rfl (write_any _ _ S.m.x S.m.g 32 S.m.c S.m.W hS.hm.len hS.hm.hc (by omega) oa oa0 oa1 ox)) ?_
  rintro _ _ ⟨rfl, rfl⟩
  refine ⟨?_, ?_⟩
  · refine .cons rfl rfl rfl rfl rfl (q_fieldAddr fa_53_5 rfl) ?_
    refine .cons rfl rfl rfl rfl rfl (q_fieldAddr fa_53_2 rfl) ?_
    refine .cons rfl rfl rfl rfl rfl (q_fieldAddr fa_63_0 rfl) ?_
    refine .cons rfl rfl rfl rfl rfl (q_nilCheck rfl) ?_
    refine .cons rfl rfl rfl rfl rfl (q_move rfl) ?_
    exact .nil
  refine gp_quiet 9 rfl rfl rfl rfl rfl rfl (q_assign rfl) ?_
  refine gp_end rfl rfl ?_
  refine g_seq ?_
  refine gp_start mo (by kernel_rfl) (by kernel_rfl) ?_
  refine gp_quiet 0 rfl rfl rfl rfl rfl rfl (q_move rfl) ?_
  refine gp_quiet 1 rfl rfl rfl rfl rfl rfl (q_nilCheck rfl) ?_
  refine gp_quiet 2 rfl rfl rfl rfl rfl rfl (q_fieldAddr fa_63_1 rfl) ?_
  refine gp_quiet 3 rfl rfl rfl rfl rfl rfl (q_ld Try.isAgg56 rfl rfl) ?_
  refine gp_quiet 4 rfl rfl rfl rfl rfl rfl (q_fieldAddr fa_53_2 rfl) ?_
  first | refine gp_quiet 5 rfl rfl rfl rfl rfl rfl (q_ld Try.isAgg3 rfl rfl) ?_ | refine gp_quiet 5 rfl rfl rfl rfl rfl rfl (q_ldw Try.isAgg3 rfl (by omega)) ?_
  refine gp_quiet 6 rfl rfl rfl rfl rfl rfl (q_fieldAddr fa_53_5 rfl) ?_
  first | refine gp_quiet 7 rfl rfl rfl rfl rfl rfl (q_ld Try.isAgg51 rfl rfl) ?_ | refine gp_quiet 7 rfl rfl rfl rfl rfl rfl (q_ldw Try.isAgg51 rfl (by omega)) ?_
  refine gp_take (Own 51 1 (.slice (some ⟨S.m.h, 0, none⟩) 32 S.m.d) 32 (ints .u32 S.m.W)) ?_
  refine gp_take (Blk S.m.y (.cells [Value.slice (some ⟨S.m.h, 0, none⟩) 32 S.m.d].toArray 67 (0, 0))) ?_
  refine gp_effa 8 [3, 5, 7] [6, 4, 2, 1, 0] rfl rfl rfl rfl rfl rfl rfl (does_call Try.call45 rfl (rwrite_any _ _ S.m.y S.m.h 32 S.m.d S.m.W hS.hm.len hS.hm.hd (by omega) oa oa0 oa1 ox)) ?_
  rintro _ _ ⟨rfl, rfl⟩
  refine ⟨?_, ?_⟩
  · refine .cons rfl rfl rfl rfl rfl (q_fieldAddr fa_53_5 rfl) ?_
    refine .cons rfl rfl rfl rfl rfl (q_fieldAddr fa_53_2 rfl) ?_
    refine .cons rfl rfl rfl rfl rfl (q_fieldAddr fa_63_1 rfl) ?_
    refine .cons rfl rfl rfl rfl rfl (q_nilCheck rfl) ?_
    refine .cons rfl rfl rfl rfl rfl (q_move rfl) ?_
    exact .nil
  refine gp_quiet 9 rfl rfl rfl rfl rfl rfl (q_assign rfl) ?_
  refine gp_end rfl rfl ?_
  refine g_seq ?_
  refine g_region ?_
  refine l_move rfl rfl ?_
  refine l_move rfl rfl ?_
  refine l_eql rfl rfl rfl ?_
  refine l_assign rfl rfl ?_
  refine l_nil ?_
  refine g_take (Own 51 1 (.slice (some ⟨S.m.h, 0, none⟩) 32 S.m.d) 32 (ints .u32 (wrW S.m.W 32 oa ox))) ?_
  refine g_take (Blk S.m.y (.cells [Value.slice (some ⟨S.m.h, 0, none⟩) 32 S.m.d].toArray 67 (0, 0))) ?_
  refine g_take (Own 51 1 (.slice (some ⟨S.m.g, 0, none⟩) 32 S.m.c) 32 (ints .u32 (wrW S.m.W 32 oa ox))) ?_
  refine g_take (Blk S.m.x (.cells [Value.slice (some ⟨S.m.g, 0, none⟩) 32 S.m.c].toArray 81 (0, 0))) ?_
  refine g_closem (wrW S.m.W 32 oa ox) ?_
  refine g_ret Try.func18 rfl (.tmp rfl .nil) ?_
  exact Gives.mki ⟨⟨⟨S.m.x, S.m.g, S.m.c, S.m.y, S.m.h, S.m.d, (wrW S.m.W 32 oa ox)⟩, S.p, S.N, S.C, S.la, S.lc, S.K, S.B, S.ka, S.kc⟩, (by first | rfl | exact congrArg Value.bool (decide_eq_true rfl) | (simp [resVal]; done)), hS.mem ⟨(wr_ok hS.hm.len hS.hm.u oa ox ox0 ox1).1, hS.hm.hc, hS.hm.hd, (wr_ok hS.hm.len hS.hm.u oa ox ox0 ox1).2⟩, ⟨Nat.le_refl _, Nat.le_refl _, Nat.le_refl _⟩, rfl⟩
end Go.Proofs.Ythemlddepepekaa.Fw
