import Derived.Test.YthemlddepepekaaWorld
namespace Go.Proofs.Ythemlddepepekaa.Fw
open Go Go.Proofs
set_option linter.unusedVariables false
set_option linter.unusedSimpArgs false
set_option maxRecDepth 10000
theorem fa_53_0 (a : Addr) (w : World) : (Instr.fieldAt 53 (.pointer (some a)) 0).run Try.prog w = .ok (.pointer (some (a.add 0))) w := by
  simp [Instr.fieldAt, Try.runUnderlying53, Instr.sureAddr, fieldPlace, Try.sizeOf3, Sem.run_bind, Sem.run_pure]
theorem fa_95_0 (a : Addr) (w : World) : (Instr.fieldAt 95 (.pointer (some a)) 0).run Try.prog w = .ok (.pointer (some (a.add 0))) w := by
  simp [Instr.fieldAt, Try.runUnderlying95, Instr.sureAddr, fieldPlace, Try.sizeOf28, Sem.run_bind, Sem.run_pure]
theorem fa_63_0 (a : Addr) (w : World) : (Instr.fieldAt 63 (.pointer (some a)) 0).run Try.prog w = .ok (.pointer (some (a.add 0))) w := by
  simp [Instr.fieldAt, Try.runUnderlying63, Instr.sureAddr, fieldPlace, Try.sizeOf24, Sem.run_bind, Sem.run_pure]
theorem fa_95_1 (a : Addr) (w : World) : (Instr.fieldAt 95 (.pointer (some a)) 1).run Try.prog w = .ok (.pointer (some (a.add 1))) w := by
  simp [Instr.fieldAt, Try.runUnderlying95, Instr.sureAddr, fieldPlace, Try.sizeOf93, Sem.run_bind, Sem.run_pure]
theorem fa_63_1 (a : Addr) (w : World) : (Instr.fieldAt 63 (.pointer (some a)) 1).run Try.prog w = .ok (.pointer (some (a.add 1))) w := by
  simp [Instr.fieldAt, Try.runUnderlying63, Instr.sureAddr, fieldPlace, Try.sizeOf56, Sem.run_bind, Sem.run_pure]
theorem fa_63_5 (a : Addr) (w : World) : (Instr.fieldAt 63 (.pointer (some a)) 5).run Try.prog w = .ok (.pointer (some (a.add 5))) w := by
  simp [Instr.fieldAt, Try.runUnderlying63, Instr.sureAddr, fieldPlace, Try.sizeOf61, Sem.run_bind, Sem.run_pure]
theorem fa_63_4 (a : Addr) (w : World) : (Instr.fieldAt 63 (.pointer (some a)) 4).run Try.prog w = .ok (.pointer (some (a.add 4))) w := by
  simp [Instr.fieldAt, Try.runUnderlying63, Instr.sureAddr, fieldPlace, Try.sizeOf57, Sem.run_bind, Sem.run_pure]
theorem fa_53_1 (a : Addr) (w : World) : (Instr.fieldAt 53 (.pointer (some a)) 1).run Try.prog w = .ok (.pointer (some (a.add 1))) w := by
  simp [Instr.fieldAt, Try.runUnderlying53, Instr.sureAddr, fieldPlace, Try.sizeOf3, Sem.run_bind, Sem.run_pure]
set_option maxHeartbeats 16000000 in
theorem does_ok17 (w0 : World) (F : List Atom) (wb : Nat) (S : WS) (hS : SOk S) (hN : S.N ≤ 1099511627776) (hK : S.K ≤ 1099511627000) (hN1 : 1 ≤ S.N) (kd : Int) (kd0 : -9223372036854775808 ≤ kd) (kd1 : kd ≤ 9223372036854775807) (who : Int) (who0 : -9223372036854775808 ≤ who) (who1 : who ≤ 9223372036854775807) (oa : Int) (oa0 : -9223372036854775808 ≤ oa) (oa1 : oa ≤ 9223372036854775807) (ob : Int) (ob0 : -9223372036854775808 ≤ ob) (ob1 : ob ≤ 9223372036854775807) (oq : Bool) (ox : Int) (ox0 : 0 ≤ ox) (ox1 : ox ≤ 4294967295) (ga : Option Addr) (gc : Nat) (G : List Int) (hsg : G.length ≤ 2147483647) (hG : RA w0 F .i64 ga G.length gc G) (hGb : I64s G) (sa : Option Addr) (sc : Nat) (Y : List Int) (hsn : Y.length ≤ 2147483647) (hY : RA w0 F .u32 sa Y.length sc Y) (hYU : W32s Y) :
    CallK Try.prog 20 [.pointer (some ⟨wb, 0, none⟩), .agg [Value.int .i64 kd, .int .i64 who, .int .i64 oa, .int .i64 ob, .bool oq, .int .u32 ox, .slice ga G.length gc, .slice sa Y.length sc].toArray] w0 (Blk wb (.cells [Value.pointer (some ⟨S.m.x, 0, none⟩), .pointer (some ⟨S.m.y, 0, none⟩), .pointer (some ⟨S.p.x, 0, none⟩), .pointer (some ⟨S.p.y, 0, none⟩), .slice S.la S.N S.lc, .slice S.ka S.K S.kc, .slice none 0 0].toArray 63 (0, 0)) :: mpA S.m :: mpA S.p :: Own 95 2 (.slice S.la S.N S.lc) S.N (rowsN S.N (fun j => chR (S.C j))) :: BigF S.N (fun j => chA (S.C j)) :: Own 111 4 (.slice S.ka S.K S.kc) S.K (rowsN S.K (fun j => bkR (S.B j))) :: BigF S.K (fun j => bkA (S.B j)) :: F) (Gives w0 fun v F2 => ∃ S' : WS, v = .bool true ∧ SOk S' ∧ (S.N ≤ S'.N ∧ S'.N ≤ S.N + 0 ∧ S'.K ≤ S.K + 2) ∧ F2 = Blk wb (.cells [Value.pointer (some ⟨S'.m.x, 0, none⟩), .pointer (some ⟨S'.m.y, 0, none⟩), .pointer (some ⟨S'.p.x, 0, none⟩), .pointer (some ⟨S'.p.y, 0, none⟩), .slice S'.la S'.N S'.lc, .slice S'.ka S'.K S'.kc, .slice none 0 0].toArray 63 (0, 0)) :: mpA S'.m :: mpA S'.p :: Own 95 2 (.slice S'.la S'.N S'.lc) S'.N (rowsN S'.N (fun j => chR (S'.C j))) :: BigF S'.N (fun j => chA (S'.C j)) :: Own 111 4 (.slice S'.ka S'.K S'.kc) S'.K (rowsN S'.K (fun j => bkR (S'.B j))) :: BigF S'.K (fun j => bkA (S'.B j)) :: F) := by
  obtain ⟨i, hi⟩ : ∃ q : Nat, pk who (S.N : Int) = (q : Int) := ⟨(pk who (S.N : Int)).toNat, by have := pk_lt who (n := (S.N : Int)) (by omega); omega⟩
  have hiN : i < S.N := by have := pk_lt who (n := (S.N : Int)) (by omega); omega
  obtain ⟨c, hc⟩ : ∃ q, S.C i = q := ⟨_, rfl⟩
  have hco := hS.hC i hiN
  rw [hc] at hco
  obtain ⟨gl, hgl⟩ := hS.hla.resolve_left (by omega)
  refine c_enter Try.func20 rfl rfl rfl ?_
  refine g_seq ?_
  refine g_join (X := Nat × Nat) [(0, _)] (.cons rfl (.nil)) (fun z => True) (fun z => [(3, .pointer (some ⟨z.1, 0, none⟩)), (5, .pointer (some ⟨z.2, 0, none⟩))]) (fun z => Blk z.2 (.cells [Value.pointer (some ⟨c.b, 0, none⟩), .pointer (some ⟨c.b2, 0, none⟩)].toArray 95 (0, 0)) :: Blk z.1 (.cells [Value.int .i64 kd, .int .i64 who, .int .i64 oa, .int .i64 ob, .bool oq, .int .u32 ox, .slice ga G.length gc, .slice sa Y.length sc].toArray 53 (0, 0)) :: Blk wb (.cells [Value.pointer (some ⟨S.m.x, 0, none⟩), .pointer (some ⟨S.m.y, 0, none⟩), .pointer (some ⟨S.p.x, 0, none⟩), .pointer (some ⟨S.p.y, 0, none⟩), .slice S.la S.N S.lc, .slice S.ka S.K S.kc, .slice none 0 0].toArray 63 (0, 0)) :: mpA S.m :: mpA S.p :: Own 95 2 (.slice S.la S.N S.lc) S.N (rowsN S.N (fun j => chR (S.C j))) :: BigF S.N (fun j => chA (S.C j)) :: Own 111 4 (.slice S.ka S.K S.kc) S.K (rowsN S.K (fun j => bkR (S.B j))) :: BigF S.K (fun j => bkA (S.B j)) :: F) ?_ ?_
  · rintro ⟨b3, b5⟩ _
    dsimp only [List.cons_append, List.nil_append]
    refine g_seq ?_
    refine g_seq ?_
    refine g_region ?_
    refine l_take (BigF S.N (fun j => chA (S.C j))) ?_
    refine l_openc hiN hc ?_
    refine l_take (mpA S.m) ?_
    refine l_openm ?_
    refine l_fieldAddr rfl fa_53_0 rfl ?_
    first | refine l_ld rfl Try.isAgg3 rfl rfl ?_ | refine l_ldw rfl Try.isAgg3 rfl (by omega) ?_
    refine l_nil ?_
    refine g_block ?_
    refine g_seq ?_
    refine g_region ?_
    refine l_eql rfl rfl rfl ?_
    refine l_assign rfl rfl ?_
    refine l_nil ?_
    refine g_cond rfl ?_ ?_
    · intro hbr
      have hbr := of_decide_eq_true hbr
      refine g_seq ?_
      refine gp_start mo (by kernel_rfl) (by kernel_rfl) ?_
      refine gp_quiet 0 rfl rfl rfl rfl rfl rfl (q_fieldAddr fa_95_0 rfl) ?_
      refine gp_quiet 1 rfl rfl rfl rfl rfl rfl (q_ld Try.isAgg28 rfl rfl) ?_
      refine gp_quiet 2 rfl rfl rfl rfl rfl rfl (q_move rfl) ?_
      refine gp_quiet 3 rfl rfl rfl rfl rfl rfl (q_nilCheck rfl) ?_
      refine gp_quiet 4 rfl rfl rfl rfl rfl rfl (q_fieldAddr fa_63_0 rfl) ?_
      refine gp_quiet 5 rfl rfl rfl rfl rfl rfl (q_ld Try.isAgg24 rfl rfl) ?_
      refine gp_take (Own 51 1 (.slice c.tt c.T.length c.ct) c.T.length (ints .u32 c.T)) ?_
      refine gp_take (Own 3 1 (.slice c.al c.L.length c.cl) c.L.length (ints .i64 c.L)) ?_
      refine gp_take (Blk c.b (.cells [Value.slice c.al c.L.length c.cl, .int .i64 c.h, .bool c.q, .slice c.tt c.T.length c.ct].toArray 84 (0, 0))) ?_
      refine gp_take (Own 51 1 (.slice (some ⟨S.m.g, 0, none⟩) 32 S.m.c) 32 (ints .u32 S.m.W)) ?_
      refine gp_take (Blk S.m.x (.cells [Value.slice (some ⟨S.m.g, 0, none⟩) 32 S.m.c].toArray 81 (0, 0))) ?_
      refine gp_effa 6 [1, 5] [4, 3, 2, 0] rfl rfl rfl rfl rfl rfl rfl (does_call Try.call32 rfl (chstep_ok _ _ S.m.x S.m.g 32 S.m.c S.m.W hS.hm.len hS.hm.hc (by omega) c.b c.al c.cl c.L c.h c.q c.tt c.T.length c.ct c.T rfl (by have := hco.len; omega) hco.lb hco.hal hco.htt hco.ok)) ?_
      rintro _ _ ⟨d1, e1, V1, h1, q1, tt1, nt1, ct1, T1, rfl, hV1, rfl, hT1, htt1, hG1⟩
      subst hT1
      refine ⟨?_, ?_⟩
      · refine .cons rfl rfl rfl rfl rfl (q_fieldAddr fa_63_0 rfl) ?_
        refine .cons rfl rfl rfl rfl rfl (q_nilCheck rfl) ?_
        refine .cons rfl rfl rfl rfl rfl (q_move rfl) ?_
        refine .cons rfl rfl rfl rfl rfl (q_fieldAddr fa_95_0 rfl) ?_
        exact .nil
      refine gp_quiet 7 rfl rfl rfl rfl rfl rfl (q_move rfl) ?_
      refine gp_quiet 8 rfl rfl rfl rfl rfl rfl (q_extract rfl rfl) ?_
      refine gp_quiet 9 rfl rfl rfl rfl rfl rfl (q_extract rfl rfl) ?_
      refine gp_quiet 10 rfl rfl rfl rfl rfl rfl (q_assign rfl) ?_
      refine gp_quiet 11 rfl rfl rfl rfl rfl rfl (q_assign rfl) ?_
      refine gp_end rfl rfl ?_
      refine g_seq ?_
      refine gp_start mo (by kernel_rfl) (by kernel_rfl) ?_
      refine gp_quiet 0 rfl rfl rfl rfl rfl rfl (q_fieldAddr fa_95_1 rfl) ?_
      refine gp_quiet 1 rfl rfl rfl rfl rfl rfl (q_ld Try.isAgg93 rfl rfl) ?_
      refine gp_quiet 2 rfl rfl rfl rfl rfl rfl (q_move rfl) ?_
      refine gp_quiet 3 rfl rfl rfl rfl rfl rfl (q_nilCheck rfl) ?_
      refine gp_quiet 4 rfl rfl rfl rfl rfl rfl (q_fieldAddr fa_63_1 rfl) ?_
      refine gp_quiet 5 rfl rfl rfl rfl rfl rfl (q_ld Try.isAgg56 rfl rfl) ?_
      refine gp_take (Own 51 1 (.slice c.tt2 c.T.length c.ct2) c.T.length (ints .u32 c.T)) ?_
      refine gp_take (Own 3 1 (.slice c.al2 c.L.length c.cl2) c.L.length (ints .i64 c.L)) ?_
      refine gp_take (Blk c.b2 (.cells [Value.slice c.al2 c.L.length c.cl2, .int .i64 c.h, .bool c.q, .slice c.tt2 c.T.length c.ct2].toArray 104 (0, 0))) ?_
      refine gp_take (Own 51 1 (.slice (some ⟨S.m.h, 0, none⟩) 32 S.m.d) 32 (ints .u32 S.m.W)) ?_
      refine gp_take (Blk S.m.y (.cells [Value.slice (some ⟨S.m.h, 0, none⟩) 32 S.m.d].toArray 67 (0, 0))) ?_
      refine gp_effa 6 [1, 5] [4, 3, 2, 0] rfl rfl rfl rfl rfl rfl rfl (does_call Try.call53 rfl (rchstep_ok _ _ S.m.y S.m.h 32 S.m.d S.m.W hS.hm.len hS.hm.hd (by omega) c.b2 c.al2 c.cl2 c.L c.h c.q c.tt2 c.T.length c.ct2 c.T rfl (by have := hco.len; omega) hco.lb hco.hal2 hco.htt2 hco.ok)) ?_
      rintro _ _ ⟨d2, e2, V2, h2, q2, tt2, nt2, ct2, T2, rfl, hV2, rfl, hT2, htt2, hG2⟩
      subst hT2
      obtain ⟨rfl, rfl, rfl, rfl, rfl, rfl⟩ := hG1.same hG2
      have hok1 := hG1.ok hco.ok
      refine ⟨?_, ?_⟩
      · refine .cons rfl rfl rfl rfl rfl (q_fieldAddr fa_63_1 rfl) ?_
        refine .cons rfl rfl rfl rfl rfl (q_nilCheck rfl) ?_
        refine .cons rfl rfl rfl rfl rfl (q_move rfl) ?_
        refine .cons rfl rfl rfl rfl rfl (q_fieldAddr fa_95_1 rfl) ?_
        exact .nil
      refine gp_quiet 7 rfl rfl rfl rfl rfl rfl (q_move rfl) ?_
      refine gp_quiet 8 rfl rfl rfl rfl rfl rfl (q_extract rfl rfl) ?_
      refine gp_quiet 9 rfl rfl rfl rfl rfl rfl (q_extract rfl rfl) ?_
      refine gp_quiet 10 rfl rfl rfl rfl rfl rfl (q_assign rfl) ?_
      refine gp_quiet 11 rfl rfl rfl rfl rfl rfl (q_assign rfl) ?_
      refine gp_end rfl rfl ?_
      refine g_seq ?_
      refine g_region ?_
      refine l_move rfl rfl ?_
      refine l_move rfl rfl ?_
      refine l_neqb rfl Try.underlying4 rfl rfl ?_
      refine l_move rfl rfl ?_
      refine l_split 67 rfl ?_ ?_
      · intro hbr
        first | (exfalso; simp at hbr; done) | (exfalso; simp at hbr; omega) | (exfalso; first | omega | (simp at hbr; done))
      intro hbr
      have hb67 := hbr
      refine l_guard_yes rfl rfl ?_
      refine l_move rfl rfl ?_
      refine l_guard_yes rfl rfl ?_
      refine l_move rfl rfl ?_
      refine l_guard_yes rfl rfl ?_
      refine l_neq rfl rfl rfl ?_
      refine l_pick_f rfl rfl rfl ?_
      refine l_nil ?_
      refine g_cond rfl ?_ ?_
      · intro hbr
        have hbr := of_decide_eq_true hbr
        (exfalso; first | omega | (simp at hbr; done))
      intro hbr
      have hbr := of_decide_eq_false hbr
      refine g_skip ?_
      refine g_inBlock ?_
      refine g_seq ?_
      refine g_region ?_
      refine l_fieldAddr rfl fa_95_0 rfl ?_
      refine l_ld rfl Try.isAgg28 rfl rfl ?_
      refine l_take (Blk c.b (.cells [Value.slice c.al c.L.length c.cl, .int .i64 h1, .bool q1, .slice tt1 T1.length ct1].toArray 84 (0, 0))) ?_
      refine l_call rfl Try.call10 rfl (chall_ok _ _ c.b c.al c.cl c.L h1 q1 tt1 T1.length ct1 (by have := hco.len; omega) hok1.1 hok1.2.1) ?_; rintro _ _ ⟨rfl, rfl⟩
      refine l_assign rfl rfl ?_
      refine l_nil ?_
      refine g_seq ?_
      refine g_region ?_
      refine l_move rfl rfl ?_
      refine l_fieldAddr rfl fa_95_1 rfl ?_
      refine l_ld rfl Try.isAgg93 rfl rfl ?_
      refine l_take (Blk c.b2 (.cells [Value.slice c.al2 c.L.length c.cl2, .int .i64 h1, .bool q1, .slice tt2 T1.length ct2].toArray 104 (0, 0))) ?_
      refine l_call rfl Try.call56 rfl (rchall_ok _ _ c.b2 c.al2 c.cl2 c.L h1 q1 tt2 T1.length ct2) ?_; rintro _ _ ⟨rfl, rfl⟩
      refine l_eqlb rfl Try.underlying4 rfl rfl ?_
      refine l_assign rfl rfl ?_
      refine l_nil ?_
      refine g_take (BigBut S.N i (fun j => chA (S.C j))) ?_
      refine g_take (Own 51 1 (.slice tt2 T1.length ct2) T1.length (ints .u32 T1)) ?_
      refine g_take (Own 3 1 (.slice c.al2 c.L.length c.cl2) c.L.length (ints .i64 c.L)) ?_
      refine g_take (Blk c.b2 (.cells [Value.slice c.al2 c.L.length c.cl2, .int .i64 h1, .bool q1, .slice tt2 T1.length ct2].toArray 104 (0, 0))) ?_
      refine g_take (Own 51 1 (.slice tt1 T1.length ct1) T1.length (ints .u32 T1)) ?_
      refine g_take (Own 3 1 (.slice c.al c.L.length c.cl) c.L.length (ints .i64 c.L)) ?_
      refine g_take (Blk c.b (.cells [Value.slice c.al c.L.length c.cl, .int .i64 h1, .bool q1, .slice tt1 T1.length ct1].toArray 84 (0, 0))) ?_
      refine g_closec (c := ⟨c.b, c.al, c.cl, tt1, ct1, c.b2, c.al2, c.cl2, tt2, ct2, c.L, h1, q1, T1⟩) ?_
      refine g_take (Own 51 1 (.slice (some ⟨S.m.h, 0, none⟩) 32 S.m.d) 32 (ints .u32 V1)) ?_
      refine g_take (Blk S.m.y (.cells [Value.slice (some ⟨S.m.h, 0, none⟩) 32 S.m.d].toArray 67 (0, 0))) ?_
      refine g_take (Own 51 1 (.slice (some ⟨S.m.g, 0, none⟩) 32 S.m.c) 32 (ints .u32 V1)) ?_
      refine g_take (Blk S.m.x (.cells [Value.slice (some ⟨S.m.g, 0, none⟩) 32 S.m.c].toArray 81 (0, 0))) ?_
      refine g_closem V1 ?_
      rw [ch_rows (i := i) (c := ⟨c.b, c.al, c.cl, tt1, ct1, c.b2, c.al2, c.cl2, tt2, ct2, c.L, h1, q1, T1⟩) (by rw [hc] <;> rfl)]
      refine g_ret Try.func20 rfl (.tmp rfl .nil) ?_
      exact Gives.mki ⟨⟨⟨S.m.x, S.m.g, S.m.c, S.m.y, S.m.h, S.m.d, V1⟩, S.p, S.N, upF S.C i ⟨c.b, c.al, c.cl, tt1, ct1, c.b2, c.al2, c.cl2, tt2, ct2, c.L, h1, q1, T1⟩, S.la, S.lc, S.K, S.B, S.ka, S.kc⟩, (by first | rfl | exact congrArg Value.bool (decide_eq_true rfl) | (simp [resVal]; done)), ((hS.mem (m := ⟨S.m.x, S.m.g, S.m.c, S.m.y, S.m.h, S.m.d, V1⟩) ⟨hV1, hS.hm.hc, hS.hm.hd, (hG1.w32 hS.hm.u hco.u).1⟩).put (i := i) (c := ⟨c.b, c.al, c.cl, tt1, ct1, c.b2, c.al2, c.cl2, tt2, ct2, c.L, h1, q1, T1⟩) ⟨hco.len, hco.lb, hco.hal, htt1, hco.hal2, htt2, hok1, (hG1.w32 hS.hm.u hco.u).2⟩), ⟨Nat.le_refl _, Nat.le_refl _, by simp only; omega⟩, rfl⟩
    intro hbr
    have hbr := of_decide_eq_false hbr
    refine g_seq ?_
    refine g_region ?_
    refine l_eql rfl rfl rfl ?_
    refine l_assign rfl rfl ?_
    refine l_nil ?_
    refine g_cond rfl ?_ ?_
    · intro hbr
      have hbr := of_decide_eq_true hbr
      refine g_seq ?_
      refine gp_start mo (by kernel_rfl) (by kernel_rfl) ?_
      refine gp_quiet 0 rfl rfl rfl rfl rfl rfl (q_fieldAddr fa_95_0 rfl) ?_
      refine gp_quiet 1 rfl rfl rfl rfl rfl rfl (q_ld Try.isAgg28 rfl rfl) ?_
      refine gp_quiet 2 rfl rfl rfl rfl rfl rfl (q_move rfl) ?_
      refine gp_quiet 3 rfl rfl rfl rfl rfl rfl (q_nilCheck rfl) ?_
      refine gp_quiet 4 rfl rfl rfl rfl rfl rfl (q_fieldAddr fa_63_0 rfl) ?_
      refine gp_quiet 5 rfl rfl rfl rfl rfl rfl (q_ld Try.isAgg24 rfl rfl) ?_
      refine gp_take (Own 51 1 (.slice c.tt c.T.length c.ct) c.T.length (ints .u32 c.T)) ?_
      refine gp_take (Own 3 1 (.slice c.al c.L.length c.cl) c.L.length (ints .i64 c.L)) ?_
      refine gp_take (Blk c.b (.cells [Value.slice c.al c.L.length c.cl, .int .i64 c.h, .bool c.q, .slice c.tt c.T.length c.ct].toArray 84 (0, 0))) ?_
      refine gp_take (Own 51 1 (.slice (some ⟨S.m.g, 0, none⟩) 32 S.m.c) 32 (ints .u32 S.m.W)) ?_
      refine gp_take (Blk S.m.x (.cells [Value.slice (some ⟨S.m.g, 0, none⟩) 32 S.m.c].toArray 81 (0, 0))) ?_
      refine gp_effa 6 [1, 5] [4, 3, 2, 0] rfl rfl rfl rfl rfl rfl rfl (does_call Try.call34 rfl (chback_ok _ _ S.m.x S.m.g 32 S.m.c S.m.W hS.hm.len hS.hm.hc (by omega) c.b c.al c.cl c.L c.h c.q c.tt c.T.length c.ct c.T rfl (by have := hco.len; omega) hco.lb hco.hal hco.htt hco.ok)) ?_
      rintro _ _ ⟨d1, e1, V1, h1, q1, tt1, nt1, ct1, T1, rfl, hV1, rfl, hT1, htt1, hG1⟩
      subst hT1
      refine ⟨?_, ?_⟩
      · refine .cons rfl rfl rfl rfl rfl (q_fieldAddr fa_63_0 rfl) ?_
        refine .cons rfl rfl rfl rfl rfl (q_nilCheck rfl) ?_
        refine .cons rfl rfl rfl rfl rfl (q_move rfl) ?_
        refine .cons rfl rfl rfl rfl rfl (q_fieldAddr fa_95_0 rfl) ?_
        exact .nil
      refine gp_quiet 7 rfl rfl rfl rfl rfl rfl (q_move rfl) ?_
      refine gp_quiet 8 rfl rfl rfl rfl rfl rfl (q_extract rfl rfl) ?_
      refine gp_quiet 9 rfl rfl rfl rfl rfl rfl (q_extract rfl rfl) ?_
      refine gp_quiet 10 rfl rfl rfl rfl rfl rfl (q_assign rfl) ?_
      refine gp_quiet 11 rfl rfl rfl rfl rfl rfl (q_assign rfl) ?_
      refine gp_end rfl rfl ?_
      refine g_seq ?_
      refine gp_start mo (by kernel_rfl) (by kernel_rfl) ?_
      refine gp_quiet 0 rfl rfl rfl rfl rfl rfl (q_fieldAddr fa_95_1 rfl) ?_
      refine gp_quiet 1 rfl rfl rfl rfl rfl rfl (q_ld Try.isAgg93 rfl rfl) ?_
      refine gp_quiet 2 rfl rfl rfl rfl rfl rfl (q_move rfl) ?_
      refine gp_quiet 3 rfl rfl rfl rfl rfl rfl (q_nilCheck rfl) ?_
      refine gp_quiet 4 rfl rfl rfl rfl rfl rfl (q_fieldAddr fa_63_1 rfl) ?_
      refine gp_quiet 5 rfl rfl rfl rfl rfl rfl (q_ld Try.isAgg56 rfl rfl) ?_
      refine gp_take (Own 51 1 (.slice c.tt2 c.T.length c.ct2) c.T.length (ints .u32 c.T)) ?_
      refine gp_take (Own 3 1 (.slice c.al2 c.L.length c.cl2) c.L.length (ints .i64 c.L)) ?_
      refine gp_take (Blk c.b2 (.cells [Value.slice c.al2 c.L.length c.cl2, .int .i64 c.h, .bool c.q, .slice c.tt2 c.T.length c.ct2].toArray 104 (0, 0))) ?_
      refine gp_take (Own 51 1 (.slice (some ⟨S.m.h, 0, none⟩) 32 S.m.d) 32 (ints .u32 S.m.W)) ?_
      refine gp_take (Blk S.m.y (.cells [Value.slice (some ⟨S.m.h, 0, none⟩) 32 S.m.d].toArray 67 (0, 0))) ?_
      refine gp_effa 6 [1, 5] [4, 3, 2, 0] rfl rfl rfl rfl rfl rfl rfl (does_call Try.call54 rfl (rchback_ok _ _ S.m.y S.m.h 32 S.m.d S.m.W hS.hm.len hS.hm.hd (by omega) c.b2 c.al2 c.cl2 c.L c.h c.q c.tt2 c.T.length c.ct2 c.T rfl (by have := hco.len; omega) hco.lb hco.hal2 hco.htt2 hco.ok)) ?_
      rintro _ _ ⟨d2, e2, V2, h2, q2, tt2, nt2, ct2, T2, rfl, hV2, rfl, hT2, htt2, hG2⟩
      subst hT2
      obtain ⟨rfl, rfl, rfl, rfl, rfl, rfl⟩ := hG1.same hG2
      have hok1 := hG1.ok hco.ok
      refine ⟨?_, ?_⟩
      · refine .cons rfl rfl rfl rfl rfl (q_fieldAddr fa_63_1 rfl) ?_
        refine .cons rfl rfl rfl rfl rfl (q_nilCheck rfl) ?_
        refine .cons rfl rfl rfl rfl rfl (q_move rfl) ?_
        refine .cons rfl rfl rfl rfl rfl (q_fieldAddr fa_95_1 rfl) ?_
        exact .nil
      refine gp_quiet 7 rfl rfl rfl rfl rfl rfl (q_move rfl) ?_
      refine gp_quiet 8 rfl rfl rfl rfl rfl rfl (q_extract rfl rfl) ?_
      refine gp_quiet 9 rfl rfl rfl rfl rfl rfl (q_extract rfl rfl) ?_
      refine gp_quiet 10 rfl rfl rfl rfl rfl rfl (q_assign rfl) ?_
      refine gp_quiet 11 rfl rfl rfl rfl rfl rfl (q_assign rfl) ?_
      refine gp_end rfl rfl ?_
      refine g_seq ?_
      refine g_region ?_
      refine l_move rfl rfl ?_
      refine l_move rfl rfl ?_
      refine l_neqb rfl Try.underlying4 rfl rfl ?_
      refine l_move rfl rfl ?_
      refine l_split 97 rfl ?_ ?_
      · intro hbr
        first | (exfalso; simp at hbr; done) | (exfalso; simp at hbr; omega) | (exfalso; first | omega | (simp at hbr; done))
      intro hbr
      have hb97 := hbr
      refine l_guard_yes rfl rfl ?_
      refine l_move rfl rfl ?_
      refine l_guard_yes rfl rfl ?_
      refine l_move rfl rfl ?_
      refine l_guard_yes rfl rfl ?_
      refine l_neq rfl rfl rfl ?_
      refine l_pick_f rfl rfl rfl ?_
      refine l_nil ?_
      refine g_cond rfl ?_ ?_
      · intro hbr
        have hbr := of_decide_eq_true hbr
        (exfalso; first | omega | (simp at hbr; done))
      intro hbr
      have hbr := of_decide_eq_false hbr
      refine g_skip ?_
      refine g_inBlock ?_
      refine g_seq ?_
      refine g_region ?_
      refine l_fieldAddr rfl fa_95_0 rfl ?_
      refine l_ld rfl Try.isAgg28 rfl rfl ?_
      refine l_take (Blk c.b (.cells [Value.slice c.al c.L.length c.cl, .int .i64 h1, .bool q1, .slice tt1 T1.length ct1].toArray 84 (0, 0))) ?_
      refine l_call rfl Try.call10 rfl (chall_ok _ _ c.b c.al c.cl c.L h1 q1 tt1 T1.length ct1 (by have := hco.len; omega) hok1.1 hok1.2.1) ?_; rintro _ _ ⟨rfl, rfl⟩
      refine l_assign rfl rfl ?_
      refine l_nil ?_
      refine g_seq ?_
      refine g_region ?_
      refine l_move rfl rfl ?_
      refine l_fieldAddr rfl fa_95_1 rfl ?_
      refine l_ld rfl Try.isAgg93 rfl rfl ?_
      refine l_take (Blk c.b2 (.cells [Value.slice c.al2 c.L.length c.cl2, .int .i64 h1, .bool q1, .slice tt2 T1.length ct2].toArray 104 (0, 0))) ?_
      refine l_call rfl Try.call56 rfl (rchall_ok _ _ c.b2 c.al2 c.cl2 c.L h1 q1 tt2 T1.length ct2) ?_; rintro _ _ ⟨rfl, rfl⟩
      refine l_eqlb rfl Try.underlying4 rfl rfl ?_
      refine l_assign rfl rfl ?_
      refine l_nil ?_
      refine g_take (BigBut S.N i (fun j => chA (S.C j))) ?_
      refine g_take (Own 51 1 (.slice tt2 T1.length ct2) T1.length (ints .u32 T1)) ?_
      refine g_take (Own 3 1 (.slice c.al2 c.L.length c.cl2) c.L.length (ints .i64 c.L)) ?_
      refine g_take (Blk c.b2 (.cells [Value.slice c.al2 c.L.length c.cl2, .int .i64 h1, .bool q1, .slice tt2 T1.length ct2].toArray 104 (0, 0))) ?_
      refine g_take (Own 51 1 (.slice tt1 T1.length ct1) T1.length (ints .u32 T1)) ?_
      refine g_take (Own 3 1 (.slice c.al c.L.length c.cl) c.L.length (ints .i64 c.L)) ?_
      refine g_take (Blk c.b (.cells [Value.slice c.al c.L.length c.cl, .int .i64 h1, .bool q1, .slice tt1 T1.length ct1].toArray 84 (0, 0))) ?_
      refine g_closec (c := ⟨c.b, c.al, c.cl, tt1, ct1, c.b2, c.al2, c.cl2, tt2, ct2, c.L, h1, q1, T1⟩) ?_
      refine g_take (Own 51 1 (.slice (some ⟨S.m.h, 0, none⟩) 32 S.m.d) 32 (ints .u32 V1)) ?_
      refine g_take (Blk S.m.y (.cells [Value.slice (some ⟨S.m.h, 0, none⟩) 32 S.m.d].toArray 67 (0, 0))) ?_
      refine g_take (Own 51 1 (.slice (some ⟨S.m.g, 0, none⟩) 32 S.m.c) 32 (ints .u32 V1)) ?_
      refine g_take (Blk S.m.x (.cells [Value.slice (some ⟨S.m.g, 0, none⟩) 32 S.m.c].toArray 81 (0, 0))) ?_
      refine g_closem V1 ?_
      rw [ch_rows (i := i) (c := ⟨c.b, c.al, c.cl, tt1, ct1, c.b2, c.al2, c.cl2, tt2, ct2, c.L, h1, q1, T1⟩) (by rw [hc] <;> rfl)]
      refine g_ret Try.func20 rfl (.tmp rfl .nil) ?_
      exact Gives.mki ⟨⟨⟨S.m.x, S.m.g, S.m.c, S.m.y, S.m.h, S.m.d, V1⟩, S.p, S.N, upF S.C i ⟨c.b, c.al, c.cl, tt1, ct1, c.b2, c.al2, c.cl2, tt2, ct2, c.L, h1, q1, T1⟩, S.la, S.lc, S.K, S.B, S.ka, S.kc⟩, (by first | rfl | exact congrArg Value.bool (decide_eq_true rfl) | (simp [resVal]; done)), ((hS.mem (m := ⟨S.m.x, S.m.g, S.m.c, S.m.y, S.m.h, S.m.d, V1⟩) ⟨hV1, hS.hm.hc, hS.hm.hd, (hG1.w32 hS.hm.u hco.u).1⟩).put (i := i) (c := ⟨c.b, c.al, c.cl, tt1, ct1, c.b2, c.al2, c.cl2, tt2, ct2, c.L, h1, q1, T1⟩) ⟨hco.len, hco.lb, hco.hal, htt1, hco.hal2, htt2, hok1, (hG1.w32 hS.hm.u hco.u).2⟩), ⟨Nat.le_refl _, Nat.le_refl _, by simp only; omega⟩, rfl⟩
    intro hbr
    have hbr := of_decide_eq_false hbr
    refine g_seq ?_
    refine g_region ?_
    refine l_eql rfl rfl rfl ?_
    refine l_assign rfl rfl ?_
    refine l_nil ?_
    refine g_cond rfl ?_ ?_
    · intro hbr
      have hbr := of_decide_eq_true hbr
      refine g_seq ?_
      refine g_region ?_
      refine l_fieldAddr rfl fa_95_0 rfl ?_
      refine l_ld rfl Try.isAgg28 rfl rfl ?_
      refine l_take (Own 51 1 (.slice c.tt c.T.length c.ct) c.T.length (ints .u32 c.T)) ?_
      refine l_take (Blk c.b (.cells [Value.slice c.al c.L.length c.cl, .int .i64 c.h, .bool c.q, .slice c.tt c.T.length c.ct].toArray 84 (0, 0))) ?_
      refine l_call rfl Try.call14 rfl (chstate_ok _ _ c.b c.al c.cl c.L c.h c.q c.tt c.T.length c.ct c.T rfl (by have := hco.len; have := hco.ok.len; omega)) ?_; rintro _ _ ⟨ta1, tc1, rfl, hta1, rfl⟩
      refine l_move rfl rfl ?_
      refine l_extract rfl rfl rfl ?_
      refine l_extract rfl rfl rfl ?_
      refine l_extract rfl rfl rfl ?_
      refine l_assign rfl rfl ?_
      refine l_assign rfl rfl ?_
      refine l_assign rfl rfl ?_
      refine l_nil ?_
      refine g_seq ?_
      refine g_region ?_
      refine l_fieldAddr rfl fa_95_0 rfl ?_
      refine l_ld rfl Try.isAgg28 rfl rfl ?_
      refine l_take (Own 51 1 (.slice c.tt c.T.length c.ct) c.T.length (ints .u32 c.T)) ?_
      refine l_take (Blk c.b (.cells [Value.slice c.al c.L.length c.cl, .int .i64 c.h, .bool c.q, .slice c.tt c.T.length c.ct].toArray 84 (0, 0))) ?_
      refine l_call rfl Try.call14 rfl (chstate_ok _ _ c.b c.al c.cl c.L c.h c.q c.tt c.T.length c.ct c.T rfl (by have := hco.len; have := hco.ok.len; omega)) ?_; rintro _ _ ⟨ta2, tc2, rfl, hta2, rfl⟩
      refine l_move rfl rfl ?_
      refine l_extract rfl rfl rfl ?_
      refine l_extract rfl rfl rfl ?_
      refine l_extract rfl rfl rfl ?_
      refine l_assign rfl rfl ?_
      refine l_assign rfl rfl ?_
      refine l_assign rfl rfl ?_
      refine l_nil ?_
      refine g_seq ?_
      refine g_region ?_
      refine l_fieldAddr rfl fa_95_1 rfl ?_
      refine l_ld rfl Try.isAgg93 rfl rfl ?_
      refine l_take (Own 51 1 (.slice c.tt2 c.T.length c.ct2) c.T.length (ints .u32 c.T)) ?_
      refine l_take (Blk c.b2 (.cells [Value.slice c.al2 c.L.length c.cl2, .int .i64 c.h, .bool c.q, .slice c.tt2 c.T.length c.ct2].toArray 104 (0, 0))) ?_
      refine l_call rfl Try.call46 rfl (rchstate_ok _ _ c.b2 c.al2 c.cl2 c.L c.h c.q c.tt2 c.T.length c.ct2 c.T rfl (by have := hco.len; have := hco.ok.len; omega)) ?_; rintro _ _ ⟨va, vc, rfl, hva, rfl⟩
      refine l_fact (own_cases (mem_getO 0 rfl)) ?_
      intro hown
      refine l_move rfl rfl ?_
      refine l_extract rfl rfl rfl ?_
      refine l_extract rfl rfl rfl ?_
      refine l_extract rfl rfl rfl ?_
      refine l_assign rfl rfl ?_
      refine l_assign rfl rfl ?_
      refine l_assign rfl rfl ?_
      refine l_nil ?_
      refine g_seq ?_
      refine g_region ?_
      refine l_move rfl rfl ?_
      refine l_nilCheck rfl rfl ?_
      refine l_fieldAddr rfl fa_63_5 rfl ?_
      refine l_move rfl rfl ?_
      refine l_move rfl rfl ?_
      refine l_take (Own 51 1 (.slice ta1 c.T.length tc1) c.T.length (ints .u32 c.T)) ?_
      refine l_take (BigF S.K (fun j => bkA (S.B j))) ?_
      refine l_take (Own 111 4 (.slice S.ka S.K S.kc) S.K (rowsN S.K (fun j => bkR (S.B j)))) ?_
      refine l_take (Blk wb (.cells [Value.pointer (some ⟨S.m.x, 0, none⟩), .pointer (some ⟨S.m.y, 0, none⟩), .pointer (some ⟨S.p.x, 0, none⟩), .pointer (some ⟨S.p.y, 0, none⟩), .slice S.la S.N S.lc, .slice S.ka S.K S.kc, .slice none 0 0].toArray 63 (0, 0))) ?_
      refine l_call rfl Try.call55 rfl (keepw_ok _ _ wb _ _ _ _ _ S.ka S.K S.kc S.B hS.hB (by omega) ta1 va c.T.length tc1 vc c.T rfl (by have := hco.len; have := hco.ok.len; omega) hco.u hta1 (Reads.own (E := 51) hown.1 (hown.2.2.imp id fun ⟨g, c, h, _⟩ => ⟨g, c, h⟩) (by first | exact mem_getO 0 rfl | exact mem_getO 1 rfl | exact mem_getO 2 rfl | exact mem_getO 3 rfl | exact mem_getO 4 rfl | exact mem_getO 5 rfl | exact mem_getO 6 rfl | exact mem_getO 7 rfl | exact mem_getO 8 rfl | exact mem_getO 9 rfl | exact mem_getO 10 rfl | exact mem_getO 11 rfl | exact mem_getO 12 rfl | exact mem_getO 13 rfl | exact mem_getO 14 rfl | exact mem_getO 15 rfl | exact mem_getO 16 rfl | exact mem_getO 17 rfl | exact mem_getO 18 rfl | exact mem_getO 19 rfl | exact mem_getO 20 rfl | exact mem_getO 21 rfl))) ?_; rintro _ _ ⟨B1, ka1, kc1, rfl, hB1, hka1, rfl⟩
      refine l_assign rfl rfl ?_
      refine l_nil ?_
      refine g_seq ?_
      refine g_region ?_
      refine l_move rfl rfl ?_
      refine l_nilCheck rfl rfl ?_
      refine l_fieldAddr rfl fa_63_5 rfl ?_
      refine l_move rfl rfl ?_
      refine l_move rfl rfl ?_
      refine l_take (Own 51 1 (.slice ta2 c.T.length tc2) c.T.length (ints .u32 c.T)) ?_
      refine l_take (BigF (S.K + 1) (fun j => bkA (B1 j))) ?_
      refine l_take (Own 111 4 (.slice ka1 (S.K + 1) kc1) (S.K + 1) (rowsN (S.K + 1) (fun j => bkR (B1 j)))) ?_
      refine l_take (Blk wb (.cells [Value.pointer (some ⟨S.m.x, 0, none⟩), .pointer (some ⟨S.m.y, 0, none⟩), .pointer (some ⟨S.p.x, 0, none⟩), .pointer (some ⟨S.p.y, 0, none⟩), .slice S.la S.N S.lc, .slice ka1 (S.K + 1) kc1, .slice none 0 0].toArray 63 (0, 0))) ?_
      refine l_call rfl Try.call55 rfl (keepw_ok _ _ wb _ _ _ _ _ ka1 (S.K + 1) kc1 B1 hB1 (by omega) ta2 va c.T.length tc2 vc c.T rfl (by have := hco.len; have := hco.ok.len; omega) hco.u hta2 (Reads.own (E := 51) hown.1 (hown.2.2.imp id fun ⟨g, c, h, _⟩ => ⟨g, c, h⟩) (by first | exact mem_getO 0 rfl | exact mem_getO 1 rfl | exact mem_getO 2 rfl | exact mem_getO 3 rfl | exact mem_getO 4 rfl | exact mem_getO 5 rfl | exact mem_getO 6 rfl | exact mem_getO 7 rfl | exact mem_getO 8 rfl | exact mem_getO 9 rfl | exact mem_getO 10 rfl | exact mem_getO 11 rfl | exact mem_getO 12 rfl | exact mem_getO 13 rfl | exact mem_getO 14 rfl | exact mem_getO 15 rfl | exact mem_getO 16 rfl | exact mem_getO 17 rfl | exact mem_getO 18 rfl | exact mem_getO 19 rfl | exact mem_getO 20 rfl | exact mem_getO 21 rfl))) ?_; rintro _ _ ⟨B2, ka2, kc2, rfl, hB2, hka2, rfl⟩
      refine l_assign rfl rfl ?_
      refine l_nil ?_
      refine g_seq ?_
      refine g_region ?_
      refine l_move rfl rfl ?_
      refine l_move rfl rfl ?_
      refine l_guard_yes rfl rfl ?_
      refine l_move rfl rfl ?_
      refine l_pick_t rfl rfl rfl ?_
      refine l_move rfl rfl ?_
      refine l_guard_yes rfl rfl ?_
      refine l_move rfl rfl ?_
      refine l_guard_yes rfl rfl ?_
      refine l_move rfl rfl ?_
      refine l_guard_yes rfl rfl ?_
      refine l_eql rfl rfl rfl ?_
      refine l_pick_t rfl rfl rfl ?_
      refine l_move rfl rfl ?_
      refine l_split 146 rfl ?_ ?_
      · intro hbr
        have hbr := of_decide_eq_true hbr
        refine l_guard_yes rfl rfl ?_
        refine l_move rfl rfl ?_
        refine l_guard_yes rfl rfl ?_
        refine l_move rfl rfl ?_
        refine l_guard_yes rfl rfl ?_
        refine l_eqlb rfl Try.underlying4 rfl rfl ?_
        refine l_pick_t rfl rfl rfl ?_
        refine l_move rfl rfl ?_
        refine l_split 151 rfl ?_ ?_
        · intro hbr
          have hb151 := hbr
          refine l_guard_yes rfl rfl ?_
          refine l_move rfl rfl ?_
          refine l_guard_yes rfl rfl ?_
          refine l_move rfl rfl ?_
          refine l_guard_yes rfl rfl ?_
          refine l_eql rfl rfl rfl ?_
          refine l_pick_t rfl rfl rfl ?_
          refine l_move rfl rfl ?_
          refine l_split 156 rfl ?_ ?_
          · intro hbr
            have hbr := of_decide_eq_true hbr
            refine l_guard_yes rfl rfl ?_
            refine l_move rfl rfl ?_
            refine l_guard_yes rfl rfl ?_
            refine l_move rfl rfl ?_
            refine l_guard_yes rfl rfl ?_
            refine l_eqlb rfl Try.underlying4 rfl rfl ?_
            refine l_pick_t rfl rfl rfl ?_
            refine l_assign rfl rfl ?_
            refine l_nil ?_
            refine g_take (BigBut S.N i (fun j => chA (S.C j))) ?_
            refine g_take (Own 51 1 (.slice c.tt2 c.T.length c.ct2) c.T.length (ints .u32 c.T)) ?_
            refine g_take (Own 3 1 (.slice c.al2 c.L.length c.cl2) c.L.length (ints .i64 c.L)) ?_
            refine g_take (Blk c.b2 (.cells [Value.slice c.al2 c.L.length c.cl2, .int .i64 c.h, .bool c.q, .slice c.tt2 c.T.length c.ct2].toArray 104 (0, 0))) ?_
            refine g_take (Own 51 1 (.slice c.tt c.T.length c.ct) c.T.length (ints .u32 c.T)) ?_
            refine g_take (Own 3 1 (.slice c.al c.L.length c.cl) c.L.length (ints .i64 c.L)) ?_
            refine g_take (Blk c.b (.cells [Value.slice c.al c.L.length c.cl, .int .i64 c.h, .bool c.q, .slice c.tt c.T.length c.ct].toArray 84 (0, 0))) ?_
            refine g_closec (c := ⟨c.b, c.al, c.cl, c.tt, c.ct, c.b2, c.al2, c.cl2, c.tt2, c.ct2, c.L, c.h, c.q, c.T⟩) ?_
            refine g_take (Own 51 1 (.slice (some ⟨S.m.h, 0, none⟩) 32 S.m.d) 32 (ints .u32 S.m.W)) ?_
            refine g_take (Blk S.m.y (.cells [Value.slice (some ⟨S.m.h, 0, none⟩) 32 S.m.d].toArray 67 (0, 0))) ?_
            refine g_take (Own 51 1 (.slice (some ⟨S.m.g, 0, none⟩) 32 S.m.c) 32 (ints .u32 S.m.W)) ?_
            refine g_take (Blk S.m.x (.cells [Value.slice (some ⟨S.m.g, 0, none⟩) 32 S.m.c].toArray 81 (0, 0))) ?_
            refine g_closem S.m.W ?_
            rw [ch_rows (i := i) (c := ⟨c.b, c.al, c.cl, c.tt, c.ct, c.b2, c.al2, c.cl2, c.tt2, c.ct2, c.L, c.h, c.q, c.T⟩) (by rw [hc] <;> rfl)]
            refine g_ret Try.func20 rfl (.tmp rfl .nil) ?_
            exact Gives.mki ⟨⟨⟨S.m.x, S.m.g, S.m.c, S.m.y, S.m.h, S.m.d, S.m.W⟩, S.p, S.N, upF S.C i ⟨c.b, c.al, c.cl, c.tt, c.ct, c.b2, c.al2, c.cl2, c.tt2, c.ct2, c.L, c.h, c.q, c.T⟩, S.la, S.lc, S.K + 1 + 1, B2, ka2, kc2⟩, (by first | rfl | exact congrArg Value.bool (decide_eq_true rfl) | (simp [resVal]; done)), (((hS.mem (m := ⟨S.m.x, S.m.g, S.m.c, S.m.y, S.m.h, S.m.d, S.m.W⟩) hS.hm).put (i := i) (c := ⟨c.b, c.al, c.cl, c.tt, c.ct, c.b2, c.al2, c.cl2, c.tt2, c.ct2, c.L, c.h, c.q, c.T⟩) hco).bk hB2 hka2 kc2), ⟨Nat.le_refl _, Nat.le_refl _, by simp only; omega⟩, rfl⟩
          · intro hbr
            have hbr := of_decide_eq_false hbr
            (exfalso; first | omega | (simp at hbr; done))
        · intro hbr
          first | (exfalso; simp at hbr; done) | (exfalso; simp at hbr; omega) | (exfalso; first | omega | (simp at hbr; done))
      · intro hbr
        have hbr := of_decide_eq_false hbr
        (exfalso; first | omega | (simp at hbr; done))
    intro hbr
    have hbr := of_decide_eq_false hbr
    refine g_skip ?_
    refine g_inBlock ?_
    refine g_seq ?_
    refine g_region ?_
    refine l_fieldAddr rfl fa_95_0 rfl ?_
    refine l_ld rfl Try.isAgg28 rfl rfl ?_
    refine l_take (Blk c.b (.cells [Value.slice c.al c.L.length c.cl, .int .i64 c.h, .bool c.q, .slice c.tt c.T.length c.ct].toArray 84 (0, 0))) ?_
    refine l_call rfl Try.call10 rfl (chall_ok _ _ c.b c.al c.cl c.L c.h c.q c.tt c.T.length c.ct (by have := hco.len; omega) hco.ok.1 hco.ok.2.1) ?_; rintro _ _ ⟨rfl, rfl⟩
    refine l_assign rfl rfl ?_
    refine l_nil ?_
    refine g_seq ?_
    refine g_region ?_
    refine l_move rfl rfl ?_
    refine l_fieldAddr rfl fa_95_1 rfl ?_
    refine l_ld rfl Try.isAgg93 rfl rfl ?_
    refine l_take (Blk c.b2 (.cells [Value.slice c.al2 c.L.length c.cl2, .int .i64 c.h, .bool c.q, .slice c.tt2 c.T.length c.ct2].toArray 104 (0, 0))) ?_
    refine l_call rfl Try.call56 rfl (rchall_ok _ _ c.b2 c.al2 c.cl2 c.L c.h c.q c.tt2 c.T.length c.ct2) ?_; rintro _ _ ⟨rfl, rfl⟩
    refine l_eqlb rfl Try.underlying4 rfl rfl ?_
    refine l_assign rfl rfl ?_
    refine l_nil ?_
    refine g_take (BigBut S.N i (fun j => chA (S.C j))) ?_
    refine g_take (Own 51 1 (.slice c.tt2 c.T.length c.ct2) c.T.length (ints .u32 c.T)) ?_
    refine g_take (Own 3 1 (.slice c.al2 c.L.length c.cl2) c.L.length (ints .i64 c.L)) ?_
    refine g_take (Blk c.b2 (.cells [Value.slice c.al2 c.L.length c.cl2, .int .i64 c.h, .bool c.q, .slice c.tt2 c.T.length c.ct2].toArray 104 (0, 0))) ?_
    refine g_take (Own 51 1 (.slice c.tt c.T.length c.ct) c.T.length (ints .u32 c.T)) ?_
    refine g_take (Own 3 1 (.slice c.al c.L.length c.cl) c.L.length (ints .i64 c.L)) ?_
    refine g_take (Blk c.b (.cells [Value.slice c.al c.L.length c.cl, .int .i64 c.h, .bool c.q, .slice c.tt c.T.length c.ct].toArray 84 (0, 0))) ?_
    refine g_closec (c := ⟨c.b, c.al, c.cl, c.tt, c.ct, c.b2, c.al2, c.cl2, c.tt2, c.ct2, c.L, c.h, c.q, c.T⟩) ?_
    refine g_take (Own 51 1 (.slice (some ⟨S.m.h, 0, none⟩) 32 S.m.d) 32 (ints .u32 S.m.W)) ?_
    refine g_take (Blk S.m.y (.cells [Value.slice (some ⟨S.m.h, 0, none⟩) 32 S.m.d].toArray 67 (0, 0))) ?_
    refine g_take (Own 51 1 (.slice (some ⟨S.m.g, 0, none⟩) 32 S.m.c) 32 (ints .u32 S.m.W)) ?_
    refine g_take (Blk S.m.x (.cells [Value.slice (some ⟨S.m.g, 0, none⟩) 32 S.m.c].toArray 81 (0, 0))) ?_
    refine g_closem S.m.W ?_
    rw [ch_rows (i := i) (c := ⟨c.b, c.al, c.cl, c.tt, c.ct, c.b2, c.al2, c.cl2, c.tt2, c.ct2, c.L, c.h, c.q, c.T⟩) (by rw [hc] <;> rfl)]
    refine g_ret Try.func20 rfl (.tmp rfl .nil) ?_
    exact Gives.mki ⟨⟨⟨S.m.x, S.m.g, S.m.c, S.m.y, S.m.h, S.m.d, S.m.W⟩, S.p, S.N, upF S.C i ⟨c.b, c.al, c.cl, c.tt, c.ct, c.b2, c.al2, c.cl2, c.tt2, c.ct2, c.L, c.h, c.q, c.T⟩, S.la, S.lc, S.K, S.B, S.ka, S.kc⟩, (by first | rfl | exact congrArg Value.bool (decide_eq_true rfl) | (simp [resVal]; done)), ((hS.mem (m := ⟨S.m.x, S.m.g, S.m.c, S.m.y, S.m.h, S.m.d, S.m.W⟩) hS.hm).put (i := i) (c := ⟨c.b, c.al, c.cl, c.tt, c.ct, c.b2, c.al2, c.cl2, c.tt2, c.ct2, c.L, c.h, c.q, c.T⟩) hco), ⟨Nat.le_refl _, Nat.le_refl _, by simp only; omega⟩, rfl⟩
  intro joinJ
  dsimp only [List.cons_append, List.nil_append] at joinJ
  refine g_region ?_
  refine l_boxs rfl rfl ?_; intro b3
  refine l_assign rfl rfl ?_
  refine l_nil ?_
  refine g_seq ?_
  refine gp_start mo (by kernel_rfl) (by kernel_rfl) ?_
  rw [hgl]
  refine gp_quiet 0 rfl rfl rfl rfl rfl rfl (q_move rfl) ?_
  refine gp_quiet 1 rfl rfl rfl rfl rfl rfl (q_nilCheck rfl) ?_
  refine gp_quiet 2 rfl rfl rfl rfl rfl rfl (q_fieldAddr fa_63_4 rfl) ?_
  refine gp_quiet 3 rfl rfl rfl rfl rfl rfl (q_ld Try.isAgg57 rfl rfl) ?_
  refine gp_quiet 4 rfl rfl rfl rfl rfl rfl (q_fieldAddr fa_53_1 rfl) ?_
  first | refine gp_quiet 5 rfl rfl rfl rfl rfl rfl (q_ld Try.isAgg3 rfl rfl) ?_ | refine gp_quiet 5 rfl rfl rfl rfl rfl rfl (q_ldw Try.isAgg3 rfl (by omega)) ?_
  refine gp_quiet 6 rfl rfl rfl rfl rfl rfl (q_move rfl) ?_
  refine gp_quiet 7 rfl rfl rfl rfl rfl rfl (q_nilCheck rfl) ?_
  refine gp_quiet 8 rfl rfl rfl rfl rfl rfl (q_fieldAddr fa_63_4 rfl) ?_
  refine gp_quiet 9 rfl rfl rfl rfl rfl rfl (q_ld Try.isAgg57 rfl rfl) ?_
  refine gp_quiet 10 rfl rfl rfl rfl rfl rfl (q_len Try.underlying57 rfl) ?_
  refine gp_two 11 [5, 10] [9, 8, 7, 6, 4, 3, 2, 1, 0] 14 [] [10, 9, 8, 7, 6, 5, 4, 3, 2, 1, 0] rfl rfl rfl rfl rfl rfl (does_call Try.call12 rfl (pick_ok _ _ who (S.N : Int) (by omega) (by omega) (by omega) (by omega))) (does_allocs Try.zeroValue95) ?_ ?_
  · rintro _ _ ⟨rfl, rfl⟩
    rw [hi]
    refine ⟨?_, ?_⟩
    · refine .cons rfl rfl rfl rfl rfl (q_ld Try.isAgg57 rfl rfl) ?_
      refine .cons rfl rfl rfl rfl rfl (q_fieldAddr fa_63_4 rfl) ?_
      refine .cons rfl rfl rfl rfl rfl (q_nilCheck rfl) ?_
      refine .cons rfl rfl rfl rfl rfl (q_move rfl) ?_
      refine .cons rfl rfl rfl rfl rfl (q_fieldAddr fa_53_1 rfl) ?_
      refine .cons rfl rfl rfl rfl rfl (q_ld Try.isAgg57 rfl rfl) ?_
      refine .cons rfl rfl rfl rfl rfl (q_fieldAddr fa_63_4 rfl) ?_
      refine .cons rfl rfl rfl rfl rfl (q_nilCheck rfl) ?_
      refine .cons rfl rfl rfl rfl rfl (q_move rfl) ?_
      exact .nil
    refine gp_quiet 12 rfl rfl rfl rfl rfl rfl (q_ixs Try.underlying57 Try.sizeOf95 rfl rfl (by omega) (by omega)) ?_
    refine gp_quiet 13 rfl rfl rfl rfl rfl rfl (q_loadr (l := [.pointer (some ⟨c.b, 0, none⟩), .pointer (some ⟨c.b2, 0, none⟩)]) Try.isAgg95 Try.sizeOf95 rfl rfl (ch_row (by first | exact mem_getO 0 rfl | exact mem_getO 1 rfl | exact mem_getO 2 rfl | exact mem_getO 3 rfl | exact mem_getO 4 rfl | exact mem_getO 5 rfl | exact mem_getO 6 rfl | exact mem_getO 7 rfl | exact mem_getO 8 rfl | exact mem_getO 9 rfl | exact mem_getO 10 rfl | exact mem_getO 11 rfl | exact mem_getO 12 rfl | exact mem_getO 13 rfl | exact mem_getO 14 rfl | exact mem_getO 15 rfl | exact mem_getO 16 rfl | exact mem_getO 17 rfl | exact mem_getO 18 rfl | exact mem_getO 19 rfl | exact mem_getO 20 rfl | exact mem_getO 21 rfl) hiN hc)) ?_
    refine gp_eff 14 rfl rfl rfl rfl rfl rfl (does_allocs Try.zeroValue95) ?_
    rintro _ _ ⟨b5, rfl, rfl⟩
    refine ⟨?_, ?_⟩
    · refine .cons rfl rfl rfl rfl rfl (q_loadr (l := [.pointer (some ⟨c.b, 0, none⟩), .pointer (some ⟨c.b2, 0, none⟩)]) Try.isAgg95 Try.sizeOf95 rfl rfl (ch_row (by first | exact mem_getO 0 rfl | exact mem_getO 1 rfl | exact mem_getO 2 rfl | exact mem_getO 3 rfl | exact mem_getO 4 rfl | exact mem_getO 5 rfl | exact mem_getO 6 rfl | exact mem_getO 7 rfl | exact mem_getO 8 rfl | exact mem_getO 9 rfl | exact mem_getO 10 rfl | exact mem_getO 11 rfl | exact mem_getO 12 rfl | exact mem_getO 13 rfl | exact mem_getO 14 rfl | exact mem_getO 15 rfl | exact mem_getO 16 rfl | exact mem_getO 17 rfl | exact mem_getO 18 rfl | exact mem_getO 19 rfl | exact mem_getO 20 rfl | exact mem_getO 21 rfl) hiN hc)) ?_
      refine .cons rfl rfl rfl rfl rfl (q_ixs Try.underlying57 Try.sizeOf95 rfl rfl (by omega) (by omega)) ?_
      refine .cons rfl rfl rfl rfl rfl (q_ld Try.isAgg57 rfl rfl) ?_
      refine .cons rfl rfl rfl rfl rfl (q_fieldAddr fa_63_4 rfl) ?_
      refine .cons rfl rfl rfl rfl rfl (q_nilCheck rfl) ?_
      refine .cons rfl rfl rfl rfl rfl (q_move rfl) ?_
      refine .cons rfl rfl rfl rfl rfl (q_fieldAddr fa_53_1 rfl) ?_
      refine .cons rfl rfl rfl rfl rfl (q_ld Try.isAgg57 rfl rfl) ?_
      refine .cons rfl rfl rfl rfl rfl (q_fieldAddr fa_63_4 rfl) ?_
      refine .cons rfl rfl rfl rfl rfl (q_nilCheck rfl) ?_
      refine .cons rfl rfl rfl rfl rfl (q_move rfl) ?_
      exact .nil
    refine gp_effa 15 [0, 1, 2, 3, 4, 6, 7, 8, 9, 12, 13] [] rfl rfl rfl rfl rfl rfl rfl (does_sts Try.sizeOf95 rfl rfl rfl rfl rfl) ?_
    rintro _ _ ⟨rfl, rfl⟩
    refine ⟨?_, ?_⟩
    · exact .nil
    refine gp_end rfl rfl ?_
    rw [← hgl]
    exact g_againi (joinJ (b3, b5) trivial) (.cons rfl (.cons rfl (.cons rfl (.nil))))
  · rintro _ _ ⟨b5, rfl, rfl⟩
    refine ⟨?_, ?_⟩
    · refine .cons rfl rfl rfl rfl rfl (q_len Try.underlying57 rfl) ?_
      refine .cons rfl rfl rfl rfl rfl (q_ld Try.isAgg57 rfl rfl) ?_
      refine .cons rfl rfl rfl rfl rfl (q_fieldAddr fa_63_4 rfl) ?_
      refine .cons rfl rfl rfl rfl rfl (q_nilCheck rfl) ?_
      refine .cons rfl rfl rfl rfl rfl (q_move rfl) ?_
      first | refine .cons rfl rfl rfl rfl rfl (q_ld Try.isAgg3 rfl rfl) ?_ | refine .cons rfl rfl rfl rfl rfl (q_ldw Try.isAgg3 rfl (by omega)) ?_
      refine .cons rfl rfl rfl rfl rfl (q_fieldAddr fa_53_1 rfl) ?_
      refine .cons rfl rfl rfl rfl rfl (q_ld Try.isAgg57 rfl rfl) ?_
      refine .cons rfl rfl rfl rfl rfl (q_fieldAddr fa_63_4 rfl) ?_
      refine .cons rfl rfl rfl rfl rfl (q_nilCheck rfl) ?_
      refine .cons rfl rfl rfl rfl rfl (q_move rfl) ?_
      exact .nil
    refine gp_effa 11 [5, 10] [9, 8, 7, 6, 4, 3, 2, 1, 0] rfl rfl rfl rfl rfl rfl rfl (does_call Try.call12 rfl (pick_ok _ _ who (S.N : Int) (by omega) (by omega) (by omega) (by omega))) ?_
    rintro _ _ ⟨rfl, rfl⟩
    rw [hi]
    refine ⟨?_, ?_⟩
    · refine .cons rfl rfl rfl rfl rfl (q_ld Try.isAgg57 rfl rfl) ?_
      refine .cons rfl rfl rfl rfl rfl (q_fieldAddr fa_63_4 rfl) ?_
      refine .cons rfl rfl rfl rfl rfl (q_nilCheck rfl) ?_
      refine .cons rfl rfl rfl rfl rfl (q_move rfl) ?_
      refine .cons rfl rfl rfl rfl rfl (q_fieldAddr fa_53_1 rfl) ?_
      refine .cons rfl rfl rfl rfl rfl (q_ld Try.isAgg57 rfl rfl) ?_
      refine .cons rfl rfl rfl rfl rfl (q_fieldAddr fa_63_4 rfl) ?_
      refine .cons rfl rfl rfl rfl rfl (q_nilCheck rfl) ?_
      refine .cons rfl rfl rfl rfl rfl (q_move rfl) ?_
      exact .nil
    refine gp_quiet 12 rfl rfl rfl rfl rfl rfl (q_ixs Try.underlying57 Try.sizeOf95 rfl rfl (by omega) (by omega)) ?_
    refine gp_quiet 13 rfl rfl rfl rfl rfl rfl (q_loadr (l := [.pointer (some ⟨c.b, 0, none⟩), .pointer (some ⟨c.b2, 0, none⟩)]) Try.isAgg95 Try.sizeOf95 rfl rfl (ch_row (by first | exact mem_getO 0 rfl | exact mem_getO 1 rfl | exact mem_getO 2 rfl | exact mem_getO 3 rfl | exact mem_getO 4 rfl | exact mem_getO 5 rfl | exact mem_getO 6 rfl | exact mem_getO 7 rfl | exact mem_getO 8 rfl | exact mem_getO 9 rfl | exact mem_getO 10 rfl | exact mem_getO 11 rfl | exact mem_getO 12 rfl | exact mem_getO 13 rfl | exact mem_getO 14 rfl | exact mem_getO 15 rfl | exact mem_getO 16 rfl | exact mem_getO 17 rfl | exact mem_getO 18 rfl | exact mem_getO 19 rfl | exact mem_getO 20 rfl | exact mem_getO 21 rfl) hiN hc)) ?_
    refine gp_effa 15 [0, 1, 2, 3, 4, 6, 7, 8, 9, 12, 13] [] rfl rfl rfl rfl rfl rfl rfl (does_sts Try.sizeOf95 rfl rfl rfl rfl rfl) ?_
    rintro _ _ ⟨rfl, rfl⟩
    refine ⟨?_, ?_⟩
    · exact .nil
    refine gp_end rfl rfl ?_
    rw [← hgl]
    exact g_againi (joinJ (b3, b5) trivial) (.cons rfl (.cons rfl (.cons rfl (.nil))))
set_option maxHeartbeats 16000000 in
theorem does_step (w0 : World) (F : List Atom) (wb : Nat) (S : WS) (hS : SOk S) (hN : S.N ≤ 1099511627776) (hK : S.K ≤ 1099511627000) (hN1 : 1 ≤ S.N) (kd : Int) (kd0 : -9223372036854775808 ≤ kd) (kd1 : kd ≤ 9223372036854775807) (who : Int) (who0 : -9223372036854775808 ≤ who) (who1 : who ≤ 9223372036854775807) (oa : Int) (oa0 : -9223372036854775808 ≤ oa) (oa1 : oa ≤ 9223372036854775807) (ob : Int) (ob0 : -9223372036854775808 ≤ ob) (ob1 : ob ≤ 9223372036854775807) (oq : Bool) (ox : Int) (ox0 : 0 ≤ ox) (ox1 : ox ≤ 4294967295) (ga : Option Addr) (gc : Nat) (G : List Int) (hsg : G.length ≤ 2147483647) (hG : RA w0 F .i64 ga G.length gc G) (hGb : I64s G) (sa : Option Addr) (sc : Nat) (Y : List Int) (hsn : Y.length ≤ 2147483647) (hY : RA w0 F .u32 sa Y.length sc Y) (hYU : W32s Y) (hk : kd = 6) (j : Nat) (hj : pk who (S.N : Int) = j) :
    CallK Try.prog 20 [.pointer (some ⟨wb, 0, none⟩), .agg [Value.int .i64 kd, .int .i64 who, .int .i64 oa, .int .i64 ob, .bool oq, .int .u32 ox, .slice ga G.length gc, .slice sa Y.length sc].toArray] w0 (Blk wb (.cells [Value.pointer (some ⟨S.m.x, 0, none⟩), .pointer (some ⟨S.m.y, 0, none⟩), .pointer (some ⟨S.p.x, 0, none⟩), .pointer (some ⟨S.p.y, 0, none⟩), .slice S.la S.N S.lc, .slice S.ka S.K S.kc, .slice none 0 0].toArray 63 (0, 0)) :: mpA S.m :: mpA S.p :: Own 95 2 (.slice S.la S.N S.lc) S.N (rowsN S.N (fun j => chR (S.C j))) :: BigF S.N (fun j => chA (S.C j)) :: Own 111 4 (.slice S.ka S.K S.kc) S.K (rowsN S.K (fun j => bkR (S.B j))) :: BigF S.K (fun j => bkA (S.B j)) :: F) (Gives w0 fun v F2 => ∃ S' : WS, v = .bool true ∧ SOk S' ∧ (S'.N = S.N ∧ S'.K = S.K) ∧ (∃ (d : Bool) (e : Int), StepG 32 S.m.W (S.C j).L (S.C j).h (S.C j).q (S.C j).T d e S'.m.W (S'.C j).h (S'.C j).q (S'.C j).T ∧ (S'.C j).L = (S.C j).L) ∧ F2 = Blk wb (.cells [Value.pointer (some ⟨S'.m.x, 0, none⟩), .pointer (some ⟨S'.m.y, 0, none⟩), .pointer (some ⟨S'.p.x, 0, none⟩), .pointer (some ⟨S'.p.y, 0, none⟩), .slice S'.la S'.N S'.lc, .slice S'.ka S'.K S'.kc, .slice none 0 0].toArray 63 (0, 0)) :: mpA S'.m :: mpA S'.p :: Own 95 2 (.slice S'.la S'.N S'.lc) S'.N (rowsN S'.N (fun j => chR (S'.C j))) :: BigF S'.N (fun j => chA (S'.C j)) :: Own 111 4 (.slice S'.ka S'.K S'.kc) S'.K (rowsN S'.K (fun j => bkR (S'.B j))) :: BigF S'.K (fun j => bkA (S'.B j)) :: F) := by
  obtain ⟨i, hi⟩ : ∃ q : Nat, pk who (S.N : Int) = (q : Int) := ⟨(pk who (S.N : Int)).toNat, by have := pk_lt who (n := (S.N : Int)) (by omega); omega⟩
  have hiN : i < S.N := by have := pk_lt who (n := (S.N : Int)) (by omega); omega
  obtain ⟨c, hc⟩ : ∃ q, S.C i = q := ⟨_, rfl⟩
  have hco := hS.hC i hiN
  rw [hc] at hco
  obtain ⟨gl, hgl⟩ := hS.hla.resolve_left (by omega)
  obtain rfl : i = j := by omega
  refine c_enter Try.func20 rfl rfl rfl ?_
  refine g_seq ?_
  refine g_join (X := Nat × Nat) [(0, _)] (.cons rfl (.nil)) (fun z => True) (fun z => [(3, .pointer (some ⟨z.1, 0, none⟩)), (5, .pointer (some ⟨z.2, 0, none⟩))]) (fun z => Blk z.2 (.cells [Value.pointer (some ⟨c.b, 0, none⟩), .pointer (some ⟨c.b2, 0, none⟩)].toArray 95 (0, 0)) :: Blk z.1 (.cells [Value.int .i64 kd, .int .i64 who, .int .i64 oa, .int .i64 ob, .bool oq, .int .u32 ox, .slice ga G.length gc, .slice sa Y.length sc].toArray 53 (0, 0)) :: Blk wb (.cells [Value.pointer (some ⟨S.m.x, 0, none⟩), .pointer (some ⟨S.m.y, 0, none⟩), .pointer (some ⟨S.p.x, 0, none⟩), .pointer (some ⟨S.p.y, 0, none⟩), .slice S.la S.N S.lc, .slice S.ka S.K S.kc, .slice none 0 0].toArray 63 (0, 0)) :: mpA S.m :: mpA S.p :: Own 95 2 (.slice S.la S.N S.lc) S.N (rowsN S.N (fun j => chR (S.C j))) :: BigF S.N (fun j => chA (S.C j)) :: Own 111 4 (.slice S.ka S.K S.kc) S.K (rowsN S.K (fun j => bkR (S.B j))) :: BigF S.K (fun j => bkA (S.B j)) :: F) ?_ ?_
  · rintro ⟨b3, b5⟩ _
    dsimp only [List.cons_append, List.nil_append]
    refine g_seq ?_
    refine g_seq ?_
    refine g_region ?_
    refine l_take (BigF S.N (fun j => chA (S.C j))) ?_
    refine l_openc hiN hc ?_
    refine l_take (mpA S.m) ?_
    refine l_openm ?_
    refine l_fieldAddr rfl fa_53_0 rfl ?_
    first | refine l_ld rfl Try.isAgg3 rfl rfl ?_ | refine l_ldw rfl Try.isAgg3 rfl (by omega) ?_
    refine l_nil ?_
    refine g_block ?_
    refine g_seq ?_
    refine g_region ?_
    refine l_eql rfl rfl rfl ?_
    refine l_assign rfl rfl ?_
    refine l_nil ?_
    refine g_cond rfl ?_ ?_
    · intro hbr
      have hbr := of_decide_eq_true hbr
      refine g_seq ?_
      refine gp_start mo (by kernel_rfl) (by kernel_rfl) ?_
      refine gp_quiet 0 rfl rfl rfl rfl rfl rfl (q_fieldAddr fa_95_0 rfl) ?_
      refine gp_quiet 1 rfl rfl rfl rfl rfl rfl (q_ld Try.isAgg28 rfl rfl) ?_
      refine gp_quiet 2 rfl rfl rfl rfl rfl rfl (q_move rfl) ?_
      refine gp_quiet 3 rfl rfl rfl rfl rfl rfl (q_nilCheck rfl) ?_
      refine gp_quiet 4 rfl rfl rfl rfl rfl rfl (q_fieldAddr fa_63_0 rfl) ?_
      refine gp_quiet 5 rfl rfl rfl rfl rfl rfl (q_ld Try.isAgg24 rfl rfl) ?_
      refine gp_take (Own 51 1 (.slice c.tt c.T.length c.ct) c.T.length (ints .u32 c.T)) ?_
      refine gp_take (Own 3 1 (.slice c.al c.L.length c.cl) c.L.length (ints .i64 c.L)) ?_
      refine gp_take (Blk c.b (.cells [Value.slice c.al c.L.length c.cl, .int .i64 c.h, .bool c.q, .slice c.tt c.T.length c.ct].toArray 84 (0, 0))) ?_
      refine gp_take (Own 51 1 (.slice (some ⟨S.m.g, 0, none⟩) 32 S.m.c) 32 (ints .u32 S.m.W)) ?_
      refine gp_take (Blk S.m.x (.cells [Value.slice (some ⟨S.m.g, 0, none⟩) 32 S.m.c].toArray 81 (0, 0))) ?_
      refine gp_effa 6 [1, 5] [4, 3, 2, 0] rfl rfl rfl rfl rfl rfl rfl (does_call Try.call32 rfl (chstep_ok _ _ S.m.x S.m.g 32 S.m.c S.m.W hS.hm.len hS.hm.hc (by omega) c.b c.al c.cl c.L c.h c.q c.tt c.T.length c.ct c.T rfl (by have := hco.len; omega) hco.lb hco.hal hco.htt hco.ok)) ?_
      rintro _ _ ⟨d1, e1, V1, h1, q1, tt1, nt1, ct1, T1, rfl, hV1, rfl, hT1, htt1, hG1⟩
      subst hT1
      refine ⟨?_, ?_⟩
      · refine .cons rfl rfl rfl rfl rfl (q_fieldAddr fa_63_0 rfl) ?_
        refine .cons rfl rfl rfl rfl rfl (q_nilCheck rfl) ?_
        refine .cons rfl rfl rfl rfl rfl (q_move rfl) ?_
        refine .cons rfl rfl rfl rfl rfl (q_fieldAddr fa_95_0 rfl) ?_
        exact .nil
      refine gp_quiet 7 rfl rfl rfl rfl rfl rfl (q_move rfl) ?_
      refine gp_quiet 8 rfl rfl rfl rfl rfl rfl (q_extract rfl rfl) ?_
      refine gp_quiet 9 rfl rfl rfl rfl rfl rfl (q_extract rfl rfl) ?_
      refine gp_quiet 10 rfl rfl rfl rfl rfl rfl (q_assign rfl) ?_
      refine gp_quiet 11 rfl rfl rfl rfl rfl rfl (q_assign rfl) ?_
      refine gp_end rfl rfl ?_
      refine g_seq ?_
      refine gp_start mo (by kernel_rfl) (by kernel_rfl) ?_
      refine gp_quiet 0 rfl rfl rfl rfl rfl rfl (q_fieldAddr fa_95_1 rfl) ?_
      refine gp_quiet 1 rfl rfl rfl rfl rfl rfl (q_ld Try.isAgg93 rfl rfl) ?_
      refine gp_quiet 2 rfl rfl rfl rfl rfl rfl (q_move rfl) ?_
      refine gp_quiet 3 rfl rfl rfl rfl rfl rfl (q_nilCheck rfl) ?_
      refine gp_quiet 4 rfl rfl rfl rfl rfl rfl (q_fieldAddr fa_63_1 rfl) ?_
      refine gp_quiet 5 rfl rfl rfl rfl rfl rfl (q_ld Try.isAgg56 rfl rfl) ?_
      refine gp_take (Own 51 1 (.slice c.tt2 c.T.length c.ct2) c.T.length (ints .u32 c.T)) ?_
      refine gp_take (Own 3 1 (.slice c.al2 c.L.length c.cl2) c.L.length (ints .i64 c.L)) ?_
      refine gp_take (Blk c.b2 (.cells [Value.slice c.al2 c.L.length c.cl2, .int .i64 c.h, .bool c.q, .slice c.tt2 c.T.length c.ct2].toArray 104 (0, 0))) ?_
      refine gp_take (Own 51 1 (.slice (some ⟨S.m.h, 0, none⟩) 32 S.m.d) 32 (ints .u32 S.m.W)) ?_
      refine gp_take (Blk S.m.y (.cells [Value.slice (some ⟨S.m.h, 0, none⟩) 32 S.m.d].toArray 67 (0, 0))) ?_
      refine gp_effa 6 [1, 5] [4, 3, 2, 0] rfl rfl rfl rfl rfl rfl rfl (does_call Try.call53 rfl (rchstep_ok _ _ S.m.y S.m.h 32 S.m.d S.m.W hS.hm.len hS.hm.hd (by omega) c.b2 c.al2 c.cl2 c.L c.h c.q c.tt2 c.T.length c.ct2 c.T rfl (by have := hco.len; omega) hco.lb hco.hal2 hco.htt2 hco.ok)) ?_
      rintro _ _ ⟨d2, e2, V2, h2, q2, tt2, nt2, ct2, T2, rfl, hV2, rfl, hT2, htt2, hG2⟩
      subst hT2
      obtain ⟨rfl, rfl, rfl, rfl, rfl, rfl⟩ := hG1.same hG2
      have hok1 := hG1.ok hco.ok
      refine ⟨?_, ?_⟩
      · refine .cons rfl rfl rfl rfl rfl (q_fieldAddr fa_63_1 rfl) ?_
        refine .cons rfl rfl rfl rfl rfl (q_nilCheck rfl) ?_
        refine .cons rfl rfl rfl rfl rfl (q_move rfl) ?_
        refine .cons rfl rfl rfl rfl rfl (q_fieldAddr fa_95_1 rfl) ?_
        exact .nil
      refine gp_quiet 7 rfl rfl rfl rfl rfl rfl (q_move rfl) ?_
      refine gp_quiet 8 rfl rfl rfl rfl rfl rfl (q_extract rfl rfl) ?_
      refine gp_quiet 9 rfl rfl rfl rfl rfl rfl (q_extract rfl rfl) ?_
      refine gp_quiet 10 rfl rfl rfl rfl rfl rfl (q_assign rfl) ?_
      refine gp_quiet 11 rfl rfl rfl rfl rfl rfl (q_assign rfl) ?_
      refine gp_end rfl rfl ?_
      refine g_seq ?_
      refine g_region ?_
      refine l_move rfl rfl ?_
      refine l_move rfl rfl ?_
      refine l_neqb rfl Try.underlying4 rfl rfl ?_
      refine l_move rfl rfl ?_
      refine l_split 67 rfl ?_ ?_
      · intro hbr
        first | (exfalso; simp at hbr; done) | (exfalso; simp at hbr; omega) | (exfalso; first | omega | (simp at hbr; done))
      intro hbr
      have hb67 := hbr
      refine l_guard_yes rfl rfl ?_
      refine l_move rfl rfl ?_
      refine l_guard_yes rfl rfl ?_
      refine l_move rfl rfl ?_
      refine l_guard_yes rfl rfl ?_
      refine l_neq rfl rfl rfl ?_
      refine l_pick_f rfl rfl rfl ?_
      refine l_nil ?_
      refine g_cond rfl ?_ ?_
      · intro hbr
        have hbr := of_decide_eq_true hbr
        (exfalso; first | omega | (simp at hbr; done))
      intro hbr
      have hbr := of_decide_eq_false hbr
      refine g_skip ?_
      refine g_inBlock ?_
      refine g_seq ?_
      refine g_region ?_
      refine l_fieldAddr rfl fa_95_0 rfl ?_
      refine l_ld rfl Try.isAgg28 rfl rfl ?_
      refine l_take (Blk c.b (.cells [Value.slice c.al c.L.length c.cl, .int .i64 h1, .bool q1, .slice tt1 T1.length ct1].toArray 84 (0, 0))) ?_
      refine l_call rfl Try.call10 rfl (chall_ok _ _ c.b c.al c.cl c.L h1 q1 tt1 T1.length ct1 (by have := hco.len; omega) hok1.1 hok1.2.1) ?_; rintro _ _ ⟨rfl, rfl⟩
      refine l_assign rfl rfl ?_
      refine l_nil ?_
      refine g_seq ?_
      refine g_region ?_
      refine l_move rfl rfl ?_
      refine l_fieldAddr rfl fa_95_1 rfl ?_
      refine l_ld rfl Try.isAgg93 rfl rfl ?_
      refine l_take (Blk c.b2 (.cells [Value.slice c.al2 c.L.length c.cl2, .int .i64 h1, .bool q1, .slice tt2 T1.length ct2].toArray 104 (0, 0))) ?_
      refine l_call rfl Try.call56 rfl (rchall_ok _ _ c.b2 c.al2 c.cl2 c.L h1 q1 tt2 T1.length ct2) ?_; rintro _ _ ⟨rfl, rfl⟩
      refine l_eqlb rfl Try.underlying4 rfl rfl ?_
      refine l_assign rfl rfl ?_
      refine l_nil ?_
      refine g_take (BigBut S.N i (fun j => chA (S.C j))) ?_
      refine g_take (Own 51 1 (.slice tt2 T1.length ct2) T1.length (ints .u32 T1)) ?_
      refine g_take (Own 3 1 (.slice c.al2 c.L.length c.cl2) c.L.length (ints .i64 c.L)) ?_
      refine g_take (Blk c.b2 (.cells [Value.slice c.al2 c.L.length c.cl2, .int .i64 h1, .bool q1, .slice tt2 T1.length ct2].toArray 104 (0, 0))) ?_
      refine g_take (Own 51 1 (.slice tt1 T1.length ct1) T1.length (ints .u32 T1)) ?_
      refine g_take (Own 3 1 (.slice c.al c.L.length c.cl) c.L.length (ints .i64 c.L)) ?_
      refine g_take (Blk c.b (.cells [Value.slice c.al c.L.length c.cl, .int .i64 h1, .bool q1, .slice tt1 T1.length ct1].toArray 84 (0, 0))) ?_
      refine g_closec (c := ⟨c.b, c.al, c.cl, tt1, ct1, c.b2, c.al2, c.cl2, tt2, ct2, c.L, h1, q1, T1⟩) ?_
      refine g_take (Own 51 1 (.slice (some ⟨S.m.h, 0, none⟩) 32 S.m.d) 32 (ints .u32 V1)) ?_
      refine g_take (Blk S.m.y (.cells [Value.slice (some ⟨S.m.h, 0, none⟩) 32 S.m.d].toArray 67 (0, 0))) ?_
      refine g_take (Own 51 1 (.slice (some ⟨S.m.g, 0, none⟩) 32 S.m.c) 32 (ints .u32 V1)) ?_
      refine g_take (Blk S.m.x (.cells [Value.slice (some ⟨S.m.g, 0, none⟩) 32 S.m.c].toArray 81 (0, 0))) ?_
      refine g_closem V1 ?_
      rw [ch_rows (i := i) (c := ⟨c.b, c.al, c.cl, tt1, ct1, c.b2, c.al2, c.cl2, tt2, ct2, c.L, h1, q1, T1⟩) (by rw [hc] <;> rfl)]
      refine g_ret Try.func20 rfl (.tmp rfl .nil) ?_
      exact Gives.mki ⟨⟨⟨S.m.x, S.m.g, S.m.c, S.m.y, S.m.h, S.m.d, V1⟩, S.p, S.N, upF S.C i ⟨c.b, c.al, c.cl, tt1, ct1, c.b2, c.al2, c.cl2, tt2, ct2, c.L, h1, q1, T1⟩, S.la, S.lc, S.K, S.B, S.ka, S.kc⟩, (by first | rfl | exact congrArg Value.bool (decide_eq_true rfl) | (simp [resVal]; done)), ((hS.mem (m := ⟨S.m.x, S.m.g, S.m.c, S.m.y, S.m.h, S.m.d, V1⟩) ⟨hV1, hS.hm.hc, hS.hm.hd, (hG1.w32 hS.hm.u hco.u).1⟩).put (i := i) (c := ⟨c.b, c.al, c.cl, tt1, ct1, c.b2, c.al2, c.cl2, tt2, ct2, c.L, h1, q1, T1⟩) ⟨hco.len, hco.lb, hco.hal, htt1, hco.hal2, htt2, hok1, (hG1.w32 hS.hm.u hco.u).2⟩), ⟨rfl, rfl⟩, ⟨d1, e1, by simp only [upF_at, hc]; exact hG1, by simp only [upF_at, hc]⟩, rfl⟩
    · intro hbr
      have hbr := of_decide_eq_false hbr
      (exfalso; first | omega | (simp at hbr; done))
  intro joinJ
  dsimp only [List.cons_append, List.nil_append] at joinJ
  refine g_region ?_
  refine l_boxs rfl rfl ?_; intro b3
  refine l_assign rfl rfl ?_
  refine l_nil ?_
  refine g_seq ?_
  refine gp_start mo (by kernel_rfl) (by kernel_rfl) ?_
  rw [hgl]
  refine gp_quiet 0 rfl rfl rfl rfl rfl rfl (q_move rfl) ?_
  refine gp_quiet 1 rfl rfl rfl rfl rfl rfl (q_nilCheck rfl) ?_
  refine gp_quiet 2 rfl rfl rfl rfl rfl rfl (q_fieldAddr fa_63_4 rfl) ?_
  refine gp_quiet 3 rfl rfl rfl rfl rfl rfl (q_ld Try.isAgg57 rfl rfl) ?_
  refine gp_quiet 4 rfl rfl rfl rfl rfl rfl (q_fieldAddr fa_53_1 rfl) ?_
  first | refine gp_quiet 5 rfl rfl rfl rfl rfl rfl (q_ld Try.isAgg3 rfl rfl) ?_ | refine gp_quiet 5 rfl rfl rfl rfl rfl rfl (q_ldw Try.isAgg3 rfl (by omega)) ?_
  refine gp_quiet 6 rfl rfl rfl rfl rfl rfl (q_move rfl) ?_
  refine gp_quiet 7 rfl rfl rfl rfl rfl rfl (q_nilCheck rfl) ?_
  refine gp_quiet 8 rfl rfl rfl rfl rfl rfl (q_fieldAddr fa_63_4 rfl) ?_
  refine gp_quiet 9 rfl rfl rfl rfl rfl rfl (q_ld Try.isAgg57 rfl rfl) ?_
  refine gp_quiet 10 rfl rfl rfl rfl rfl rfl (q_len Try.underlying57 rfl) ?_
  refine gp_two 11 [5, 10] [9, 8, 7, 6, 4, 3, 2, 1, 0] 14 [] [10, 9, 8, 7, 6, 5, 4, 3, 2, 1, 0] rfl rfl rfl rfl rfl rfl (does_call Try.call12 rfl (pick_ok _ _ who (S.N : Int) (by omega) (by omega) (by omega) (by omega))) (does_allocs Try.zeroValue95) ?_ ?_
  · rintro _ _ ⟨rfl, rfl⟩
    rw [hi]
    refine ⟨?_, ?_⟩
    · refine .cons rfl rfl rfl rfl rfl (q_ld Try.isAgg57 rfl rfl) ?_
      refine .cons rfl rfl rfl rfl rfl (q_fieldAddr fa_63_4 rfl) ?_
      refine .cons rfl rfl rfl rfl rfl (q_nilCheck rfl) ?_
      refine .cons rfl rfl rfl rfl rfl (q_move rfl) ?_
      refine .cons rfl rfl rfl rfl rfl (q_fieldAddr fa_53_1 rfl) ?_
      refine .cons rfl rfl rfl rfl rfl (q_ld Try.isAgg57 rfl rfl) ?_
      refine .cons rfl rfl rfl rfl rfl (q_fieldAddr fa_63_4 rfl) ?_
      refine .cons rfl rfl rfl rfl rfl (q_nilCheck rfl) ?_
      refine .cons rfl rfl rfl rfl rfl (q_move rfl) ?_
      exact .nil
    refine gp_quiet 12 rfl rfl rfl rfl rfl rfl (q_ixs Try.underlying57 Try.sizeOf95 rfl rfl (by omega) (by omega)) ?_
    refine gp_quiet 13 rfl rfl rfl rfl rfl rfl (q_loadr (l := [.pointer (some ⟨c.b, 0, none⟩), .pointer (some ⟨c.b2, 0, none⟩)]) Try.isAgg95 Try.sizeOf95 rfl rfl (ch_row (by first | exact mem_getO 0 rfl | exact mem_getO 1 rfl | exact mem_getO 2 rfl | exact mem_getO 3 rfl | exact mem_getO 4 rfl | exact mem_getO 5 rfl | exact mem_getO 6 rfl | exact mem_getO 7 rfl | exact mem_getO 8 rfl | exact mem_getO 9 rfl | exact mem_getO 10 rfl | exact mem_getO 11 rfl | exact mem_getO 12 rfl | exact mem_getO 13 rfl | exact mem_getO 14 rfl | exact mem_getO 15 rfl | exact mem_getO 16 rfl | exact mem_getO 17 rfl | exact mem_getO 18 rfl | exact mem_getO 19 rfl | exact mem_getO 20 rfl | exact mem_getO 21 rfl) hiN hc)) ?_
    refine gp_eff 14 rfl rfl rfl rfl rfl rfl (does_allocs Try.zeroValue95) ?_
    rintro _ _ ⟨b5, rfl, rfl⟩
    refine ⟨?_, ?_⟩
    · refine .cons rfl rfl rfl rfl rfl (q_loadr (l := [.pointer (some ⟨c.b, 0, none⟩), .pointer (some ⟨c.b2, 0, none⟩)]) Try.isAgg95 Try.sizeOf95 rfl rfl (ch_row (by first | exact mem_getO 0 rfl | exact mem_getO 1 rfl | exact mem_getO 2 rfl | exact mem_getO 3 rfl | exact mem_getO 4 rfl | exact mem_getO 5 rfl | exact mem_getO 6 rfl | exact mem_getO 7 rfl | exact mem_getO 8 rfl | exact mem_getO 9 rfl | exact mem_getO 10 rfl | exact mem_getO 11 rfl | exact mem_getO 12 rfl | exact mem_getO 13 rfl | exact mem_getO 14 rfl | exact mem_getO 15 rfl | exact mem_getO 16 rfl | exact mem_getO 17 rfl | exact mem_getO 18 rfl | exact mem_getO 19 rfl | exact mem_getO 20 rfl | exact mem_getO 21 rfl) hiN hc)) ?_
      refine .cons rfl rfl rfl rfl rfl (q_ixs Try.underlying57 Try.sizeOf95 rfl rfl (by omega) (by omega)) ?_
      refine .cons rfl rfl rfl rfl rfl (q_ld Try.isAgg57 rfl rfl) ?_
      refine .cons rfl rfl rfl rfl rfl (q_fieldAddr fa_63_4 rfl) ?_
      refine .cons rfl rfl rfl rfl rfl (q_nilCheck rfl) ?_
      refine .cons rfl rfl rfl rfl rfl (q_move rfl) ?_
      refine .cons rfl rfl rfl rfl rfl (q_fieldAddr fa_53_1 rfl) ?_
      refine .cons rfl rfl rfl rfl rfl (q_ld Try.isAgg57 rfl rfl) ?_
      refine .cons rfl rfl rfl rfl rfl (q_fieldAddr fa_63_4 rfl) ?_
      refine .cons rfl rfl rfl rfl rfl (q_nilCheck rfl) ?_
      refine .cons rfl rfl rfl rfl rfl (q_move rfl) ?_
      exact .nil
    refine gp_effa 15 [0, 1, 2, 3, 4, 6, 7, 8, 9, 12, 13] [] rfl rfl rfl rfl rfl rfl rfl (does_sts Try.sizeOf95 rfl rfl rfl rfl rfl) ?_
    rintro _ _ ⟨rfl, rfl⟩
    refine ⟨?_, ?_⟩
    · exact .nil
    refine gp_end rfl rfl ?_
    rw [← hgl]
    exact g_againi (joinJ (b3, b5) trivial) (.cons rfl (.cons rfl (.cons rfl (.nil))))
  · rintro _ _ ⟨b5, rfl, rfl⟩
    refine ⟨?_, ?_⟩
    · refine .cons rfl rfl rfl rfl rfl (q_len Try.underlying57 rfl) ?_
      refine .cons rfl rfl rfl rfl rfl (q_ld Try.isAgg57 rfl rfl) ?_
      refine .cons rfl rfl rfl rfl rfl (q_fieldAddr fa_63_4 rfl) ?_
      refine .cons rfl rfl rfl rfl rfl (q_nilCheck rfl) ?_
      refine .cons rfl rfl rfl rfl rfl (q_move rfl) ?_
      first | refine .cons rfl rfl rfl rfl rfl (q_ld Try.isAgg3 rfl rfl) ?_ | refine .cons rfl rfl rfl rfl rfl (q_ldw Try.isAgg3 rfl (by omega)) ?_
      refine .cons rfl rfl rfl rfl rfl (q_fieldAddr fa_53_1 rfl) ?_
      refine .cons rfl rfl rfl rfl rfl (q_ld Try.isAgg57 rfl rfl) ?_
      refine .cons rfl rfl rfl rfl rfl (q_fieldAddr fa_63_4 rfl) ?_
      refine .cons rfl rfl rfl rfl rfl (q_nilCheck rfl) ?_
      refine .cons rfl rfl rfl rfl rfl (q_move rfl) ?_
      exact .nil
    refine gp_effa 11 [5, 10] [9, 8, 7, 6, 4, 3, 2, 1, 0] rfl rfl rfl rfl rfl rfl rfl (does_call Try.call12 rfl (pick_ok _ _ who (S.N : Int) (by omega) (by omega) (by omega) (by omega))) ?_
    rintro _ _ ⟨rfl, rfl⟩
    rw [hi]
    refine ⟨?_, ?_⟩
    · refine .cons rfl rfl rfl rfl rfl (q_ld Try.isAgg57 rfl rfl) ?_
      refine .cons rfl rfl rfl rfl rfl (q_fieldAddr fa_63_4 rfl) ?_
      refine .cons rfl rfl rfl rfl rfl (q_nilCheck rfl) ?_
      refine .cons rfl rfl rfl rfl rfl (q_move rfl) ?_
      refine .cons rfl rfl rfl rfl rfl (q_fieldAddr fa_53_1 rfl) ?_
      refine .cons rfl rfl rfl rfl rfl (q_ld Try.isAgg57 rfl rfl) ?_
      refine .cons rfl rfl rfl rfl rfl (q_fieldAddr fa_63_4 rfl) ?_
      refine .cons rfl rfl rfl rfl rfl (q_nilCheck rfl) ?_
      refine .cons rfl rfl rfl rfl rfl (q_move rfl) ?_
      exact .nil
    refine gp_quiet 12 rfl rfl rfl rfl rfl rfl (q_ixs Try.underlying57 Try.sizeOf95 rfl rfl (by omega) (by omega)) ?_
    refine gp_quiet 13 rfl rfl rfl rfl rfl rfl (q_loadr (l := [.pointer (some ⟨c.b, 0, none⟩), .pointer (some ⟨c.b2, 0, none⟩)]) Try.isAgg95 Try.sizeOf95 rfl rfl (ch_row (by first | exact mem_getO 0 rfl | exact mem_getO 1 rfl | exact mem_getO 2 rfl | exact mem_getO 3 rfl | exact mem_getO 4 rfl | exact mem_getO 5 rfl | exact mem_getO 6 rfl | exact mem_getO 7 rfl | exact mem_getO 8 rfl | exact mem_getO 9 rfl | exact mem_getO 10 rfl | exact mem_getO 11 rfl | exact mem_getO 12 rfl | exact mem_getO 13 rfl | exact mem_getO 14 rfl | exact mem_getO 15 rfl | exact mem_getO 16 rfl | exact mem_getO 17 rfl | exact mem_getO 18 rfl | exact mem_getO 19 rfl | exact mem_getO 20 rfl | exact mem_getO 21 rfl) hiN hc)) ?_
    refine gp_effa 15 [0, 1, 2, 3, 4, 6, 7, 8, 9, 12, 13] [] rfl rfl rfl rfl rfl rfl rfl (does_sts Try.sizeOf95 rfl rfl rfl rfl rfl) ?_
    rintro _ _ ⟨rfl, rfl⟩
    refine ⟨?_, ?_⟩
    · exact .nil
    refine gp_end rfl rfl ?_
    rw [← hgl]
    exact g_againi (joinJ (b3, b5) trivial) (.cons rfl (.cons rfl (.cons rfl (.nil))))
end Go.Proofs.Ythemlddepepekaa.Fw
