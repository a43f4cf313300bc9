import Derived.Test.YthemlddepepekaaWorld
namespace Go.Proofs.Ythemlddepepekaa.Fw
open Go Go.Proofs
set_option linter.unusedVariables false
set_option linter.unusedSimpArgs false
set_option maxRecDepth 10000
theorem fa_53_6 (a : Addr) (w : World) : (Instr.fieldAt 53 (.pointer (some a)) 6).run Try.prog w = .ok (.pointer (some (a.add 6))) w := by
  simp [Instr.fieldAt, Try.runUnderlying53, Instr.sureAddr, fieldPlace, Try.sizeOf23, Sem.run_bind, Sem.run_pure]
theorem fa_53_3 (a : Addr) (w : World) : (Instr.fieldAt 53 (.pointer (some a)) 3).run Try.prog w = .ok (.pointer (some (a.add 3))) w := by
  simp [Instr.fieldAt, Try.runUnderlying53, Instr.sureAddr, fieldPlace, Try.sizeOf3, Sem.run_bind, Sem.run_pure]
theorem fa_53_4 (a : Addr) (w : World) : (Instr.fieldAt 53 (.pointer (some a)) 4).run Try.prog w = .ok (.pointer (some (a.add 4))) w := by
  simp [Instr.fieldAt, Try.runUnderlying53, Instr.sureAddr, fieldPlace, Try.sizeOf4, Sem.run_bind, Sem.run_pure]
theorem fa_53_7 (a : Addr) (w : World) : (Instr.fieldAt 53 (.pointer (some a)) 7).run Try.prog w = .ok (.pointer (some (a.add 7))) w := by
  simp [Instr.fieldAt, Try.runUnderlying53, Instr.sureAddr, fieldPlace, Try.sizeOf38, Sem.run_bind, Sem.run_pure]
theorem fa_53_0 (a : Addr) (w : World) : (Instr.fieldAt 53 (.pointer (some a)) 0).run Try.prog w = .ok (.pointer (some (a.add 0))) w := by
  simp [Instr.fieldAt, Try.runUnderlying53, Instr.sureAddr, fieldPlace, Try.sizeOf3, Sem.run_bind, Sem.run_pure]
theorem fa_63_4 (a : Addr) (w : World) : (Instr.fieldAt 63 (.pointer (some a)) 4).run Try.prog w = .ok (.pointer (some (a.add 4))) w := by
  simp [Instr.fieldAt, Try.runUnderlying63, Instr.sureAddr, fieldPlace, Try.sizeOf57, Sem.run_bind, Sem.run_pure]
theorem bd_95_0_1 (a0_0 : Option Addr) (a1_0 : Option Addr) (w : World) : (Instr.build 95 #[(0, .pointer a0_0), (1, .pointer a1_0)]).run Try.prog w = .ok (.agg #[.pointer a0_0, .pointer a1_0]) w := by kernel_rfl
theorem fa_53_1 (a : Addr) (w : World) : (Instr.fieldAt 53 (.pointer (some a)) 1).run Try.prog w = .ok (.pointer (some (a.add 1))) w := by
  simp [Instr.fieldAt, Try.runUnderlying53, Instr.sureAddr, fieldPlace, Try.sizeOf3, Sem.run_bind, Sem.run_pure]
theorem fa_95_1 (a : Addr) (w : World) : (Instr.fieldAt 95 (.pointer (some a)) 1).run Try.prog w = .ok (.pointer (some (a.add 1))) w := by
  simp [Instr.fieldAt, Try.runUnderlying95, Instr.sureAddr, fieldPlace, Try.sizeOf93, Sem.run_bind, Sem.run_pure]
theorem rrest_ok (w0 : World) (F : List Atom) (a : Option Addr) (c : Nat) (X : List Int) (hR : RA w0 F .i64 a X.length c X) (hn : X.length ≤ 2147483647) (h : Int) (hb0 : -9223372036854775808 ≤ h) (hb1 : h ≤ 9223372036854775807) (q : Bool) (a2 : Option Addr) (nt c2 : Nat) (T : List Int) (hR2 : RA w0 F .u32 a2 nt c2 T) (hnt : nt ≤ 2147483647) (hok : ChOk X.length h q nt) : CallK Try.prog 51 [.slice a X.length c, .int .i64 h, .bool q, .slice a2 nt c2] w0 (F) (Gives w0 fun v F2 => ∃ b al cl tt ct, v = .tuple #[.pointer (some ⟨b, 0, none⟩), .int .i64 0] ∧ (X.length = 0 ∨ ∃ g, al = some ⟨g, 0, none⟩) ∧ (nt = 0 ∨ ∃ g, tt = some ⟨g, 0, none⟩) ∧ F2 = Blk b (.cells [Value.slice al X.length cl, .int .i64 h, .bool q, .slice tt nt ct].toArray 104 (0, 0)) :: Own 3 1 (.slice al X.length cl) X.length (ints .i64 X) :: Own 51 1 (.slice tt nt ct) nt (ints .u32 T) :: F) := by
  obtain ⟨k0, k1, k2, k3⟩ := hok
  cases q
  · exact rrest_f w0 F a c X hR hn h hb0 hb1 a2 nt c2 T hR2 hnt ⟨k0, k1, k3 rfl⟩
  · exact rrest_t w0 F a c X hR hn h hb0 hb1 a2 nt c2 T hR2 hnt ⟨k0, (k2 rfl).2, (k2 rfl).1⟩
theorem rrno_any (w0 : World) (F : List Atom) (a : Option Addr) (c : Nat) (X : List Int) (hR : RA w0 F .i64 a X.length c X) (hn : X.length ≤ 2147483647) (h : Int) (hb0 : -9223372036854775808 ≤ h) (hb1 : h ≤ 9223372036854775807) (q : Bool) (a2 : Option Addr) (nt c2 : Nat) (T : List Int) (hR2 : RA w0 F .u32 a2 nt c2 T) (hnt : nt ≤ 2147483647) (hno : ¬ ChOk X.length h q nt) : CallK Try.prog 51 [.slice a X.length c, .int .i64 h, .bool q, .slice a2 nt c2] w0 (F) (Gives w0 fun v F2 => v = .tuple #[.pointer none, .int .i64 1] ∧ F2 = F) := by
  cases q
  · have : ¬ (0 ≤ h ∧ h ≤ X.length ∧ (nt : Int) = h) := fun ⟨x, y, z⟩ => hno ⟨x, y, fun h => (by cases h), fun _ => z⟩
    exact rrno_f w0 F a c X hR hn h hb0 hb1 a2 nt c2 T hR2 hnt (by omega)
  · have : ¬ (0 ≤ h ∧ h < X.length ∧ (nt : Int) = h + 1) := fun ⟨x, y, z⟩ => hno ⟨x, by omega, fun _ => ⟨z, y⟩, fun h => (by cases h)⟩
    exact rrno_t w0 F a c X hR hn h hb0 hb1 a2 nt c2 T hR2 hnt (by omega)
theorem lrest_ok (w0 : World) (F : List Atom) (g0 o0 c : Nat) (X : List Int) (hr0 : RowAt w0 F g0 o0 (ints .i64 X)) (hn : X.length ≤ 2147483647) (h : Int) (hb0 : -9223372036854775808 ≤ h) (hb1 : h ≤ 9223372036854775807) (q : Bool) (g1 o1 nt c2 : Nat) (T : List Int) (hT : T.length = nt) (hr1 : RowAt w0 F g1 o1 (ints .u32 T)) (hnt : nt ≤ 2147483647) (hok : ChOk X.length h q nt) : CallK Try.prog 28 [.slice (some ⟨g0, o0, none⟩) X.length c, .int .i64 h, .bool q, .slice (some ⟨g1, o1, none⟩) nt c2] w0 (F) (Gives w0 fun v F2 => ∃ b al cl tt ct, v = .tuple #[.pointer (some ⟨b, 0, none⟩), .int .i64 0] ∧ (X.length = 0 ∨ ∃ g, al = some ⟨g, 0, none⟩) ∧ (nt = 0 ∨ ∃ g, tt = some ⟨g, 0, none⟩) ∧ F2 = Blk b (.cells [Value.slice al X.length cl, .int .i64 h, .bool q, .slice tt nt ct].toArray 84 (0, 0)) :: Own 3 1 (.slice al X.length cl) X.length (ints .i64 X) :: Own 51 1 (.slice tt nt ct) nt (ints .u32 T) :: F) := by
  obtain ⟨k0, k1, k2, k3⟩ := hok
  cases q
  · exact lrest_f w0 F g0 o0 c X hr0 hn h hb0 hb1 g1 o1 nt c2 T hT hr1 hnt ⟨k0, k1, k3 rfl⟩
  · exact lrest_t w0 F g0 o0 c X hr0 hn h hb0 hb1 g1 o1 nt c2 T hT hr1 hnt ⟨k0, (k2 rfl).2, (k2 rfl).1⟩
theorem lrno_any (w0 : World) (F : List Atom) (g0 o0 c : Nat) (X : List Int) (hr0 : RowAt w0 F g0 o0 (ints .i64 X)) (hn : X.length ≤ 2147483647) (h : Int) (hb0 : -9223372036854775808 ≤ h) (hb1 : h ≤ 9223372036854775807) (q : Bool) (g1 o1 nt c2 : Nat) (T : List Int) (hT : T.length = nt) (hr1 : RowAt w0 F g1 o1 (ints .u32 T)) (hnt : nt ≤ 2147483647) (hno : ¬ ChOk X.length h q nt) : CallK Try.prog 28 [.slice (some ⟨g0, o0, none⟩) X.length c, .int .i64 h, .bool q, .slice (some ⟨g1, o1, none⟩) nt c2] w0 (F) (Gives w0 fun v F2 => v = .tuple #[.pointer none, .int .i64 1] ∧ F2 = F) := by
  cases q
  · have : ¬ (0 ≤ h ∧ h ≤ X.length ∧ (nt : Int) = h) := fun ⟨x, y, z⟩ => hno ⟨x, y, fun h => (by cases h), fun _ => z⟩
    exact lrno_f w0 F g0 o0 c X hr0 hn h hb0 hb1 g1 o1 nt c2 T hT hr1 hnt (by omega)
  · have : ¬ (0 ≤ h ∧ h < X.length ∧ (nt : Int) = h + 1) := fun ⟨x, y, z⟩ => hno ⟨x, by omega, fun _ => ⟨z, y⟩, fun h => (by cases h)⟩
    exact lrno_t w0 F g0 o0 c X hr0 hn h hb0 hb1 g1 o1 nt c2 T hT hr1 hnt (by omega)
theorem ch_same {C : Nat → CR} {i : Nat} {c : CR} (h : C i = c) : (fun j => chA (upF C i c j)) = fun j => chA (C j) := by
  funext j
  by_cases e : j = i
  · subst e; rw [upF_at, h]
  · rw [upF_ne e]
set_option maxHeartbeats 16000000 in
theorem makes_new (w0 : World) (F : List Atom) (wb : Nat) (S : WS) (hS : SOk S) (hN : S.N ≤ 1099511627776) (hK : S.K ≤ 1099511627000) (kd : Int) (kd0 : -9223372036854775808 ≤ kd) (kd1 : kd ≤ 9223372036854775807) (who : Int) (who0 : -9223372036854775808 ≤ who) (who1 : who ≤ 9223372036854775807) (oa : Int) (oa0 : -9223372036854775808 ≤ oa) (oa1 : oa ≤ 9223372036854775807) (ob : Int) (ob0 : -9223372036854775808 ≤ ob) (ob1 : ob ≤ 9223372036854775807) (oq : Bool) (ox : Int) (ox0 : 0 ≤ ox) (ox1 : ox ≤ 4294967295) (ga : Option Addr) (gc : Nat) (G : List Int) (hsg : G.length ≤ 2147483647) (hG : RA w0 F .i64 ga G.length gc G) (hGb : I64s G) (sa : Option Addr) (sc : Nat) (Y : List Int) (hsn : Y.length ≤ 2147483647) (hY : RA w0 F .u32 sa Y.length sc Y) (hYU : W32s Y) (hk : kd = 5) :
    CallK Try.prog 19 [.pointer (some ⟨wb, 0, none⟩), .agg [Value.int .i64 kd, .int .i64 who, .int .i64 oa, .int .i64 ob, .bool oq, .int .u32 ox, .slice ga G.length gc, .slice sa Y.length sc].toArray] w0 (Blk wb (.cells [Value.pointer (some ⟨S.m.x, 0, none⟩), .pointer (some ⟨S.m.y, 0, none⟩), .pointer (some ⟨S.p.x, 0, none⟩), .pointer (some ⟨S.p.y, 0, none⟩), .slice S.la S.N S.lc, .slice S.ka S.K S.kc, .slice none 0 0].toArray 63 (0, 0)) :: mpA S.m :: mpA S.p :: Own 95 2 (.slice S.la S.N S.lc) S.N (rowsN S.N (fun j => chR (S.C j))) :: BigF S.N (fun j => chA (S.C j)) :: Own 111 4 (.slice S.ka S.K S.kc) S.K (rowsN S.K (fun j => bkR (S.B j))) :: BigF S.K (fun j => bkA (S.B j)) :: F) (Gives w0 fun v F2 => ∃ S' : WS, v = .bool true ∧ SOk S' ∧ (S'.N = S.N + 1 ∧ S'.K = S.K ∧ S'.m = S.m) ∧ ((S'.C S.N).L = G ∧ (S'.C S.N).h = 0 ∧ (S'.C S.N).q = false ∧ (S'.C S.N).T = []) ∧ F2 = Blk wb (.cells [Value.pointer (some ⟨S'.m.x, 0, none⟩), .pointer (some ⟨S'.m.y, 0, none⟩), .pointer (some ⟨S'.p.x, 0, none⟩), .pointer (some ⟨S'.p.y, 0, none⟩), .slice S'.la S'.N S'.lc, .slice S'.ka S'.K S'.kc, .slice none 0 0].toArray 63 (0, 0)) :: mpA S'.m :: mpA S'.p :: Own 95 2 (.slice S'.la S'.N S'.lc) S'.N (rowsN S'.N (fun j => chR (S'.C j))) :: BigF S'.N (fun j => chA (S'.C j)) :: Own 111 4 (.slice S'.ka S'.K S'.kc) S'.K (rowsN S'.K (fun j => bkR (S'.B j))) :: BigF S'.K (fun j => bkA (S'.B j)) :: F) := by
  refine c_enter Try.func19 rfl rfl rfl ?_
  refine g_seq ?_
  refine g_region ?_
  refine l_boxs rfl rfl ?_; intro b3
  refine l_assign rfl rfl ?_
  refine l_nil ?_
  refine g_seq ?_
  refine g_region ?_
  refine l_fieldAddr rfl fa_53_6 rfl ?_
  refine l_ld rfl Try.isAgg23 rfl rfl ?_
  refine l_assign rfl rfl ?_
  refine l_nil ?_
  refine g_seq ?_
  refine g_region ?_
  refine l_fieldAddr rfl fa_53_3 rfl ?_
  first | refine l_ld rfl Try.isAgg3 rfl rfl ?_ | refine l_ldw rfl Try.isAgg3 rfl (by omega) ?_
  refine l_assign rfl rfl ?_
  refine l_nil ?_
  refine g_seq ?_
  refine g_region ?_
  refine l_fieldAddr rfl fa_53_4 rfl ?_
  refine l_ld rfl Try.isAgg4 rfl rfl ?_
  refine l_assign rfl rfl ?_
  refine l_nil ?_
  refine g_seq ?_
  refine g_region ?_
  refine l_fieldAddr rfl fa_53_7 rfl ?_
  refine l_ld rfl Try.isAgg38 rfl rfl ?_
  refine l_assign rfl rfl ?_
  refine l_nil ?_
  refine g_seq ?_
  refine g_seq ?_
  refine g_region ?_
  refine l_fieldAddr rfl fa_53_0 rfl ?_
  first | refine l_ld rfl Try.isAgg3 rfl rfl ?_ | refine l_ldw rfl Try.isAgg3 rfl (by omega) ?_
  refine l_eql rfl rfl rfl ?_
  refine l_nil ?_
  refine g_cond rfl ?_ ?_
  · intro hbr
    have hbr := of_decide_eq_true hbr
    (exfalso; first | omega | (simp at hbr; done))
  intro hbr
  have hbr := of_decide_eq_false hbr
  refine g_skip ?_
  refine g_seq ?_
  refine g_region ?_
  refine l_move rfl rfl ?_
  refine l_call rfl Try.call47 rfl (lenti_ok _ _ ga G.length gc G rfl hG.ir.ex hsg hGb) ?_; rintro _ _ ⟨gi, XI, rfl, hXI, rfl⟩
  refine l_assign rfl rfl ?_
  refine l_nil ?_
  refine g_seq ?_
  refine g_region ?_
  refine l_move rfl rfl ?_
  refine l_call rfl Try.call48 rfl (lent_ok _ _ sa Y.length sc Y rfl hY.ir.ex hsn hYU) ?_; rintro _ _ ⟨gw, XW, rfl, hXW, rfl⟩
  refine l_assign rfl rfl ?_
  refine l_nil ?_
  refine g_seq ?_
  refine g_seq ?_
  refine g_region ?_
  refine l_fieldAddr rfl fa_53_0 rfl ?_
  first | refine l_ld rfl Try.isAgg3 rfl rfl ?_ | refine l_ldw rfl Try.isAgg3 rfl (by omega) ?_
  refine l_eql rfl rfl rfl ?_
  refine l_nil ?_
  refine g_cond rfl ?_ ?_
  · intro hbr
    have hbr := of_decide_eq_true hbr
    refine g_seq ?_
    refine g_region ?_
    refine l_move rfl rfl ?_
    refine l_call rfl Try.call8 rfl (lnew_r _ _ gi 0 (G.length + 9) G (lenti_row (E := 3) hXI rfl (by first | exact mem_getO 0 rfl | exact mem_getO 1 rfl | exact mem_getO 2 rfl | exact mem_getO 3 rfl | exact mem_getO 4 rfl | exact mem_getO 5 rfl | exact mem_getO 6 rfl | exact mem_getO 7 rfl | exact mem_getO 8 rfl | exact mem_getO 9 rfl | exact mem_getO 10 rfl | exact mem_getO 11 rfl | exact mem_getO 12 rfl | exact mem_getO 13 rfl | exact mem_getO 14 rfl | exact mem_getO 15 rfl | exact mem_getO 16 rfl | exact mem_getO 17 rfl | exact mem_getO 18 rfl | exact mem_getO 19 rfl | exact mem_getO 20 rfl | exact mem_getO 21 rfl)) hsg) ?_; rintro _ _ ⟨x1, al1, cl1, rfl, hal1, rfl⟩
    refine l_assign rfl rfl ?_
    refine l_nil ?_
    refine g_seq ?_
    refine g_region ?_
    refine l_move rfl rfl ?_
    refine l_move rfl rfl ?_
    refine l_take (Own 3 1 (.slice (some ⟨gi, 0, none⟩) (G.length + 9) (G.length + 9)) (G.length + 9) (ints .i64 XI)) ?_
    refine l_call rfl Try.call49 rfl (backi_ok _ _ gi XI ga G.length gc G rfl hG.ir.ex hsg hGb hXI) ?_; rintro _ _ ⟨rfl, rfl⟩
    refine l_assign rfl rfl ?_
    refine l_nil ?_
    refine g_seq ?_
    refine gp_start mo (by kernel_rfl) (by kernel_rfl) ?_
    refine gp_quiet 0 rfl rfl rfl rfl rfl rfl (q_move rfl) ?_
    refine gp_quiet 1 rfl rfl rfl rfl rfl rfl (q_move rfl) ?_
    refine gp_quiet 2 rfl rfl rfl rfl rfl rfl (q_nilCheck rfl) ?_
    refine gp_quiet 3 rfl rfl rfl rfl rfl rfl (q_fieldAddr fa_63_4 rfl) ?_
    refine gp_quiet 4 rfl rfl rfl rfl rfl rfl (q_ld Try.isAgg57 rfl rfl) ?_
    refine gp_quiet 5 rfl rfl rfl rfl rfl rfl (q_move rfl) ?_
    refine gp_quiet 6 rfl rfl rfl rfl rfl rfl (q_move rfl) ?_
    refine gp_effa 7 [6] [5, 4, 3, 2, 1, 0] rfl rfl rfl rfl rfl rfl rfl (does_call Try.call50 rfl (rnew_ok _ _ ga gc G hG.ex hsg)) ?_
    rintro _ _ ⟨x2, al2, cl2, rfl, hal2, rfl⟩
    refine ⟨?_, ?_⟩
    · refine .cons rfl rfl rfl rfl rfl (q_move rfl) ?_
      refine .cons rfl rfl rfl rfl rfl (q_ld Try.isAgg57 rfl rfl) ?_
      refine .cons rfl rfl rfl rfl rfl (q_fieldAddr fa_63_4 rfl) ?_
      refine .cons rfl rfl rfl rfl rfl (q_nilCheck rfl) ?_
      refine .cons rfl rfl rfl rfl rfl (q_move rfl) ?_
      refine .cons rfl rfl rfl rfl rfl (q_move rfl) ?_
      exact .nil
    refine gp_quiet 8 rfl rfl rfl rfl rfl rfl (q_build rfl (fun w => bd_95_0_1 _ _ w)) ?_
    refine gp_effa 9 [8] [5, 4, 3, 2, 1, 0] rfl rfl rfl rfl rfl rfl rfl (does_buildSlice Try.underlying57 Try.sizeOf95 Try.zeroValue95 rfl rfl rfl rfl rfl rfl) ?_
    rintro _ _ ⟨b78, rfl, rfl⟩
    refine ⟨?_, ?_⟩
    · refine .cons rfl rfl rfl rfl rfl (q_move rfl) ?_
      refine .cons rfl rfl rfl rfl rfl (q_ld Try.isAgg57 rfl rfl) ?_
      refine .cons rfl rfl rfl rfl rfl (q_fieldAddr fa_63_4 rfl) ?_
      refine .cons rfl rfl rfl rfl rfl (q_nilCheck rfl) ?_
      refine .cons rfl rfl rfl rfl rfl (q_move rfl) ?_
      refine .cons rfl rfl rfl rfl rfl (q_move rfl) ?_
      exact .nil
    refine gp_fronto b78 ?_
    refine gp_take (Own 95 2 (.slice S.la S.N S.lc) S.N (rowsN S.N (fun j => chR (S.C j)))) ?_
    refine gp_effa 10 [4] [5, 3, 2, 1, 0] rfl rfl rfl rfl rfl rfl rfl (does_appendS 0 (sz := 2) (by_ := 16) (m2 := 1) (m3 := S.N + 1) (news := chR ⟨x1, al1, cl1, none, 0, x2, al2, cl2, none, 0, G, 0, false, []⟩) (X3 := rowsN (S.N + 1) (fun j => chR (upF S.C S.N ⟨x1, al1, cl1, none, 0, x2, al2, cl2, none, 0, G, 0, false, []⟩ j))) Try.underlying57 Try.type95 rfl rfl rfl rfl rfl rfl rfl rfl ⟨rfl, .inl ⟨_, _, _, rfl, .own (mem_getO 1 rfl)⟩⟩ rfl (by omega) (by simp only [maxLen]; omega) rfl (rowsN_push (r := chR) (K := S.N) (B := S.C) (x := ⟨x1, al1, cl1, none, 0, x2, al2, cl2, none, 0, G, 0, false, []⟩)) (fun _ _ => rfl)) ?_
    rintro _ _ ⟨a79, c79, ha79, rfl, rfl⟩
    refine ⟨?_, ?_⟩
    · refine .cons rfl rfl rfl rfl rfl (q_move rfl) ?_
      refine .cons rfl rfl rfl rfl rfl (q_fieldAddr fa_63_4 rfl) ?_
      refine .cons rfl rfl rfl rfl rfl (q_nilCheck rfl) ?_
      refine .cons rfl rfl rfl rfl rfl (q_move rfl) ?_
      refine .cons rfl rfl rfl rfl rfl (q_move rfl) ?_
      exact .nil
    refine gp_quiet 11 rfl rfl rfl rfl rfl rfl (q_nilCheck rfl) ?_
    refine gp_quiet 12 rfl rfl rfl rfl rfl rfl (q_fieldAddr fa_63_4 rfl) ?_
    refine gp_effa 13 [0, 1, 2, 3, 5, 12] [11] rfl rfl rfl rfl rfl rfl rfl (does_st Try.sizeOf57 rfl rfl rfl rfl) ?_
    rintro _ _ ⟨rfl, rfl⟩
    refine ⟨?_, ?_⟩
    · refine .cons rfl rfl rfl rfl rfl (q_nilCheck rfl) ?_
      exact .nil
    refine gp_end rfl rfl ?_
    refine g_seq ?_
    refine g_region ?_
    refine l_move rfl rfl ?_
    refine l_move rfl rfl ?_
    refine l_split 83 rfl ?_ ?_
    · intro hbr
      have hb83 := hbr
      refine l_guard_yes rfl rfl ?_
      refine l_move rfl rfl ?_
      refine l_guard_yes rfl rfl ?_
      refine l_nepn rfl Try.underlying28 rfl rfl ?_
      refine l_pick_t rfl rfl rfl ?_
      refine l_assign rfl rfl ?_
      refine l_nil ?_
      refine g_take (BigF S.N (fun j => chA (S.C j))) ?_
      refine g_own_nil 51 1 ?_
      refine g_take (Own 3 1 (.slice al2 G.length cl2) G.length (ints .i64 G)) ?_
      refine g_take (Blk x2 (.cells [Value.slice al2 G.length cl2, .int .i64 0, .bool false, .slice none 0 0].toArray 104 (0, 0))) ?_
      refine g_own_nil 51 1 ?_
      refine g_take (Own 3 1 (.slice al1 G.length cl1) G.length (ints .i64 G)) ?_
      refine g_take (Blk x1 (.cells [Value.slice al1 G.length cl1, .int .i64 0, .bool false, .slice none 0 0].toArray 84 (0, 0))) ?_
      refine g_snocc (c := ⟨x1, al1, cl1, none, 0, x2, al2, cl2, none, 0, G, 0, false, []⟩) ?_
      obtain ⟨g79, rfl⟩ := ha79.resolve_left (by omega)
      refine g_ret Try.func19 rfl (.tmp rfl .nil) ?_
      exact Gives.mki ⟨⟨S.m, S.p, S.N + 1, upF S.C S.N ⟨x1, al1, cl1, none, 0, x2, al2, cl2, none, 0, G, 0, false, []⟩, some ⟨g79, 0, none⟩, c79, S.K, S.B, S.ka, S.kc⟩, (by first | rfl | exact congrArg Value.bool (decide_eq_true rfl) | (simp [resVal]; done)), hS.new (c := ⟨x1, al1, cl1, none, 0, x2, al2, cl2, none, 0, G, 0, false, []⟩) ⟨hsg, hGb, hal1, .inl rfl, hal2, .inl rfl, ⟨Int.le_refl _, by simp only; omega, fun h => (by cases h), fun _ => rfl⟩, fun i => by simp⟩ g79 c79, ⟨rfl, rfl, rfl⟩, ⟨by simp only [upF_at], by simp only [upF_at], by simp only [upF_at], by simp only [upF_at]⟩, rfl⟩
    · intro hbr
      first | (exfalso; simp at hbr; done) | (exfalso; simp at hbr; omega) | (exfalso; first | omega | (simp at hbr; done))
  · intro hbr
    have hbr := of_decide_eq_false hbr
    (exfalso; first | omega | (simp at hbr; done))
set_option maxHeartbeats 16000000 in
theorem makes_rest (w0 : World) (F : List Atom) (wb : Nat) (S : WS) (hS : SOk S) (hN : S.N ≤ 1099511627776) (hK : S.K ≤ 1099511627000) (kd : Int) (kd0 : -9223372036854775808 ≤ kd) (kd1 : kd ≤ 9223372036854775807) (who : Int) (who0 : -9223372036854775808 ≤ who) (who1 : who ≤ 9223372036854775807) (oa : Int) (oa0 : -9223372036854775808 ≤ oa) (oa1 : oa ≤ 9223372036854775807) (ob : Int) (ob0 : -9223372036854775808 ≤ ob) (ob1 : ob ≤ 9223372036854775807) (oq : Bool) (ox : Int) (ox0 : 0 ≤ ox) (ox1 : ox ≤ 4294967295) (ga : Option Addr) (gc : Nat) (G : List Int) (hsg : G.length ≤ 2147483647) (hG : RA w0 F .i64 ga G.length gc G) (hGb : I64s G) (sa : Option Addr) (sc : Nat) (Y : List Int) (hsn : Y.length ≤ 2147483647) (hY : RA w0 F .u32 sa Y.length sc Y) (hYU : W32s Y) (hk : kd ≠ 5) (hk2 : kd ≠ 10) (hok : ChOk G.length ob oq Y.length) :
    CallK Try.prog 19 [.pointer (some ⟨wb, 0, none⟩), .agg [Value.int .i64 kd, .int .i64 who, .int .i64 oa, .int .i64 ob, .bool oq, .int .u32 ox, .slice ga G.length gc, .slice sa Y.length sc].toArray] w0 (Blk wb (.cells [Value.pointer (some ⟨S.m.x, 0, none⟩), .pointer (some ⟨S.m.y, 0, none⟩), .pointer (some ⟨S.p.x, 0, none⟩), .pointer (some ⟨S.p.y, 0, none⟩), .slice S.la S.N S.lc, .slice S.ka S.K S.kc, .slice none 0 0].toArray 63 (0, 0)) :: mpA S.m :: mpA S.p :: Own 95 2 (.slice S.la S.N S.lc) S.N (rowsN S.N (fun j => chR (S.C j))) :: BigF S.N (fun j => chA (S.C j)) :: Own 111 4 (.slice S.ka S.K S.kc) S.K (rowsN S.K (fun j => bkR (S.B j))) :: BigF S.K (fun j => bkA (S.B j)) :: F) (Gives w0 fun v F2 => ∃ S' : WS, v = .bool true ∧ SOk S' ∧ (S.N ≤ S'.N ∧ S'.N ≤ S.N + 1 ∧ S'.K ≤ S.K + 0) ∧ F2 = Blk wb (.cells [Value.pointer (some ⟨S'.m.x, 0, none⟩), .pointer (some ⟨S'.m.y, 0, none⟩), .pointer (some ⟨S'.p.x, 0, none⟩), .pointer (some ⟨S'.p.y, 0, none⟩), .slice S'.la S'.N S'.lc, .slice S'.ka S'.K S'.kc, .slice none 0 0].toArray 63 (0, 0)) :: mpA S'.m :: mpA S'.p :: Own 95 2 (.slice S'.la S'.N S'.lc) S'.N (rowsN S'.N (fun j => chR (S'.C j))) :: BigF S'.N (fun j => chA (S'.C j)) :: Own 111 4 (.slice S'.ka S'.K S'.kc) S'.K (rowsN S'.K (fun j => bkR (S'.B j))) :: BigF S'.K (fun j => bkA (S'.B j)) :: F) := by
  refine c_enter Try.func19 rfl rfl rfl ?_
  refine g_seq ?_
  refine g_region ?_
  refine l_boxs rfl rfl ?_; intro b3
  refine l_assign rfl rfl ?_
  refine l_nil ?_
  refine g_seq ?_
  refine g_region ?_
  refine l_fieldAddr rfl fa_53_6 rfl ?_
  refine l_ld rfl Try.isAgg23 rfl rfl ?_
  refine l_assign rfl rfl ?_
  refine l_nil ?_
  refine g_seq ?_
  refine g_region ?_
  refine l_fieldAddr rfl fa_53_3 rfl ?_
  first | refine l_ld rfl Try.isAgg3 rfl rfl ?_ | refine l_ldw rfl Try.isAgg3 rfl (by omega) ?_
  refine l_assign rfl rfl ?_
  refine l_nil ?_
  refine g_seq ?_
  refine g_region ?_
  refine l_fieldAddr rfl fa_53_4 rfl ?_
  refine l_ld rfl Try.isAgg4 rfl rfl ?_
  refine l_assign rfl rfl ?_
  refine l_nil ?_
  refine g_seq ?_
  refine g_region ?_
  refine l_fieldAddr rfl fa_53_7 rfl ?_
  refine l_ld rfl Try.isAgg38 rfl rfl ?_
  refine l_assign rfl rfl ?_
  refine l_nil ?_
  refine g_seq ?_
  refine g_seq ?_
  refine g_region ?_
  refine l_fieldAddr rfl fa_53_0 rfl ?_
  first | refine l_ld rfl Try.isAgg3 rfl rfl ?_ | refine l_ldw rfl Try.isAgg3 rfl (by omega) ?_
  refine l_eql rfl rfl rfl ?_
  refine l_nil ?_
  refine g_cond rfl ?_ ?_
  · intro hbr
    have hbr := of_decide_eq_true hbr
    (exfalso; first | omega | (simp at hbr; done))
  intro hbr
  have hbr := of_decide_eq_false hbr
  refine g_skip ?_
  refine g_seq ?_
  refine g_region ?_
  refine l_move rfl rfl ?_
  refine l_call rfl Try.call47 rfl (lenti_ok _ _ ga G.length gc G rfl hG.ir.ex hsg hGb) ?_; rintro _ _ ⟨gi, XI, rfl, hXI, rfl⟩
  refine l_assign rfl rfl ?_
  refine l_nil ?_
  refine g_seq ?_
  refine g_region ?_
  refine l_move rfl rfl ?_
  refine l_call rfl Try.call48 rfl (lent_ok _ _ sa Y.length sc Y rfl hY.ir.ex hsn hYU) ?_; rintro _ _ ⟨gw, XW, rfl, hXW, rfl⟩
  refine l_assign rfl rfl ?_
  refine l_nil ?_
  refine g_seq ?_
  refine g_seq ?_
  refine g_region ?_
  refine l_fieldAddr rfl fa_53_0 rfl ?_
  first | refine l_ld rfl Try.isAgg3 rfl rfl ?_ | refine l_ldw rfl Try.isAgg3 rfl (by omega) ?_
  refine l_eql rfl rfl rfl ?_
  refine l_nil ?_
  refine g_cond rfl ?_ ?_
  · intro hbr
    have hbr := of_decide_eq_true hbr
    (exfalso; first | omega | (simp at hbr; done))
  intro hbr
  have hbr := of_decide_eq_false hbr
  refine g_skip ?_
  refine g_seq ?_
  refine g_region ?_
  refine l_move rfl rfl ?_
  refine l_move rfl rfl ?_
  refine l_move rfl rfl ?_
  refine l_move rfl rfl ?_
  refine l_call rfl Try.call28 rfl (lrest_ok _ _ gi 0 (G.length + 9) G (lenti_row (E := 3) hXI rfl (by first | exact mem_getO 0 rfl | exact mem_getO 1 rfl | exact mem_getO 2 rfl | exact mem_getO 3 rfl | exact mem_getO 4 rfl | exact mem_getO 5 rfl | exact mem_getO 6 rfl | exact mem_getO 7 rfl | exact mem_getO 8 rfl | exact mem_getO 9 rfl | exact mem_getO 10 rfl | exact mem_getO 11 rfl | exact mem_getO 12 rfl | exact mem_getO 13 rfl | exact mem_getO 14 rfl | exact mem_getO 15 rfl | exact mem_getO 16 rfl | exact mem_getO 17 rfl | exact mem_getO 18 rfl | exact mem_getO 19 rfl | exact mem_getO 20 rfl | exact mem_getO 21 rfl)) hsg ob ob0 ob1 oq gw 0 Y.length (Y.length + 9) Y rfl (lent_row (E := 51) hXW rfl (by first | exact mem_getO 0 rfl | exact mem_getO 1 rfl | exact mem_getO 2 rfl | exact mem_getO 3 rfl | exact mem_getO 4 rfl | exact mem_getO 5 rfl | exact mem_getO 6 rfl | exact mem_getO 7 rfl | exact mem_getO 8 rfl | exact mem_getO 9 rfl | exact mem_getO 10 rfl | exact mem_getO 11 rfl | exact mem_getO 12 rfl | exact mem_getO 13 rfl | exact mem_getO 14 rfl | exact mem_getO 15 rfl | exact mem_getO 16 rfl | exact mem_getO 17 rfl | exact mem_getO 18 rfl | exact mem_getO 19 rfl | exact mem_getO 20 rfl | exact mem_getO 21 rfl)) hsn hok) ?_; rintro _ _ ⟨x1, al1, cl1, tt1, ct1, rfl, hal1, htt1, rfl⟩
  refine l_move rfl rfl ?_
  refine l_extract rfl rfl rfl ?_
  refine l_extract rfl rfl rfl ?_
  refine l_assign rfl rfl ?_
  refine l_assign rfl rfl ?_
  refine l_nil ?_
  refine g_seq ?_
  refine g_region ?_
  refine l_move rfl rfl ?_
  refine l_move rfl rfl ?_
  refine l_move rfl rfl ?_
  refine l_move rfl rfl ?_
  refine l_call rfl Try.call51 rfl (rrest_ok _ _ ga gc G hG.ex hsg ob ob0 ob1 oq sa Y.length sc Y hY.ex hsn hok) ?_; rintro _ _ ⟨x2, al2, cl2, tt2, ct2, rfl, hal2, htt2, rfl⟩
  refine l_move rfl rfl ?_
  refine l_extract rfl rfl rfl ?_
  refine l_extract rfl rfl rfl ?_
  refine l_assign rfl rfl ?_
  refine l_assign rfl rfl ?_
  refine l_nil ?_
  refine g_seq ?_
  refine g_region ?_
  refine l_move rfl rfl ?_
  refine l_move rfl rfl ?_
  refine l_take (Own 3 1 (.slice (some ⟨gi, 0, none⟩) (G.length + 9) (G.length + 9)) (G.length + 9) (ints .i64 XI)) ?_
  refine l_call rfl Try.call49 rfl (backi_ok _ _ gi XI ga G.length gc G rfl hG.ir.ex hsg hGb hXI) ?_; rintro _ _ ⟨rfl, rfl⟩
  refine l_assign rfl rfl ?_
  refine l_nil ?_
  refine g_seq ?_
  refine g_region ?_
  refine l_move rfl rfl ?_
  refine l_move rfl rfl ?_
  refine l_take (Own 51 1 (.slice (some ⟨gw, 0, none⟩) (Y.length + 9) (Y.length + 9)) (Y.length + 9) (ints .u32 XW)) ?_
  refine l_call rfl Try.call52 rfl (back_ok _ _ gw XW sa Y.length sc Y rfl hY.ir.ex hsn hYU hXW) ?_; rintro _ _ ⟨rfl, rfl⟩
  refine l_assign rfl rfl ?_
  refine l_nil ?_
  refine g_seq ?_
  refine g_seq ?_
  refine g_region ?_
  refine l_move rfl rfl ?_
  refine l_move rfl rfl ?_
  refine l_neq rfl rfl rfl ?_
  refine l_move rfl rfl ?_
  refine l_split 112 rfl ?_ ?_
  · intro hbr
    have hbr := of_decide_eq_true hbr
    (exfalso; first | omega | (simp at hbr; done))
  intro hbr
  have hbr := of_decide_eq_false hbr
  refine l_guard_yes rfl rfl ?_
  refine l_move rfl rfl ?_
  refine l_guard_yes rfl rfl ?_
  refine l_eqpn rfl Try.underlying28 rfl rfl ?_
  refine l_guard_yes rfl rfl ?_
  refine l_move rfl rfl ?_
  refine l_guard_yes rfl rfl ?_
  refine l_eqpn rfl Try.underlying93 rfl rfl ?_
  refine l_guard_yes rfl rfl ?_
  refine l_neqb rfl Try.underlying4 rfl rfl ?_
  refine l_pick_f rfl rfl rfl ?_
  refine l_move rfl rfl ?_
  refine l_split 119 rfl ?_ ?_
  · intro hbr
    first | (exfalso; simp at hbr; done) | (exfalso; simp at hbr; omega) | (exfalso; first | omega | (simp at hbr; done))
  intro hbr
  have hb119 := hbr
  refine l_guard_yes rfl rfl ?_
  refine l_move rfl rfl ?_
  refine l_guard_yes rfl rfl ?_
  refine l_not rfl rfl ?_
  refine l_pick_f rfl rfl rfl ?_
  refine l_move rfl rfl ?_
  refine l_split 123 rfl ?_ ?_
  · intro hbr
    first | (exfalso; simp at hbr; done) | (exfalso; simp at hbr; omega) | (exfalso; first | omega | (simp at hbr; done))
  intro hbr
  have hb123 := hbr
  refine l_guard_yes rfl rfl ?_
  refine l_move rfl rfl ?_
  refine l_guard_yes rfl rfl ?_
  refine l_not rfl rfl ?_
  refine l_pick_f rfl rfl rfl ?_
  refine l_nil ?_
  refine g_cond rfl ?_ ?_
  · intro hbr
    first | (exfalso; simp at hbr; done) | (exfalso; simp at hbr; omega) | (exfalso; first | omega | (simp at hbr; done))
  intro hbr
  have hb126 := hbr
  refine g_skip ?_
  refine g_seq ?_
  refine g_seq ?_
  refine g_region ?_
  refine l_move rfl rfl ?_
  refine l_nepn rfl Try.underlying93 rfl rfl ?_
  refine l_nil ?_
  refine g_cond rfl ?_ ?_
  · intro hbr
    have hb128 := hbr
    refine g_region ?_
    refine l_move rfl rfl ?_
    refine l_move rfl rfl ?_
    refine l_nilCheck rfl rfl ?_
    refine l_fieldAddr rfl fa_63_4 rfl ?_
    refine l_ld rfl Try.isAgg57 rfl rfl ?_
    refine l_move rfl rfl ?_
    refine l_move rfl rfl ?_
    refine l_build rfl rfl (fun w => bd_95_0_1 _ _ w) ?_
    refine l_buildSlice rfl Try.underlying57 Try.sizeOf95 Try.zeroValue95 rfl rfl rfl rfl rfl rfl ?_; intro b137
    refine l_fronto b137 ?_
    refine l_take (Own 95 2 (.slice S.la S.N S.lc) S.N (rowsN S.N (fun j => chR (S.C j)))) ?_
    refine l_does rfl (does_appendS 0 (sz := 2) (by_ := 16) (m2 := 1) (m3 := S.N + 1) (news := chR ⟨x1, al1, cl1, tt1, ct1, x2, al2, cl2, tt2, ct2, G, ob, oq, Y⟩) (X3 := rowsN (S.N + 1) (fun j => chR (upF S.C S.N ⟨x1, al1, cl1, tt1, ct1, x2, al2, cl2, tt2, ct2, G, ob, oq, Y⟩ j))) Try.underlying57 Try.type95 rfl rfl rfl rfl rfl rfl rfl rfl ⟨rfl, .inl ⟨_, _, _, rfl, .own (mem_getO 1 rfl)⟩⟩ rfl (by omega) (by simp only [maxLen]; omega) rfl (rowsN_push (r := chR) (K := S.N) (B := S.C) (x := ⟨x1, al1, cl1, tt1, ct1, x2, al2, cl2, tt2, ct2, G, ob, oq, Y⟩)) (fun _ _ => rfl)) ?_
    rintro _ _ ⟨a138, c138, ha138, rfl, rfl⟩
    refine l_nilCheck rfl rfl ?_
    refine l_fieldAddr rfl fa_63_4 rfl ?_
    refine l_st Try.sizeOf57 rfl rfl rfl rfl ?_
    refine l_nil ?_
    refine g_seq ?_
    refine g_region ?_
    refine l_assign rfl rfl ?_
    refine l_nil ?_
    refine g_take (BigF S.N (fun j => chA (S.C j))) ?_
    refine g_take (Own 51 1 (.slice tt2 Y.length ct2) Y.length (ints .u32 Y)) ?_
    refine g_take (Own 3 1 (.slice al2 G.length cl2) G.length (ints .i64 G)) ?_
    refine g_take (Blk x2 (.cells [Value.slice al2 G.length cl2, .int .i64 ob, .bool oq, .slice tt2 Y.length ct2].toArray 104 (0, 0))) ?_
    refine g_take (Own 51 1 (.slice tt1 Y.length ct1) Y.length (ints .u32 Y)) ?_
    refine g_take (Own 3 1 (.slice al1 G.length cl1) G.length (ints .i64 G)) ?_
    refine g_take (Blk x1 (.cells [Value.slice al1 G.length cl1, .int .i64 ob, .bool oq, .slice tt1 Y.length ct1].toArray 84 (0, 0))) ?_
    refine g_snocc (c := ⟨x1, al1, cl1, tt1, ct1, x2, al2, cl2, tt2, ct2, G, ob, oq, Y⟩) ?_
    obtain ⟨g138, rfl⟩ := ha138.resolve_left (by omega)
    refine g_ret Try.func19 rfl (.tmp rfl .nil) ?_
    exact Gives.mki ⟨⟨S.m, S.p, S.N + 1, upF S.C S.N ⟨x1, al1, cl1, tt1, ct1, x2, al2, cl2, tt2, ct2, G, ob, oq, Y⟩, some ⟨g138, 0, none⟩, c138, S.K, S.B, S.ka, S.kc⟩, (by first | rfl | exact congrArg Value.bool (decide_eq_true rfl) | (simp [resVal]; done)), hS.new (c := ⟨x1, al1, cl1, tt1, ct1, x2, al2, cl2, tt2, ct2, G, ob, oq, Y⟩) ⟨hsg, hGb, hal1, htt1, hal2, htt2, hok, hYU⟩ g138 c138, ⟨by simp only; omega, Nat.le_refl _, by simp only; omega⟩, rfl⟩
  · intro hbr
    first | (exfalso; simp at hbr; done) | (exfalso; simp at hbr; omega) | (exfalso; first | omega | (simp at hbr; done))
set_option maxHeartbeats 16000000 in
theorem makes_no (w0 : World) (F : List Atom) (wb : Nat) (S : WS) (hS : SOk S) (hN : S.N ≤ 1099511627776) (hK : S.K ≤ 1099511627000) (kd : Int) (kd0 : -9223372036854775808 ≤ kd) (kd1 : kd ≤ 9223372036854775807) (who : Int) (who0 : -9223372036854775808 ≤ who) (who1 : who ≤ 9223372036854775807) (oa : Int) (oa0 : -9223372036854775808 ≤ oa) (oa1 : oa ≤ 9223372036854775807) (ob : Int) (ob0 : -9223372036854775808 ≤ ob) (ob1 : ob ≤ 9223372036854775807) (oq : Bool) (ox : Int) (ox0 : 0 ≤ ox) (ox1 : ox ≤ 4294967295) (ga : Option Addr) (gc : Nat) (G : List Int) (hsg : G.length ≤ 2147483647) (hG : RA w0 F .i64 ga G.length gc G) (hGb : I64s G) (sa : Option Addr) (sc : Nat) (Y : List Int) (hsn : Y.length ≤ 2147483647) (hY : RA w0 F .u32 sa Y.length sc Y) (hYU : W32s Y) (hk : kd ≠ 5) (hk2 : kd ≠ 10) (hok : ¬ ChOk G.length ob oq Y.length) :
    CallK Try.prog 19 [.pointer (some ⟨wb, 0, none⟩), .agg [Value.int .i64 kd, .int .i64 who, .int .i64 oa, .int .i64 ob, .bool oq, .int .u32 ox, .slice ga G.length gc, .slice sa Y.length sc].toArray] w0 (Blk wb (.cells [Value.pointer (some ⟨S.m.x, 0, none⟩), .pointer (some ⟨S.m.y, 0, none⟩), .pointer (some ⟨S.p.x, 0, none⟩), .pointer (some ⟨S.p.y, 0, none⟩), .slice S.la S.N S.lc, .slice S.ka S.K S.kc, .slice none 0 0].toArray 63 (0, 0)) :: mpA S.m :: mpA S.p :: Own 95 2 (.slice S.la S.N S.lc) S.N (rowsN S.N (fun j => chR (S.C j))) :: BigF S.N (fun j => chA (S.C j)) :: Own 111 4 (.slice S.ka S.K S.kc) S.K (rowsN S.K (fun j => bkR (S.B j))) :: BigF S.K (fun j => bkA (S.B j)) :: F) (Gives w0 fun v F2 => ∃ S' : WS, v = .bool true ∧ SOk S' ∧ (S.N ≤ S'.N ∧ S'.N ≤ S.N + 1 ∧ S'.K ≤ S.K + 0) ∧ F2 = Blk wb (.cells [Value.pointer (some ⟨S'.m.x, 0, none⟩), .pointer (some ⟨S'.m.y, 0, none⟩), .pointer (some ⟨S'.p.x, 0, none⟩), .pointer (some ⟨S'.p.y, 0, none⟩), .slice S'.la S'.N S'.lc, .slice S'.ka S'.K S'.kc, .slice none 0 0].toArray 63 (0, 0)) :: mpA S'.m :: mpA S'.p :: Own 95 2 (.slice S'.la S'.N S'.lc) S'.N (rowsN S'.N (fun j => chR (S'.C j))) :: BigF S'.N (fun j => chA (S'.C j)) :: Own 111 4 (.slice S'.ka S'.K S'.kc) S'.K (rowsN S'.K (fun j => bkR (S'.B j))) :: BigF S'.K (fun j => bkA (S'.B j)) :: F) := by
  refine c_enter Try.func19 rfl rfl rfl ?_
  refine g_seq ?_
  refine g_region ?_
  refine l_boxs rfl rfl ?_; intro b3
  refine l_assign rfl rfl ?_
  refine l_nil ?_
  refine g_seq ?_
  refine g_region ?_
  refine l_fieldAddr rfl fa_53_6 rfl ?_
  refine l_ld rfl Try.isAgg23 rfl rfl ?_
  refine l_assign rfl rfl ?_
  refine l_nil ?_
  refine g_seq ?_
  refine g_region ?_
  refine l_fieldAddr rfl fa_53_3 rfl ?_
  first | refine l_ld rfl Try.isAgg3 rfl rfl ?_ | refine l_ldw rfl Try.isAgg3 rfl (by omega) ?_
  refine l_assign rfl rfl ?_
  refine l_nil ?_
  refine g_seq ?_
  refine g_region ?_
  refine l_fieldAddr rfl fa_53_4 rfl ?_
  refine l_ld rfl Try.isAgg4 rfl rfl ?_
  refine l_assign rfl rfl ?_
  refine l_nil ?_
  refine g_seq ?_
  refine g_region ?_
  refine l_fieldAddr rfl fa_53_7 rfl ?_
  refine l_ld rfl Try.isAgg38 rfl rfl ?_
  refine l_assign rfl rfl ?_
  refine l_nil ?_
  refine g_seq ?_
  refine g_seq ?_
  refine g_region ?_
  refine l_fieldAddr rfl fa_53_0 rfl ?_
  first | refine l_ld rfl Try.isAgg3 rfl rfl ?_ | refine l_ldw rfl Try.isAgg3 rfl (by omega) ?_
  refine l_eql rfl rfl rfl ?_
  refine l_nil ?_
  refine g_cond rfl ?_ ?_
  · intro hbr
    have hbr := of_decide_eq_true hbr
    (exfalso; first | omega | (simp at hbr; done))
  intro hbr
  have hbr := of_decide_eq_false hbr
  refine g_skip ?_
  refine g_seq ?_
  refine g_region ?_
  refine l_move rfl rfl ?_
  refine l_call rfl Try.call47 rfl (lenti_ok _ _ ga G.length gc G rfl hG.ir.ex hsg hGb) ?_; rintro _ _ ⟨gi, XI, rfl, hXI, rfl⟩
  refine l_assign rfl rfl ?_
  refine l_nil ?_
  refine g_seq ?_
  refine g_region ?_
  refine l_move rfl rfl ?_
  refine l_call rfl Try.call48 rfl (lent_ok _ _ sa Y.length sc Y rfl hY.ir.ex hsn hYU) ?_; rintro _ _ ⟨gw, XW, rfl, hXW, rfl⟩
  refine l_assign rfl rfl ?_
  refine l_nil ?_
  refine g_seq ?_
  refine g_seq ?_
  refine g_region ?_
  refine l_fieldAddr rfl fa_53_0 rfl ?_
  first | refine l_ld rfl Try.isAgg3 rfl rfl ?_ | refine l_ldw rfl Try.isAgg3 rfl (by omega) ?_
  refine l_eql rfl rfl rfl ?_
  refine l_nil ?_
  refine g_cond rfl ?_ ?_
  · intro hbr
    have hbr := of_decide_eq_true hbr
    (exfalso; first | omega | (simp at hbr; done))
  intro hbr
  have hbr := of_decide_eq_false hbr
  refine g_skip ?_
  refine g_seq ?_
  refine g_region ?_
  refine l_move rfl rfl ?_
  refine l_move rfl rfl ?_
  refine l_move rfl rfl ?_
  refine l_move rfl rfl ?_
  refine l_call rfl Try.call28 rfl (lrno_any _ _ gi 0 (G.length + 9) G (lenti_row (E := 3) hXI rfl (by first | exact mem_getO 0 rfl | exact mem_getO 1 rfl | exact mem_getO 2 rfl | exact mem_getO 3 rfl | exact mem_getO 4 rfl | exact mem_getO 5 rfl | exact mem_getO 6 rfl | exact mem_getO 7 rfl | exact mem_getO 8 rfl | exact mem_getO 9 rfl | exact mem_getO 10 rfl | exact mem_getO 11 rfl | exact mem_getO 12 rfl | exact mem_getO 13 rfl | exact mem_getO 14 rfl | exact mem_getO 15 rfl | exact mem_getO 16 rfl | exact mem_getO 17 rfl | exact mem_getO 18 rfl | exact mem_getO 19 rfl | exact mem_getO 20 rfl | exact mem_getO 21 rfl)) hsg ob ob0 ob1 oq gw 0 Y.length (Y.length + 9) Y rfl (lent_row (E := 51) hXW rfl (by first | exact mem_getO 0 rfl | exact mem_getO 1 rfl | exact mem_getO 2 rfl | exact mem_getO 3 rfl | exact mem_getO 4 rfl | exact mem_getO 5 rfl | exact mem_getO 6 rfl | exact mem_getO 7 rfl | exact mem_getO 8 rfl | exact mem_getO 9 rfl | exact mem_getO 10 rfl | exact mem_getO 11 rfl | exact mem_getO 12 rfl | exact mem_getO 13 rfl | exact mem_getO 14 rfl | exact mem_getO 15 rfl | exact mem_getO 16 rfl | exact mem_getO 17 rfl | exact mem_getO 18 rfl | exact mem_getO 19 rfl | exact mem_getO 20 rfl | exact mem_getO 21 rfl)) hsn hok) ?_; rintro _ _ ⟨rfl, rfl⟩
  refine l_move rfl rfl ?_
  refine l_extract rfl rfl rfl ?_
  refine l_extract rfl rfl rfl ?_
  refine l_assign rfl rfl ?_
  refine l_assign rfl rfl ?_
  refine l_nil ?_
  refine g_seq ?_
  refine g_region ?_
  refine l_move rfl rfl ?_
  refine l_move rfl rfl ?_
  refine l_move rfl rfl ?_
  refine l_move rfl rfl ?_
  refine l_call rfl Try.call51 rfl (rrno_any _ _ ga gc G hG.ex hsg ob ob0 ob1 oq sa Y.length sc Y hY.ex hsn hok) ?_; rintro _ _ ⟨rfl, rfl⟩
  refine l_move rfl rfl ?_
  refine l_extract rfl rfl rfl ?_
  refine l_extract rfl rfl rfl ?_
  refine l_assign rfl rfl ?_
  refine l_assign rfl rfl ?_
  refine l_nil ?_
  refine g_seq ?_
  refine g_region ?_
  refine l_move rfl rfl ?_
  refine l_move rfl rfl ?_
  refine l_take (Own 3 1 (.slice (some ⟨gi, 0, none⟩) (G.length + 9) (G.length + 9)) (G.length + 9) (ints .i64 XI)) ?_
  refine l_call rfl Try.call49 rfl (backi_ok _ _ gi XI ga G.length gc G rfl hG.ir.ex hsg hGb hXI) ?_; rintro _ _ ⟨rfl, rfl⟩
  refine l_assign rfl rfl ?_
  refine l_nil ?_
  refine g_seq ?_
  refine g_region ?_
  refine l_move rfl rfl ?_
  refine l_move rfl rfl ?_
  refine l_take (Own 51 1 (.slice (some ⟨gw, 0, none⟩) (Y.length + 9) (Y.length + 9)) (Y.length + 9) (ints .u32 XW)) ?_
  refine l_call rfl Try.call52 rfl (back_ok _ _ gw XW sa Y.length sc Y rfl hY.ir.ex hsn hYU hXW) ?_; rintro _ _ ⟨rfl, rfl⟩
  refine l_assign rfl rfl ?_
  refine l_nil ?_
  refine g_seq ?_
  refine g_seq ?_
  refine g_region ?_
  refine l_move rfl rfl ?_
  refine l_move rfl rfl ?_
  refine l_neq rfl rfl rfl ?_
  refine l_move rfl rfl ?_
  refine l_split 112 rfl ?_ ?_
  · intro hbr
    have hbr := of_decide_eq_true hbr
    (exfalso; first | omega | (simp at hbr; done))
  intro hbr
  have hbr := of_decide_eq_false hbr
  refine l_guard_yes rfl rfl ?_
  refine l_move rfl rfl ?_
  refine l_guard_yes rfl rfl ?_
  refine l_eqpn rfl Try.underlying28 rfl rfl ?_
  refine l_guard_yes rfl rfl ?_
  refine l_move rfl rfl ?_
  refine l_guard_yes rfl rfl ?_
  refine l_eqpn rfl Try.underlying93 rfl rfl ?_
  refine l_guard_yes rfl rfl ?_
  refine l_neqb rfl Try.underlying4 rfl rfl ?_
  refine l_pick_f rfl rfl rfl ?_
  refine l_move rfl rfl ?_
  refine l_split 119 rfl ?_ ?_
  · intro hbr
    first | (exfalso; simp at hbr; done) | (exfalso; simp at hbr; omega) | (exfalso; first | omega | (simp at hbr; done))
  intro hbr
  have hb119 := hbr
  refine l_guard_yes rfl rfl ?_
  refine l_move rfl rfl ?_
  refine l_guard_yes rfl rfl ?_
  refine l_not rfl rfl ?_
  refine l_pick_f rfl rfl rfl ?_
  refine l_move rfl rfl ?_
  refine l_split 123 rfl ?_ ?_
  · intro hbr
    first | (exfalso; simp at hbr; done) | (exfalso; simp at hbr; omega) | (exfalso; first | omega | (simp at hbr; done))
  intro hbr
  have hb123 := hbr
  refine l_guard_yes rfl rfl ?_
  refine l_move rfl rfl ?_
  refine l_guard_yes rfl rfl ?_
  refine l_not rfl rfl ?_
  refine l_pick_f rfl rfl rfl ?_
  refine l_nil ?_
  refine g_cond rfl ?_ ?_
  · intro hbr
    first | (exfalso; simp at hbr; done) | (exfalso; simp at hbr; omega) | (exfalso; first | omega | (simp at hbr; done))
  intro hbr
  have hb126 := hbr
  refine g_skip ?_
  refine g_seq ?_
  refine g_seq ?_
  refine g_region ?_
  refine l_move rfl rfl ?_
  refine l_nepn rfl Try.underlying93 rfl rfl ?_
  refine l_nil ?_
  refine g_cond rfl ?_ ?_
  · intro hbr
    first | (exfalso; simp at hbr; done) | (exfalso; simp at hbr; omega) | (exfalso; first | omega | (simp at hbr; done))
  intro hbr
  have hb128 := hbr
  refine g_skip ?_
  refine g_seq ?_
  refine g_region ?_
  refine l_assign rfl rfl ?_
  refine l_nil ?_
  refine g_ret Try.func19 rfl (.tmp rfl .nil) ?_
  exact Gives.mki ⟨S, (by first | rfl | exact congrArg Value.bool (decide_eq_true rfl) | (simp [resVal]; done)), hS, ⟨Nat.le_refl _, by omega, by omega⟩, rfl⟩
set_option maxHeartbeats 16000000 in
theorem makes_again (w0 : World) (F : List Atom) (wb : Nat) (S : WS) (hS : SOk S) (hN : S.N ≤ 1099511627776) (hK : S.K ≤ 1099511627000) (kd : Int) (kd0 : -9223372036854775808 ≤ kd) (kd1 : kd ≤ 9223372036854775807) (who : Int) (who0 : -9223372036854775808 ≤ who) (who1 : who ≤ 9223372036854775807) (oa : Int) (oa0 : -9223372036854775808 ≤ oa) (oa1 : oa ≤ 9223372036854775807) (ob : Int) (ob0 : -9223372036854775808 ≤ ob) (ob1 : ob ≤ 9223372036854775807) (oq : Bool) (ox : Int) (ox0 : 0 ≤ ox) (ox1 : ox ≤ 4294967295) (ga : Option Addr) (gc : Nat) (G : List Int) (hsg : G.length ≤ 2147483647) (hG : RA w0 F .i64 ga G.length gc G) (hGb : I64s G) (sa : Option Addr) (sc : Nat) (Y : List Int) (hsn : Y.length ≤ 2147483647) (hY : RA w0 F .u32 sa Y.length sc Y) (hYU : W32s Y) (hN1 : 1 ≤ S.N) (hk : kd = 10) :
    CallK Try.prog 19 [.pointer (some ⟨wb, 0, none⟩), .agg [Value.int .i64 kd, .int .i64 who, .int .i64 oa, .int .i64 ob, .bool oq, .int .u32 ox, .slice ga G.length gc, .slice sa Y.length sc].toArray] w0 (Blk wb (.cells [Value.pointer (some ⟨S.m.x, 0, none⟩), .pointer (some ⟨S.m.y, 0, none⟩), .pointer (some ⟨S.p.x, 0, none⟩), .pointer (some ⟨S.p.y, 0, none⟩), .slice S.la S.N S.lc, .slice S.ka S.K S.kc, .slice none 0 0].toArray 63 (0, 0)) :: mpA S.m :: mpA S.p :: Own 95 2 (.slice S.la S.N S.lc) S.N (rowsN S.N (fun j => chR (S.C j))) :: BigF S.N (fun j => chA (S.C j)) :: Own 111 4 (.slice S.ka S.K S.kc) S.K (rowsN S.K (fun j => bkR (S.B j))) :: BigF S.K (fun j => bkA (S.B j)) :: F) (Gives w0 fun v F2 => ∃ S' : WS, v = .bool true ∧ SOk S' ∧ (S.N ≤ S'.N ∧ S'.N ≤ S.N + 1 ∧ S'.K ≤ S.K + 0) ∧ F2 = Blk wb (.cells [Value.pointer (some ⟨S'.m.x, 0, none⟩), .pointer (some ⟨S'.m.y, 0, none⟩), .pointer (some ⟨S'.p.x, 0, none⟩), .pointer (some ⟨S'.p.y, 0, none⟩), .slice S'.la S'.N S'.lc, .slice S'.ka S'.K S'.kc, .slice none 0 0].toArray 63 (0, 0)) :: mpA S'.m :: mpA S'.p :: Own 95 2 (.slice S'.la S'.N S'.lc) S'.N (rowsN S'.N (fun j => chR (S'.C j))) :: BigF S'.N (fun j => chA (S'.C j)) :: Own 111 4 (.slice S'.ka S'.K S'.kc) S'.K (rowsN S'.K (fun j => bkR (S'.B j))) :: BigF S'.K (fun j => bkA (S'.B j)) :: F) := by
  obtain ⟨i, hi⟩ : ∃ q : Nat, pk who (S.N : Int) = (q : Int) := ⟨(pk who (S.N : Int)).toNat, by have := pk_lt who (n := (S.N : Int)) (by omega); omega⟩
  have hiN : i < S.N := by have := pk_lt who (n := (S.N : Int)) (by omega); omega
  obtain ⟨c, hc⟩ : ∃ q, S.C i = q := ⟨_, rfl⟩
  have hco := hS.hC i hiN
  rw [hc] at hco
  obtain ⟨gl, hgl⟩ := hS.hla.resolve_left (by omega)
  have hTl : c.T.length ≤ 2147483647 := by
    obtain ⟨o0, o1, o2, o3⟩ := hco.ok
    have hl := hco.len
    cases hq : c.q
    · have := o3 hq; omega
    · have := o2 hq; omega
  have hb0 : -9223372036854775808 ≤ c.h := by have := hco.ok.1; omega
  have hb1 : c.h ≤ 9223372036854775807 := by have := hco.ok.2.1; have := hco.len; omega
  refine c_enter Try.func19 rfl rfl rfl ?_
  refine g_seq ?_
  refine g_region ?_
  refine l_boxs rfl rfl ?_; intro b3
  refine l_assign rfl rfl ?_
  refine l_nil ?_
  refine g_seq ?_
  refine g_region ?_
  refine l_fieldAddr rfl fa_53_6 rfl ?_
  refine l_ld rfl Try.isAgg23 rfl rfl ?_
  refine l_assign rfl rfl ?_
  refine l_nil ?_
  refine g_seq ?_
  refine g_region ?_
  refine l_fieldAddr rfl fa_53_3 rfl ?_
  first | refine l_ld rfl Try.isAgg3 rfl rfl ?_ | refine l_ldw rfl Try.isAgg3 rfl (by omega) ?_
  refine l_assign rfl rfl ?_
  refine l_nil ?_
  refine g_seq ?_
  refine g_region ?_
  refine l_fieldAddr rfl fa_53_4 rfl ?_
  refine l_ld rfl Try.isAgg4 rfl rfl ?_
  refine l_assign rfl rfl ?_
  refine l_nil ?_
  refine g_seq ?_
  refine g_region ?_
  refine l_fieldAddr rfl fa_53_7 rfl ?_
  refine l_ld rfl Try.isAgg38 rfl rfl ?_
  refine l_assign rfl rfl ?_
  refine l_nil ?_
  refine g_seq ?_
  refine g_seq ?_
  refine g_join0 (X := Option Addr × Nat) [(0, _), (3, _), (4, _)] (.cons rfl (.cons rfl (.cons rfl (.nil)))) (fun z => (c.T.length = 0 ∨ ∃ g, z.1 = some ⟨g, 0, none⟩)) (fun z => [(5, .slice c.al2 c.L.length c.cl2), (6, .int .i64 c.h), (7, .bool c.q), (8, .slice z.1 c.T.length z.2)]) (fun z => Own 51 1 (.slice z.1 c.T.length z.2) c.T.length (ints .u32 c.T) :: Blk b3 (.cells [Value.int .i64 kd, .int .i64 who, .int .i64 oa, .int .i64 ob, .bool oq, .int .u32 ox, .slice ga G.length gc, .slice sa Y.length sc].toArray 53 (0, 0)) :: Blk wb (.cells [Value.pointer (some ⟨S.m.x, 0, none⟩), .pointer (some ⟨S.m.y, 0, none⟩), .pointer (some ⟨S.p.x, 0, none⟩), .pointer (some ⟨S.p.y, 0, none⟩), .slice S.la S.N S.lc, .slice S.ka S.K S.kc, .slice none 0 0].toArray 63 (0, 0)) :: mpA S.m :: mpA S.p :: Own 95 2 (.slice S.la S.N S.lc) S.N (rowsN S.N (fun j => chR (S.C j))) :: BigF S.N (fun j => chA (S.C j)) :: Own 111 4 (.slice S.ka S.K S.kc) S.K (rowsN S.K (fun j => bkR (S.B j))) :: BigF S.K (fun j => bkA (S.B j)) :: F) ?_ ?_
  · rintro ⟨ta, tc⟩ hta
    dsimp only [List.cons_append, List.nil_append]
    refine g_seq ?_
    refine g_region ?_
    refine l_move rfl rfl ?_
    refine l_fact (ch_ra (j := i) (by first | exact mem_getO 0 rfl | exact mem_getO 1 rfl | exact mem_getO 2 rfl | exact mem_getO 3 rfl | exact mem_getO 4 rfl | exact mem_getO 5 rfl | exact mem_getO 6 rfl | exact mem_getO 7 rfl | exact mem_getO 8 rfl | exact mem_getO 9 rfl | exact mem_getO 10 rfl | exact mem_getO 11 rfl | exact mem_getO 12 rfl | exact mem_getO 13 rfl | exact mem_getO 14 rfl | exact mem_getO 15 rfl | exact mem_getO 16 rfl | exact mem_getO 17 rfl | exact mem_getO 18 rfl | exact mem_getO 19 rfl | exact mem_getO 20 rfl | exact mem_getO 21 rfl) hiN) ?_
    intro hR5
    rw [hc] at hR5
    refine l_call rfl Try.call47 rfl (lenti_ok _ _ c.al2 c.L.length c.cl2 c.L rfl hR5.ir hco.len hco.lb) ?_; rintro _ _ ⟨gi, XI, rfl, hXI, rfl⟩
    refine l_assign rfl rfl ?_
    refine l_nil ?_
    refine g_seq ?_
    refine g_region ?_
    refine l_move rfl rfl ?_
    refine l_fact (reads_of (E := 51) (v := .slice ta c.T.length tc) (kd := .u32) (W := c.T) (by first | exact mem_getO 0 rfl | exact mem_getO 1 rfl | exact mem_getO 2 rfl | exact mem_getO 3 rfl | exact mem_getO 4 rfl | exact mem_getO 5 rfl | exact mem_getO 6 rfl | exact mem_getO 7 rfl | exact mem_getO 8 rfl | exact mem_getO 9 rfl | exact mem_getO 10 rfl | exact mem_getO 11 rfl | exact mem_getO 12 rfl | exact mem_getO 13 rfl | exact mem_getO 14 rfl | exact mem_getO 15 rfl | exact mem_getO 16 rfl | exact mem_getO 17 rfl | exact mem_getO 18 rfl | exact mem_getO 19 rfl | exact mem_getO 20 rfl | exact mem_getO 21 rfl)) ?_
    intro hR8
    refine l_call rfl Try.call48 rfl (lent_ok _ _ ta c.T.length tc c.T rfl (RA.of hR8 rfl).ir hTl hco.u) ?_; rintro _ _ ⟨gw, XW, rfl, hXW, rfl⟩
    refine l_assign rfl rfl ?_
    refine l_nil ?_
    refine g_seq ?_
    refine g_seq ?_
    refine g_region ?_
    refine l_fieldAddr rfl fa_53_0 rfl ?_
    first | refine l_ld rfl Try.isAgg3 rfl rfl ?_ | refine l_ldw rfl Try.isAgg3 rfl (by omega) ?_
    refine l_eql rfl rfl rfl ?_
    refine l_nil ?_
    refine g_cond rfl ?_ ?_
    · intro hbr
      have hbr := of_decide_eq_true hbr
      (exfalso; first | omega | (simp at hbr; done))
    intro hbr
    have hbr := of_decide_eq_false hbr
    refine g_skip ?_
    refine g_seq ?_
    refine g_region ?_
    refine l_move rfl rfl ?_
    refine l_move rfl rfl ?_
    refine l_move rfl rfl ?_
    refine l_move rfl rfl ?_
    refine l_call rfl Try.call28 rfl (lrest_ok _ _ gi 0 (c.L.length + 9) c.L (lenti_row (E := 3) hXI rfl (by first | exact mem_getO 0 rfl | exact mem_getO 1 rfl | exact mem_getO 2 rfl | exact mem_getO 3 rfl | exact mem_getO 4 rfl | exact mem_getO 5 rfl | exact mem_getO 6 rfl | exact mem_getO 7 rfl | exact mem_getO 8 rfl | exact mem_getO 9 rfl | exact mem_getO 10 rfl | exact mem_getO 11 rfl | exact mem_getO 12 rfl | exact mem_getO 13 rfl | exact mem_getO 14 rfl | exact mem_getO 15 rfl | exact mem_getO 16 rfl | exact mem_getO 17 rfl | exact mem_getO 18 rfl | exact mem_getO 19 rfl | exact mem_getO 20 rfl | exact mem_getO 21 rfl)) hco.len c.h hb0 hb1 c.q gw 0 c.T.length (c.T.length + 9) c.T rfl (lent_row (E := 51) hXW rfl (by first | exact mem_getO 0 rfl | exact mem_getO 1 rfl | exact mem_getO 2 rfl | exact mem_getO 3 rfl | exact mem_getO 4 rfl | exact mem_getO 5 rfl | exact mem_getO 6 rfl | exact mem_getO 7 rfl | exact mem_getO 8 rfl | exact mem_getO 9 rfl | exact mem_getO 10 rfl | exact mem_getO 11 rfl | exact mem_getO 12 rfl | exact mem_getO 13 rfl | exact mem_getO 14 rfl | exact mem_getO 15 rfl | exact mem_getO 16 rfl | exact mem_getO 17 rfl | exact mem_getO 18 rfl | exact mem_getO 19 rfl | exact mem_getO 20 rfl | exact mem_getO 21 rfl)) hTl hco.ok) ?_; rintro _ _ ⟨x1, al1, cl1, tt1, ct1, rfl, hal1, htt1, rfl⟩
    refine l_move rfl rfl ?_
    refine l_extract rfl rfl rfl ?_
    refine l_extract rfl rfl rfl ?_
    refine l_assign rfl rfl ?_
    refine l_assign rfl rfl ?_
    refine l_nil ?_
    refine g_seq ?_
    refine g_region ?_
    refine l_move rfl rfl ?_
    refine l_move rfl rfl ?_
    refine l_move rfl rfl ?_
    refine l_move rfl rfl ?_
    refine l_fact (ch_ra (j := i) (by first | exact mem_getO 0 rfl | exact mem_getO 1 rfl | exact mem_getO 2 rfl | exact mem_getO 3 rfl | exact mem_getO 4 rfl | exact mem_getO 5 rfl | exact mem_getO 6 rfl | exact mem_getO 7 rfl | exact mem_getO 8 rfl | exact mem_getO 9 rfl | exact mem_getO 10 rfl | exact mem_getO 11 rfl | exact mem_getO 12 rfl | exact mem_getO 13 rfl | exact mem_getO 14 rfl | exact mem_getO 15 rfl | exact mem_getO 16 rfl | exact mem_getO 17 rfl | exact mem_getO 18 rfl | exact mem_getO 19 rfl | exact mem_getO 20 rfl | exact mem_getO 21 rfl) hiN) ?_
    intro hR5
    rw [hc] at hR5
    refine l_fact (reads_of (E := 51) (v := .slice ta c.T.length tc) (kd := .u32) (W := c.T) (by first | exact mem_getO 0 rfl | exact mem_getO 1 rfl | exact mem_getO 2 rfl | exact mem_getO 3 rfl | exact mem_getO 4 rfl | exact mem_getO 5 rfl | exact mem_getO 6 rfl | exact mem_getO 7 rfl | exact mem_getO 8 rfl | exact mem_getO 9 rfl | exact mem_getO 10 rfl | exact mem_getO 11 rfl | exact mem_getO 12 rfl | exact mem_getO 13 rfl | exact mem_getO 14 rfl | exact mem_getO 15 rfl | exact mem_getO 16 rfl | exact mem_getO 17 rfl | exact mem_getO 18 rfl | exact mem_getO 19 rfl | exact mem_getO 20 rfl | exact mem_getO 21 rfl)) ?_
    intro hR8
    refine l_call rfl Try.call51 rfl (rrest_ok _ _ c.al2 c.cl2 c.L hR5 hco.len c.h hb0 hb1 c.q ta c.T.length tc c.T (RA.of hR8 rfl) hTl hco.ok) ?_; rintro _ _ ⟨x2, al2, cl2, tt2, ct2, rfl, hal2, htt2, rfl⟩
    refine l_move rfl rfl ?_
    refine l_extract rfl rfl rfl ?_
    refine l_extract rfl rfl rfl ?_
    refine l_assign rfl rfl ?_
    refine l_assign rfl rfl ?_
    refine l_nil ?_
    refine g_seq ?_
    refine g_region ?_
    refine l_move rfl rfl ?_
    refine l_move rfl rfl ?_
    refine l_take (Own 3 1 (.slice (some ⟨gi, 0, none⟩) (c.L.length + 9) (c.L.length + 9)) (c.L.length + 9) (ints .i64 XI)) ?_
    refine l_fact (fun w hw => ch_ra (C := S.C) (j := i) (by first | exact mem_getO 0 rfl | exact mem_getO 1 rfl | exact mem_getO 2 rfl | exact mem_getO 3 rfl | exact mem_getO 4 rfl | exact mem_getO 5 rfl | exact mem_getO 6 rfl | exact mem_getO 7 rfl | exact mem_getO 8 rfl | exact mem_getO 9 rfl | exact mem_getO 10 rfl | exact mem_getO 11 rfl | exact mem_getO 12 rfl | exact mem_getO 13 rfl | exact mem_getO 14 rfl | exact mem_getO 15 rfl | exact mem_getO 16 rfl | exact mem_getO 17 rfl | exact mem_getO 18 rfl | exact mem_getO 19 rfl | exact mem_getO 20 rfl | exact mem_getO 21 rfl) hiN w hw.tail) ?_
    intro hR5
    rw [hc] at hR5
    refine l_call rfl Try.call49 rfl (backi_ok _ _ gi XI c.al2 c.L.length c.cl2 c.L rfl hR5.ir hco.len hco.lb hXI) ?_; rintro _ _ ⟨rfl, rfl⟩
    refine l_assign rfl rfl ?_
    refine l_nil ?_
    refine g_seq ?_
    refine g_region ?_
    refine l_move rfl rfl ?_
    refine l_move rfl rfl ?_
    refine l_take (Own 51 1 (.slice (some ⟨gw, 0, none⟩) (c.T.length + 9) (c.T.length + 9)) (c.T.length + 9) (ints .u32 XW)) ?_
    refine l_fact (fun w hw => reads_of (E := 51) (v := .slice ta c.T.length tc) (kd := .u32) (W := c.T) (by first | exact mem_getO 0 rfl | exact mem_getO 1 rfl | exact mem_getO 2 rfl | exact mem_getO 3 rfl | exact mem_getO 4 rfl | exact mem_getO 5 rfl | exact mem_getO 6 rfl | exact mem_getO 7 rfl | exact mem_getO 8 rfl | exact mem_getO 9 rfl | exact mem_getO 10 rfl | exact mem_getO 11 rfl | exact mem_getO 12 rfl | exact mem_getO 13 rfl | exact mem_getO 14 rfl | exact mem_getO 15 rfl | exact mem_getO 16 rfl | exact mem_getO 17 rfl | exact mem_getO 18 rfl | exact mem_getO 19 rfl | exact mem_getO 20 rfl | exact mem_getO 21 rfl) w hw.tail) ?_
    intro hR8
    refine l_call rfl Try.call52 rfl (back_ok _ _ gw XW ta c.T.length tc c.T rfl (RA.of hR8 rfl).ir hTl hco.u hXW) ?_; rintro _ _ ⟨rfl, rfl⟩
    refine l_assign rfl rfl ?_
    refine l_nil ?_
    refine g_seq ?_
    refine g_seq ?_
    refine g_region ?_
    refine l_move rfl rfl ?_
    refine l_move rfl rfl ?_
    refine l_neq rfl rfl rfl ?_
    refine l_move rfl rfl ?_
    refine l_split 112 rfl ?_ ?_
    · intro hbr
      have hbr := of_decide_eq_true hbr
      (exfalso; first | omega | (simp at hbr; done))
    intro hbr
    have hbr := of_decide_eq_false hbr
    refine l_guard_yes rfl rfl ?_
    refine l_move rfl rfl ?_
    refine l_guard_yes rfl rfl ?_
    refine l_eqpn rfl Try.underlying28 rfl rfl ?_
    refine l_guard_yes rfl rfl ?_
    refine l_move rfl rfl ?_
    refine l_guard_yes rfl rfl ?_
    refine l_eqpn rfl Try.underlying93 rfl rfl ?_
    refine l_guard_yes rfl rfl ?_
    refine l_neqb rfl Try.underlying4 rfl rfl ?_
    refine l_pick_f rfl rfl rfl ?_
    refine l_move rfl rfl ?_
    refine l_split 119 rfl ?_ ?_
    · intro hbr
      first | (exfalso; simp at hbr; done) | (exfalso; simp at hbr; omega) | (exfalso; first | omega | (simp at hbr; done))
    intro hbr
    have hb119 := hbr
    refine l_guard_yes rfl rfl ?_
    refine l_move rfl rfl ?_
    refine l_guard_yes rfl rfl ?_
    refine l_not rfl rfl ?_
    refine l_pick_f rfl rfl rfl ?_
    refine l_move rfl rfl ?_
    refine l_split 123 rfl ?_ ?_
    · intro hbr
      first | (exfalso; simp at hbr; done) | (exfalso; simp at hbr; omega) | (exfalso; first | omega | (simp at hbr; done))
    intro hbr
    have hb123 := hbr
    refine l_guard_yes rfl rfl ?_
    refine l_move rfl rfl ?_
    refine l_guard_yes rfl rfl ?_
    refine l_not rfl rfl ?_
    refine l_pick_f rfl rfl rfl ?_
    refine l_nil ?_
    refine g_cond rfl ?_ ?_
    · intro hbr
      first | (exfalso; simp at hbr; done) | (exfalso; simp at hbr; omega) | (exfalso; first | omega | (simp at hbr; done))
    intro hbr
    have hb126 := hbr
    refine g_skip ?_
    refine g_seq ?_
    refine g_seq ?_
    refine g_region ?_
    refine l_move rfl rfl ?_
    refine l_nepn rfl Try.underlying93 rfl rfl ?_
    refine l_nil ?_
    refine g_cond rfl ?_ ?_
    · intro hbr
      have hb128 := hbr
      refine g_region ?_
      refine l_move rfl rfl ?_
      refine l_move rfl rfl ?_
      refine l_nilCheck rfl rfl ?_
      refine l_fieldAddr rfl fa_63_4 rfl ?_
      refine l_ld rfl Try.isAgg57 rfl rfl ?_
      refine l_move rfl rfl ?_
      refine l_move rfl rfl ?_
      refine l_build rfl rfl (fun w => bd_95_0_1 _ _ w) ?_
      refine l_buildSlice rfl Try.underlying57 Try.sizeOf95 Try.zeroValue95 rfl rfl rfl rfl rfl rfl ?_; intro b137
      refine l_fronto b137 ?_
      refine l_take (Own 95 2 (.slice S.la S.N S.lc) S.N (rowsN S.N (fun j => chR (S.C j)))) ?_
      refine l_does rfl (does_appendS 0 (sz := 2) (by_ := 16) (m2 := 1) (m3 := S.N + 1) (news := chR ⟨x1, al1, cl1, tt1, ct1, x2, al2, cl2, tt2, ct2, c.L, c.h, c.q, c.T⟩) (X3 := rowsN (S.N + 1) (fun j => chR (upF S.C S.N ⟨x1, al1, cl1, tt1, ct1, x2, al2, cl2, tt2, ct2, c.L, c.h, c.q, c.T⟩ j))) Try.underlying57 Try.type95 rfl rfl rfl rfl rfl rfl rfl rfl ⟨rfl, .inl ⟨_, _, _, rfl, .own (mem_getO 1 rfl)⟩⟩ rfl (by omega) (by simp only [maxLen]; omega) rfl (rowsN_push (r := chR) (K := S.N) (B := S.C) (x := ⟨x1, al1, cl1, tt1, ct1, x2, al2, cl2, tt2, ct2, c.L, c.h, c.q, c.T⟩)) (fun _ _ => rfl)) ?_
      rintro _ _ ⟨a138, c138, ha138, rfl, rfl⟩
      refine l_nilCheck rfl rfl ?_
      refine l_fieldAddr rfl fa_63_4 rfl ?_
      refine l_st Try.sizeOf57 rfl rfl rfl rfl ?_
      refine l_nil ?_
      refine g_seq ?_
      refine g_region ?_
      refine l_assign rfl rfl ?_
      refine l_nil ?_
      refine g_take (BigF S.N (fun j => chA (S.C j))) ?_
      refine g_take (Own 51 1 (.slice tt2 c.T.length ct2) c.T.length (ints .u32 c.T)) ?_
      refine g_take (Own 3 1 (.slice al2 c.L.length cl2) c.L.length (ints .i64 c.L)) ?_
      refine g_take (Blk x2 (.cells [Value.slice al2 c.L.length cl2, .int .i64 c.h, .bool c.q, .slice tt2 c.T.length ct2].toArray 104 (0, 0))) ?_
      refine g_take (Own 51 1 (.slice tt1 c.T.length ct1) c.T.length (ints .u32 c.T)) ?_
      refine g_take (Own 3 1 (.slice al1 c.L.length cl1) c.L.length (ints .i64 c.L)) ?_
      refine g_take (Blk x1 (.cells [Value.slice al1 c.L.length cl1, .int .i64 c.h, .bool c.q, .slice tt1 c.T.length ct1].toArray 84 (0, 0))) ?_
      refine g_snocc (c := ⟨x1, al1, cl1, tt1, ct1, x2, al2, cl2, tt2, ct2, c.L, c.h, c.q, c.T⟩) ?_
      obtain ⟨g138, rfl⟩ := ha138.resolve_left (by omega)
      refine g_ret Try.func19 rfl (.tmp rfl .nil) ?_
      exact Gives.mki ⟨⟨S.m, S.p, S.N + 1, upF S.C S.N ⟨x1, al1, cl1, tt1, ct1, x2, al2, cl2, tt2, ct2, c.L, c.h, c.q, c.T⟩, some ⟨g138, 0, none⟩, c138, S.K, S.B, S.ka, S.kc⟩, (by first | rfl | exact congrArg Value.bool (decide_eq_true rfl) | (simp [resVal]; done)), hS.new (c := ⟨x1, al1, cl1, tt1, ct1, x2, al2, cl2, tt2, ct2, c.L, c.h, c.q, c.T⟩) ⟨hco.len, hco.lb, hal1, htt1, hal2, htt2, hco.ok, hco.u⟩ g138 c138, ⟨by simp only; omega, Nat.le_refl _, by simp only; omega⟩, rfl⟩
    · intro hbr
      first | (exfalso; simp at hbr; done) | (exfalso; simp at hbr; omega) | (exfalso; first | omega | (simp at hbr; done))
  intro joinJ
  dsimp only [List.cons_append, List.nil_append] at joinJ
  refine g_region ?_
  refine l_fieldAddr rfl fa_53_0 rfl ?_
  first | refine l_ld rfl Try.isAgg3 rfl rfl ?_ | refine l_ldw rfl Try.isAgg3 rfl (by omega) ?_
  refine l_eql rfl rfl rfl ?_
  refine l_nil ?_
  refine g_cond rfl ?_ ?_
  · intro hbr
    have hbr := of_decide_eq_true hbr
    refine g_seq ?_
    refine gp_start mo (by kernel_rfl) (by kernel_rfl) ?_
    rw [hgl]
    refine gp_quiet 0 rfl rfl rfl rfl rfl rfl (q_move rfl) ?_
    refine gp_quiet 1 rfl rfl rfl rfl rfl rfl (q_nilCheck rfl) ?_
    refine gp_quiet 2 rfl rfl rfl rfl rfl rfl (q_fieldAddr fa_63_4 rfl) ?_
    refine gp_quiet 3 rfl rfl rfl rfl rfl rfl (q_ld Try.isAgg57 rfl rfl) ?_
    refine gp_quiet 4 rfl rfl rfl rfl rfl rfl (q_fieldAddr fa_53_1 rfl) ?_
    first | refine gp_quiet 5 rfl rfl rfl rfl rfl rfl (q_ld Try.isAgg3 rfl rfl) ?_ | refine gp_quiet 5 rfl rfl rfl rfl rfl rfl (q_ldw Try.isAgg3 rfl (by omega)) ?_
    refine gp_quiet 6 rfl rfl rfl rfl rfl rfl (q_move rfl) ?_
    refine gp_quiet 7 rfl rfl rfl rfl rfl rfl (q_nilCheck rfl) ?_
    refine gp_quiet 8 rfl rfl rfl rfl rfl rfl (q_fieldAddr fa_63_4 rfl) ?_
    refine gp_quiet 9 rfl rfl rfl rfl rfl rfl (q_ld Try.isAgg57 rfl rfl) ?_
    refine gp_quiet 10 rfl rfl rfl rfl rfl rfl (q_len Try.underlying57 rfl) ?_
    refine gp_two 11 [5, 10] [9, 8, 7, 6, 4, 3, 2, 1, 0] 14 [] [10, 9, 8, 7, 6, 5, 4, 3, 2, 1, 0] rfl rfl rfl rfl rfl rfl (does_call Try.call12 rfl (pick_ok _ _ who (S.N : Int) (by omega) (by omega) (by omega) (by omega))) (does_allocs Try.zeroValue95) ?_ ?_
    · rintro _ _ ⟨rfl, rfl⟩
      rw [hi]
      refine ⟨?_, ?_⟩
      · refine .cons rfl rfl rfl rfl rfl (q_ld Try.isAgg57 rfl rfl) ?_
        refine .cons rfl rfl rfl rfl rfl (q_fieldAddr fa_63_4 rfl) ?_
        refine .cons rfl rfl rfl rfl rfl (q_nilCheck rfl) ?_
        refine .cons rfl rfl rfl rfl rfl (q_move rfl) ?_
        refine .cons rfl rfl rfl rfl rfl (q_fieldAddr fa_53_1 rfl) ?_
        refine .cons rfl rfl rfl rfl rfl (q_ld Try.isAgg57 rfl rfl) ?_
        refine .cons rfl rfl rfl rfl rfl (q_fieldAddr fa_63_4 rfl) ?_
        refine .cons rfl rfl rfl rfl rfl (q_nilCheck rfl) ?_
        refine .cons rfl rfl rfl rfl rfl (q_move rfl) ?_
        exact .nil
      refine gp_quiet 12 rfl rfl rfl rfl rfl rfl (q_ixs Try.underlying57 Try.sizeOf95 rfl rfl (by omega) (by omega)) ?_
      refine gp_quiet 13 rfl rfl rfl rfl rfl rfl (q_loadr (l := [.pointer (some ⟨c.b, 0, none⟩), .pointer (some ⟨c.b2, 0, none⟩)]) Try.isAgg95 Try.sizeOf95 rfl rfl (ch_row (by first | exact mem_getO 0 rfl | exact mem_getO 1 rfl | exact mem_getO 2 rfl | exact mem_getO 3 rfl | exact mem_getO 4 rfl | exact mem_getO 5 rfl | exact mem_getO 6 rfl | exact mem_getO 7 rfl | exact mem_getO 8 rfl | exact mem_getO 9 rfl | exact mem_getO 10 rfl | exact mem_getO 11 rfl | exact mem_getO 12 rfl | exact mem_getO 13 rfl | exact mem_getO 14 rfl | exact mem_getO 15 rfl | exact mem_getO 16 rfl | exact mem_getO 17 rfl | exact mem_getO 18 rfl | exact mem_getO 19 rfl | exact mem_getO 20 rfl | exact mem_getO 21 rfl) hiN hc)) ?_
      refine gp_eff 14 rfl rfl rfl rfl rfl rfl (does_allocs Try.zeroValue95) ?_
      rintro _ _ ⟨b9, rfl, rfl⟩
      refine ⟨?_, ?_⟩
      · refine .cons rfl rfl rfl rfl rfl (q_loadr (l := [.pointer (some ⟨c.b, 0, none⟩), .pointer (some ⟨c.b2, 0, none⟩)]) Try.isAgg95 Try.sizeOf95 rfl rfl (ch_row (by first | exact mem_getO 0 rfl | exact mem_getO 1 rfl | exact mem_getO 2 rfl | exact mem_getO 3 rfl | exact mem_getO 4 rfl | exact mem_getO 5 rfl | exact mem_getO 6 rfl | exact mem_getO 7 rfl | exact mem_getO 8 rfl | exact mem_getO 9 rfl | exact mem_getO 10 rfl | exact mem_getO 11 rfl | exact mem_getO 12 rfl | exact mem_getO 13 rfl | exact mem_getO 14 rfl | exact mem_getO 15 rfl | exact mem_getO 16 rfl | exact mem_getO 17 rfl | exact mem_getO 18 rfl | exact mem_getO 19 rfl | exact mem_getO 20 rfl | exact mem_getO 21 rfl) hiN hc)) ?_
        refine .cons rfl rfl rfl rfl rfl (q_ixs Try.underlying57 Try.sizeOf95 rfl rfl (by omega) (by omega)) ?_
        refine .cons rfl rfl rfl rfl rfl (q_ld Try.isAgg57 rfl rfl) ?_
        refine .cons rfl rfl rfl rfl rfl (q_fieldAddr fa_63_4 rfl) ?_
        refine .cons rfl rfl rfl rfl rfl (q_nilCheck rfl) ?_
        refine .cons rfl rfl rfl rfl rfl (q_move rfl) ?_
        refine .cons rfl rfl rfl rfl rfl (q_fieldAddr fa_53_1 rfl) ?_
        refine .cons rfl rfl rfl rfl rfl (q_ld Try.isAgg57 rfl rfl) ?_
        refine .cons rfl rfl rfl rfl rfl (q_fieldAddr fa_63_4 rfl) ?_
        refine .cons rfl rfl rfl rfl rfl (q_nilCheck rfl) ?_
        refine .cons rfl rfl rfl rfl rfl (q_move rfl) ?_
        exact .nil
      refine gp_effa 15 [0, 1, 2, 3, 4, 6, 7, 8, 9, 12, 13] [] rfl rfl rfl rfl rfl rfl rfl (does_sts Try.sizeOf95 rfl rfl rfl rfl rfl) ?_
      rintro _ _ ⟨rfl, rfl⟩
      refine ⟨?_, ?_⟩
      · exact .nil
      refine gp_end rfl rfl ?_
      refine g_seq ?_
      refine g_region ?_
      refine l_take (BigF S.N (fun j => chA (S.C j))) ?_
      refine l_openc hiN hc ?_
      refine l_fieldAddr rfl fa_95_1 rfl ?_
      refine l_ld rfl Try.isAgg93 rfl rfl ?_
      refine l_nilCheck rfl rfl ?_
      refine l_fieldAddr rfl fa_104_0 rfl ?_
      refine l_ld rfl Try.isAgg23 rfl rfl ?_
      refine l_assign rfl rfl ?_
      refine l_nil ?_
      refine g_region ?_
      refine l_fieldAddr rfl fa_95_1 rfl ?_
      refine l_ld rfl Try.isAgg93 rfl rfl ?_
      refine l_take (Own 51 1 (.slice c.tt2 c.T.length c.ct2) c.T.length (ints .u32 c.T)) ?_
      refine l_take (Blk c.b2 (.cells [Value.slice c.al2 c.L.length c.cl2, .int .i64 c.h, .bool c.q, .slice c.tt2 c.T.length c.ct2].toArray 104 (0, 0))) ?_
      refine l_call rfl Try.call46 rfl (rchstate_ok _ _ c.b2 c.al2 c.cl2 c.L c.h c.q c.tt2 c.T.length c.ct2 c.T rfl (by omega)) ?_; rintro _ _ ⟨ta, tc, rfl, hta, rfl⟩
      refine l_move rfl rfl ?_
      refine l_extract rfl rfl rfl ?_
      refine l_extract rfl rfl rfl ?_
      refine l_extract rfl rfl rfl ?_
      refine l_assign rfl rfl ?_
      refine l_assign rfl rfl ?_
      refine l_assign rfl rfl ?_
      refine l_nil ?_
      rw [← hgl]
      refine g_take (BigBut S.N i (fun j => chA (S.C j))) ?_
      refine g_take (Own 51 1 (.slice c.tt2 c.T.length c.ct2) c.T.length (ints .u32 c.T)) ?_
      refine g_take (Own 3 1 (.slice c.al2 c.L.length c.cl2) c.L.length (ints .i64 c.L)) ?_
      refine g_take (Blk c.b2 (.cells [Value.slice c.al2 c.L.length c.cl2, .int .i64 c.h, .bool c.q, .slice c.tt2 c.T.length c.ct2].toArray 104 (0, 0))) ?_
      refine g_take (Own 51 1 (.slice c.tt c.T.length c.ct) c.T.length (ints .u32 c.T)) ?_
      refine g_take (Own 3 1 (.slice c.al c.L.length c.cl) c.L.length (ints .i64 c.L)) ?_
      refine g_take (Blk c.b (.cells [Value.slice c.al c.L.length c.cl, .int .i64 c.h, .bool c.q, .slice c.tt c.T.length c.ct].toArray 84 (0, 0))) ?_
      refine g_closec (c := c) ?_
      rw [ch_same hc]
      exact g_againi (joinJ (ta, tc) hta) (.cons rfl (.cons rfl (.cons rfl (.cons rfl (.cons rfl (.cons rfl (.cons rfl (.nil))))))))
    · rintro _ _ ⟨b9, rfl, rfl⟩
      refine ⟨?_, ?_⟩
      · refine .cons rfl rfl rfl rfl rfl (q_len Try.underlying57 rfl) ?_
        refine .cons rfl rfl rfl rfl rfl (q_ld Try.isAgg57 rfl rfl) ?_
        refine .cons rfl rfl rfl rfl rfl (q_fieldAddr fa_63_4 rfl) ?_
        refine .cons rfl rfl rfl rfl rfl (q_nilCheck rfl) ?_
        refine .cons rfl rfl rfl rfl rfl (q_move rfl) ?_
        first | refine .cons rfl rfl rfl rfl rfl (q_ld Try.isAgg3 rfl rfl) ?_ | refine .cons rfl rfl rfl rfl rfl (q_ldw Try.isAgg3 rfl (by omega)) ?_
        refine .cons rfl rfl rfl rfl rfl (q_fieldAddr fa_53_1 rfl) ?_
        refine .cons rfl rfl rfl rfl rfl (q_ld Try.isAgg57 rfl rfl) ?_
        refine .cons rfl rfl rfl rfl rfl (q_fieldAddr fa_63_4 rfl) ?_
        refine .cons rfl rfl rfl rfl rfl (q_nilCheck rfl) ?_
        refine .cons rfl rfl rfl rfl rfl (q_move rfl) ?_
        exact .nil
      refine gp_effa 11 [5, 10] [9, 8, 7, 6, 4, 3, 2, 1, 0] rfl rfl rfl rfl rfl rfl rfl (does_call Try.call12 rfl (pick_ok _ _ who (S.N : Int) (by omega) (by omega) (by omega) (by omega))) ?_
      rintro _ _ ⟨rfl, rfl⟩
      rw [hi]
      refine ⟨?_, ?_⟩
      · refine .cons rfl rfl rfl rfl rfl (q_ld Try.isAgg57 rfl rfl) ?_
        refine .cons rfl rfl rfl rfl rfl (q_fieldAddr fa_63_4 rfl) ?_
        refine .cons rfl rfl rfl rfl rfl (q_nilCheck rfl) ?_
        refine .cons rfl rfl rfl rfl rfl (q_move rfl) ?_
        refine .cons rfl rfl rfl rfl rfl (q_fieldAddr fa_53_1 rfl) ?_
        refine .cons rfl rfl rfl rfl rfl (q_ld Try.isAgg57 rfl rfl) ?_
        refine .cons rfl rfl rfl rfl rfl (q_fieldAddr fa_63_4 rfl) ?_
        refine .cons rfl rfl rfl rfl rfl (q_nilCheck rfl) ?_
        refine .cons rfl rfl rfl rfl rfl (q_move rfl) ?_
        exact .nil
      refine gp_quiet 12 rfl rfl rfl rfl rfl rfl (q_ixs Try.underlying57 Try.sizeOf95 rfl rfl (by omega) (by omega)) ?_
      refine gp_quiet 13 rfl rfl rfl rfl rfl rfl (q_loadr (l := [.pointer (some ⟨c.b, 0, none⟩), .pointer (some ⟨c.b2, 0, none⟩)]) Try.isAgg95 Try.sizeOf95 rfl rfl (ch_row (by first | exact mem_getO 0 rfl | exact mem_getO 1 rfl | exact mem_getO 2 rfl | exact mem_getO 3 rfl | exact mem_getO 4 rfl | exact mem_getO 5 rfl | exact mem_getO 6 rfl | exact mem_getO 7 rfl | exact mem_getO 8 rfl | exact mem_getO 9 rfl | exact mem_getO 10 rfl | exact mem_getO 11 rfl | exact mem_getO 12 rfl | exact mem_getO 13 rfl | exact mem_getO 14 rfl | exact mem_getO 15 rfl | exact mem_getO 16 rfl | exact mem_getO 17 rfl | exact mem_getO 18 rfl | exact mem_getO 19 rfl | exact mem_getO 20 rfl | exact mem_getO 21 rfl) hiN hc)) ?_
      refine gp_effa 15 [0, 1, 2, 3, 4, 6, 7, 8, 9, 12, 13] [] rfl rfl rfl rfl rfl rfl rfl (does_sts Try.sizeOf95 rfl rfl rfl rfl rfl) ?_
      rintro _ _ ⟨rfl, rfl⟩
      refine ⟨?_, ?_⟩
      · exact .nil
      refine gp_end rfl rfl ?_
      refine g_seq ?_
      refine g_region ?_
      refine l_take (BigF S.N (fun j => chA (S.C j))) ?_
      refine l_openc hiN hc ?_
      refine l_fieldAddr rfl fa_95_1 rfl ?_
      refine l_ld rfl Try.isAgg93 rfl rfl ?_
      refine l_nilCheck rfl rfl ?_
      refine l_fieldAddr rfl fa_104_0 rfl ?_
      refine l_ld rfl Try.isAgg23 rfl rfl ?_
      refine l_assign rfl rfl ?_
      refine l_nil ?_
      refine g_region ?_
      refine l_fieldAddr rfl fa_95_1 rfl ?_
      refine l_ld rfl Try.isAgg93 rfl rfl ?_
      refine l_take (Own 51 1 (.slice c.tt2 c.T.length c.ct2) c.T.length (ints .u32 c.T)) ?_
      refine l_take (Blk c.b2 (.cells [Value.slice c.al2 c.L.length c.cl2, .int .i64 c.h, .bool c.q, .slice c.tt2 c.T.length c.ct2].toArray 104 (0, 0))) ?_
      refine l_call rfl Try.call46 rfl (rchstate_ok _ _ c.b2 c.al2 c.cl2 c.L c.h c.q c.tt2 c.T.length c.ct2 c.T rfl (by omega)) ?_; rintro _ _ ⟨ta, tc, rfl, hta, rfl⟩
      refine l_move rfl rfl ?_
      refine l_extract rfl rfl rfl ?_
      refine l_extract rfl rfl rfl ?_
      refine l_extract rfl rfl rfl ?_
      refine l_assign rfl rfl ?_
      refine l_assign rfl rfl ?_
      refine l_assign rfl rfl ?_
      refine l_nil ?_
      rw [← hgl]
      refine g_take (BigBut S.N i (fun j => chA (S.C j))) ?_
      refine g_take (Own 51 1 (.slice c.tt2 c.T.length c.ct2) c.T.length (ints .u32 c.T)) ?_
      refine g_take (Own 3 1 (.slice c.al2 c.L.length c.cl2) c.L.length (ints .i64 c.L)) ?_
      refine g_take (Blk c.b2 (.cells [Value.slice c.al2 c.L.length c.cl2, .int .i64 c.h, .bool c.q, .slice c.tt2 c.T.length c.ct2].toArray 104 (0, 0))) ?_
      refine g_take (Own 51 1 (.slice c.tt c.T.length c.ct) c.T.length (ints .u32 c.T)) ?_
      refine g_take (Own 3 1 (.slice c.al c.L.length c.cl) c.L.length (ints .i64 c.L)) ?_
      refine g_take (Blk c.b (.cells [Value.slice c.al c.L.length c.cl, .int .i64 c.h, .bool c.q, .slice c.tt c.T.length c.ct].toArray 84 (0, 0))) ?_
      refine g_closec (c := c) ?_
      rw [ch_same hc]
      exact g_againi (joinJ (ta, tc) hta) (.cons rfl (.cons rfl (.cons rfl (.cons rfl (.cons rfl (.cons rfl (.cons rfl (.nil))))))))
  · intro hbr
    have hbr := of_decide_eq_false hbr
    (exfalso; first | omega | (simp at hbr; done))
theorem makes_any (w0 : World) (F : List Atom) (wb : Nat) (S : WS) (hS : SOk S) (hN : S.N ≤ 1099511627776) (hK : S.K ≤ 1099511627000) (kd : Int) (kd0 : -9223372036854775808 ≤ kd) (kd1 : kd ≤ 9223372036854775807) (who : Int) (who0 : -9223372036854775808 ≤ who) (who1 : who ≤ 9223372036854775807) (oa : Int) (oa0 : -9223372036854775808 ≤ oa) (oa1 : oa ≤ 9223372036854775807) (ob : Int) (ob0 : -9223372036854775808 ≤ ob) (ob1 : ob ≤ 9223372036854775807) (oq : Bool) (ox : Int) (ox0 : 0 ≤ ox) (ox1 : ox ≤ 4294967295) (ga : Option Addr) (gc : Nat) (G : List Int) (hsg : G.length ≤ 2147483647) (hG : RA w0 F .i64 ga G.length gc G) (hGb : I64s G) (sa : Option Addr) (sc : Nat) (Y : List Int) (hsn : Y.length ≤ 2147483647) (hY : RA w0 F .u32 sa Y.length sc Y) (hYU : W32s Y) (hN1 : 1 ≤ S.N ∨ kd = 5) : CallK Try.prog 19 [.pointer (some ⟨wb, 0, none⟩), .agg [Value.int .i64 kd, .int .i64 who, .int .i64 oa, .int .i64 ob, .bool oq, .int .u32 ox, .slice ga G.length gc, .slice sa Y.length sc].toArray] w0 (Blk wb (.cells [Value.pointer (some ⟨S.m.x, 0, none⟩), .pointer (some ⟨S.m.y, 0, none⟩), .pointer (some ⟨S.p.x, 0, none⟩), .pointer (some ⟨S.p.y, 0, none⟩), .slice S.la S.N S.lc, .slice S.ka S.K S.kc, .slice none 0 0].toArray 63 (0, 0)) :: mpA S.m :: mpA S.p :: Own 95 2 (.slice S.la S.N S.lc) S.N (rowsN S.N (fun j => chR (S.C j))) :: BigF S.N (fun j => chA (S.C j)) :: Own 111 4 (.slice S.ka S.K S.kc) S.K (rowsN S.K (fun j => bkR (S.B j))) :: BigF S.K (fun j => bkA (S.B j)) :: F) (Gives w0 fun v F2 => ∃ S' : WS, v = .bool true ∧ SOk S' ∧ (S.N ≤ S'.N ∧ S'.N ≤ S.N + 1 ∧ S'.K ≤ S.K + 0) ∧ F2 = Blk wb (.cells [Value.pointer (some ⟨S'.m.x, 0, none⟩), .pointer (some ⟨S'.m.y, 0, none⟩), .pointer (some ⟨S'.p.x, 0, none⟩), .pointer (some ⟨S'.p.y, 0, none⟩), .slice S'.la S'.N S'.lc, .slice S'.ka S'.K S'.kc, .slice none 0 0].toArray 63 (0, 0)) :: mpA S'.m :: mpA S'.p :: Own 95 2 (.slice S'.la S'.N S'.lc) S'.N (rowsN S'.N (fun j => chR (S'.C j))) :: BigF S'.N (fun j => chA (S'.C j)) :: Own 111 4 (.slice S'.ka S'.K S'.kc) S'.K (rowsN S'.K (fun j => bkR (S'.B j))) :: BigF S'.K (fun j => bkA (S'.B j)) :: F) := by
  by_cases k1 : kd = 5
  · exact (makes_new w0 F wb S hS hN hK kd kd0 kd1 who who0 who1 oa oa0 oa1 ob ob0 ob1 oq ox ox0 ox1 ga gc G hsg hG hGb sa sc Y hsn hY hYU k1).gmono fun v F2 ⟨S2, e1, h1, ⟨h2, h3, _⟩, _, e2⟩ => ⟨S2, e1, h1, ⟨by omega, by omega, by omega⟩, e2⟩
  by_cases k2 : kd = 10
  · exact makes_again w0 F wb S hS hN hK kd kd0 kd1 who who0 who1 oa oa0 oa1 ob ob0 ob1 oq ox ox0 ox1 ga gc G hsg hG hGb sa sc Y hsn hY hYU (by omega) k2
  by_cases h : ChOk G.length ob oq Y.length
  · exact makes_rest w0 F wb S hS hN hK kd kd0 kd1 who who0 who1 oa oa0 oa1 ob ob0 ob1 oq ox ox0 ox1 ga gc G hsg hG hGb sa sc Y hsn hY hYU k1 k2 h
  · exact makes_no w0 F wb S hS hN hK kd kd0 kd1 who who0 who1 oa oa0 oa1 ob ob0 ob1 oq ox ox0 ox1 ga gc G hsg hG hGb sa sc Y hsn hY hYU k1 k2 h
end Go.Proofs.Ythemlddepepekaa.Fw
