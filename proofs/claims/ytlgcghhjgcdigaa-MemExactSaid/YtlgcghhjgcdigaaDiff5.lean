import Derived.Test.YtlgcghhjgcdigaaWorks
import Derived.Test.YtlgcghhjgcdigaaNil5
namespace Go.Proofs.Ytlgcghhjgcdigaa.Fw
open Go Go.Proofs
set_option linter.unusedVariables false
set_option linter.unusedSimpArgs false
set_option maxRecDepth 10000
theorem fa_65_2 (a : Addr) (w : World) : (Instr.fieldAt 65 (.pointer (some a)) 2).run Try.prog w = .ok (.pointer (some (a.add 2))) w := by
  simp [Instr.fieldAt, Try.runUnderlying65, Instr.sureAddr, fieldPlace, Try.sizeOf3, Sem.run_bind, Sem.run_pure]
set_option maxHeartbeats 16000000 in
theorem differs_ok (w0 : World) (F : List Atom) (wb : Nat) (S : WS) (hS : SOk S) (hN1 : 1 ≤ S.N) (kd : Int) (kd0 : -9223372036854775808 ≤ kd) (kd1 : kd ≤ 9223372036854775807) (who : Int) (who0 : -9223372036854775808 ≤ who) (who1 : who ≤ 9223372036854775807) (oth : Int) (oth0 : -9223372036854775808 ≤ oth) (oth1 : oth ≤ 9223372036854775807) (oa : Int) (oa0 : -9223372036854775808 ≤ oa) (oa1 : oa ≤ 9223372036854775807) (ob : Int) (ob0 : -9223372036854775808 ≤ ob) (ob1 : ob ≤ 9223372036854775807) (oc : Int) (oc0 : -9223372036854775808 ≤ oc) (oc1 : oc ≤ 9223372036854775807) (ox : Int) (ox0 : 0 ≤ ox) (ox1 : ox ≤ 4294967295) (sa : Option Addr) (sn sc : Nat) (Y : List Int) (hY : Y.length = sn) (hsn : sn ≤ 2147483647) (hR : IR w0 F .u32 sa sn Y) (hYU : W32s Y) :
    CallK Try.prog 24 [.pointer (some ⟨wb, 0, none⟩), .agg [Value.int .i64 kd, .int .i64 who, .int .i64 oth, .int .i64 oa, .int .i64 ob, .int .i64 oc, .int .u32 ox, .slice sa sn sc].toArray] w0 (Blk wb (.cells [Value.slice S.la S.N S.lc, .slice S.ia S.J S.ic, .slice S.ka S.K S.kc].toArray 74 (0, 0)) :: Own 94 2 (.slice S.la S.N S.lc) S.N (rowsN S.N (fun j => mpR (S.M j))) :: BigF S.N (fun j => mpA (S.M j)) :: Own 102 3 (.slice S.ia S.J S.ic) S.J (rowsN S.J (fun j => kiR (S.T j))) :: BigF S.J (fun j => kiA (S.T j)) :: Own 107 4 (.slice S.ka S.K S.kc) S.K (rowsN S.K (fun j => bkR (S.B j))) :: BigF S.K (fun j => bkA (S.B j)) :: F) (Gives w0 fun v F2 => v = .bool true ∧ F2 = Blk wb (.cells [Value.slice S.la S.N S.lc, .slice S.ia S.J S.ic, .slice S.ka S.K S.kc].toArray 74 (0, 0)) :: Own 94 2 (.slice S.la S.N S.lc) S.N (rowsN S.N (fun j => mpR (S.M j))) :: BigF S.N (fun j => mpA (S.M j)) :: Own 102 3 (.slice S.ia S.J S.ic) S.J (rowsN S.J (fun j => kiR (S.T j))) :: BigF S.J (fun j => kiA (S.T j)) :: Own 107 4 (.slice S.ka S.K S.kc) S.K (rowsN S.K (fun j => bkR (S.B j))) :: BigF S.K (fun j => bkA (S.B j)) :: F) := by
  have hN := hS.hN
  obtain ⟨i, hi⟩ : ∃ q : Nat, pk who (S.N : Int) = (q : Int) := ⟨(pk who (S.N : Int)).toNat, by have := pk_lt who (n := (S.N : Int)) (by omega); omega⟩
  have hiN : i < S.N := by have := pk_lt who (n := (S.N : Int)) (by omega); omega
  obtain ⟨j, hj⟩ : ∃ q : Nat, pk oth (S.N : Int) = (q : Int) := ⟨(pk oth (S.N : Int)).toNat, by have := pk_lt oth (n := (S.N : Int)) (by omega); omega⟩
  have hjN : j < S.N := by have := pk_lt oth (n := (S.N : Int)) (by omega); omega
  obtain ⟨p1, p2, p3, p4, p5, p6⟩ := hS.hM i hiN
  obtain ⟨q1, q2, q3, q4, q5, q6⟩ := hS.hM j hjN
  obtain ⟨n, hn1, hn2, hnn⟩ : ∃ n, (S.M i).n ≤ n ∧ (S.M j).n ≤ n ∧ (n = (S.M i).n ∨ n = (S.M j).n) := ⟨max (S.M i).n (S.M j).n, by omega, by omega, by omega⟩
  have hn : n ≤ 1073741824 := by omega
  have hx : Hid ((S.M i).n ≤ n ∧ (S.M j).n ≤ n ∧ (n = (S.M i).n ∨ n = (S.M j).n)) := ⟨⟨hn1, hn2, hnn⟩⟩
  clear hnn
  obtain ⟨gl, hgl⟩ := hS.hla.resolve_left (by omega)
  have hp0 : 0 ≤ pk oc 20 := (pk_lt oc (by omega)).1
  have hp1 : pk oc 20 < 20 := (pk_lt oc (by omega)).2
  refine c_enter Try.func24 rfl rfl rfl ?_
  refine g_seq ?_
  refine g_region ?_
  refine l_boxs rfl rfl ?_; intro b3
  refine l_assign rfl rfl ?_
  refine l_nil ?_
  refine g_seq ?_
  refine g_join (X := Nat × Nat) [(3, _), (4, _)] (.cons rfl (.cons rfl (.nil))) (fun z => True) (fun z => [(5, .pointer (some ⟨z.1, 0, none⟩)), (6, .pointer (some ⟨z.2, 0, none⟩))]) (fun z => Blk z.2 (.cells [Value.pointer (some ⟨(S.M j).x, 0, none⟩), .pointer (some ⟨(S.M j).y, 0, none⟩)].toArray 94 (0, 0)) :: Blk z.1 (.cells [Value.pointer (some ⟨(S.M i).x, 0, none⟩), .pointer (some ⟨(S.M i).y, 0, none⟩)].toArray 94 (0, 0)) :: Blk b3 (.cells [Value.int .i64 kd, .int .i64 who, .int .i64 oth, .int .i64 oa, .int .i64 ob, .int .i64 oc, .int .u32 ox, .slice sa sn sc].toArray 65 (0, 0)) :: Blk wb (.cells [Value.slice S.la S.N S.lc, .slice S.ia S.J S.ic, .slice S.ka S.K S.kc].toArray 74 (0, 0)) :: Own 94 2 (.slice S.la S.N S.lc) S.N (rowsN S.N (fun j => mpR (S.M j))) :: BigF S.N (fun j => mpA (S.M j)) :: Own 102 3 (.slice S.ia S.J S.ic) S.J (rowsN S.J (fun j => kiR (S.T j))) :: BigF S.J (fun j => kiA (S.T j)) :: Own 107 4 (.slice S.ka S.K S.kc) S.K (rowsN S.K (fun j => bkR (S.B j))) :: BigF S.K (fun j => bkA (S.B j)) :: F) ?_ ?_
  · rintro ⟨b5, b6⟩ _
    dsimp only [List.cons_append, List.nil_append]
    refine g_seq ?_
    refine g_region ?_
    refine l_fieldAddr rfl fa_94_1 rfl ?_
    refine l_ld rfl Try.isAgg87 rfl rfl ?_
    refine l_fieldAddr rfl fa_94_1 rfl ?_
    refine l_ld rfl Try.isAgg87 rfl rfl ?_
    refine l_call rfl Try.call45 rfl (rdiffer_x _ _ (S.M i).y (S.M i).h (S.M i).n (S.M i).d (S.M j).y (S.M j).h (S.M j).n (S.M j).d n hx.out.1 hx.out.2.1 hx.out.2.2 hn (S.M i).W (S.M j).W (mp_rd (j := i) (by first | exact mem_getO 0 rfl | exact mem_getO 1 rfl | exact mem_getO 2 rfl | exact mem_getO 3 rfl | exact mem_getO 4 rfl | exact mem_getO 5 rfl | exact mem_getO 6 rfl | exact mem_getO 7 rfl | exact mem_getO 8 rfl | exact mem_getO 9 rfl | exact mem_getO 10 rfl | exact mem_getO 11 rfl) hiN).2 p1 (mp_rd (j := j) (by first | exact mem_getO 0 rfl | exact mem_getO 1 rfl | exact mem_getO 2 rfl | exact mem_getO 3 rfl | exact mem_getO 4 rfl | exact mem_getO 5 rfl | exact mem_getO 6 rfl | exact mem_getO 7 rfl | exact mem_getO 8 rfl | exact mem_getO 9 rfl | exact mem_getO 10 rfl | exact mem_getO 11 rfl) hjN).2 q1) ?_; rintro _ _ ⟨a7, c7, T7, rfl, hT7, ha7, hc7, rfl⟩
    replace ha7 := Hid.mk ha7
    have hTn := difs_len (S.M i).W (S.M j).W n
    rw [← hT7] at hTn
    refine l_assign rfl rfl ?_
    refine l_nil ?_
    refine g_seq ?_
    refine g_region ?_
    refine l_fieldAddr rfl fa_94_0 rfl ?_
    refine l_ld rfl Try.isAgg25 rfl rfl ?_
    refine l_fieldAddr rfl fa_94_0 rfl ?_
    refine l_ld rfl Try.isAgg25 rfl rfl ?_
    refine l_call rfl Try.call11 rfl (differ_c _ _ (some ⟨(S.M i).x, 0, none⟩) (some ⟨(S.M j).x, 0, none⟩)) ?_; rintro _ _ ⟨bm, bo, rfl, rfl⟩
    refine l_assign rfl rfl ?_
    refine l_nil ?_
    refine g_seq ?_
    refine g_region ?_
    refine l_fieldAddr rfl fa_65_5 rfl ?_
    first | refine l_ld rfl Try.isAgg3 rfl rfl ?_ | refine l_ldw rfl Try.isAgg3 rfl (by omega) ?_
    refine l_call rfl Try.call8 rfl (pick_ok _ _ oc 20 (by omega) (by omega) (by omega) (by omega)) ?_; rintro _ _ ⟨rfl, rfl⟩
    refine l_assign rfl rfl ?_
    refine l_nil ?_
    refine g_seq ?_
    refine g_region ?_
    refine l_move rfl rfl ?_
    refine l_move rfl rfl ?_
    refine l_call rfl Try.call13 rfl (along_any _ _ (S.M i).x (S.M i).g (S.M i).n (S.M i).c (S.M j).x (S.M j).g (S.M j).n (S.M j).c n hx.out.1 hx.out.2.1 hx.out.2.2 hn (S.M i).W (S.M j).W (mp_rd (j := i) (by first | exact mem_getO 0 rfl | exact mem_getO 1 rfl | exact mem_getO 2 rfl | exact mem_getO 3 rfl | exact mem_getO 4 rfl | exact mem_getO 5 rfl | exact mem_getO 6 rfl | exact mem_getO 7 rfl | exact mem_getO 8 rfl | exact mem_getO 9 rfl | exact mem_getO 10 rfl | exact mem_getO 11 rfl) hiN).1 p1 (mp_rd (j := j) (by first | exact mem_getO 0 rfl | exact mem_getO 1 rfl | exact mem_getO 2 rfl | exact mem_getO 3 rfl | exact mem_getO 4 rfl | exact mem_getO 5 rfl | exact mem_getO 6 rfl | exact mem_getO 7 rfl | exact mem_getO 8 rfl | exact mem_getO 9 rfl | exact mem_getO 10 rfl | exact mem_getO 11 rfl) hjN).1 q1 bm bo (fun w hw => blk_cell (c := [Value.pointer (some ⟨(S.M i).x, 0, none⟩)]) (hw.ok (Blk bm (.cells [Value.pointer (some ⟨(S.M i).x, 0, none⟩)].toArray 25 (0, 0))) (by first | exact mem_getO 0 rfl | exact mem_getO 1 rfl | exact mem_getO 2 rfl | exact mem_getO 3 rfl | exact mem_getO 4 rfl | exact mem_getO 5 rfl | exact mem_getO 6 rfl | exact mem_getO 7 rfl | exact mem_getO 8 rfl | exact mem_getO 9 rfl | exact mem_getO 10 rfl | exact mem_getO 11 rfl)) rfl) (fun w hw => blk_cell (c := [Value.pointer (some ⟨(S.M j).x, 0, none⟩)]) (hw.ok (Blk bo (.cells [Value.pointer (some ⟨(S.M j).x, 0, none⟩)].toArray 25 (0, 0))) (by first | exact mem_getO 0 rfl | exact mem_getO 1 rfl | exact mem_getO 2 rfl | exact mem_getO 3 rfl | exact mem_getO 4 rfl | exact mem_getO 5 rfl | exact mem_getO 6 rfl | exact mem_getO 7 rfl | exact mem_getO 8 rfl | exact mem_getO 9 rfl | exact mem_getO 10 rfl | exact mem_getO 11 rfl)) rfl) (pk oc 20) hp0 (by omega)) ?_; rintro _ _ ⟨a10, c10, T10, rfl, hT10, ha10, rfl⟩
    replace ha10 := Hid.mk ha10
    refine l_assign rfl rfl ?_
    refine l_nil ?_
    refine g_seq ?_
    refine g_region ?_
    refine l_move rfl rfl ?_
    refine l_move rfl rfl ?_
    refine l_len rfl Try.underlying36 rfl ?_
    first | refine l_add rfl rfl rfl (w_i64 (by omega) (by omega)) ?_ | refine l_addw rfl rfl rfl ?_
    refine l_call rfl Try.call13 rfl (along_any _ _ (S.M i).x (S.M i).g (S.M i).n (S.M i).c (S.M j).x (S.M j).g (S.M j).n (S.M j).c n hx.out.1 hx.out.2.1 hx.out.2.2 hn (S.M i).W (S.M j).W (mp_rd (j := i) (by first | exact mem_getO 0 rfl | exact mem_getO 1 rfl | exact mem_getO 2 rfl | exact mem_getO 3 rfl | exact mem_getO 4 rfl | exact mem_getO 5 rfl | exact mem_getO 6 rfl | exact mem_getO 7 rfl | exact mem_getO 8 rfl | exact mem_getO 9 rfl | exact mem_getO 10 rfl | exact mem_getO 11 rfl) hiN).1 p1 (mp_rd (j := j) (by first | exact mem_getO 0 rfl | exact mem_getO 1 rfl | exact mem_getO 2 rfl | exact mem_getO 3 rfl | exact mem_getO 4 rfl | exact mem_getO 5 rfl | exact mem_getO 6 rfl | exact mem_getO 7 rfl | exact mem_getO 8 rfl | exact mem_getO 9 rfl | exact mem_getO 10 rfl | exact mem_getO 11 rfl) hjN).1 q1 bm bo (fun w hw => blk_cell (c := [Value.pointer (some ⟨(S.M i).x, 0, none⟩)]) (hw.ok (Blk bm (.cells [Value.pointer (some ⟨(S.M i).x, 0, none⟩)].toArray 25 (0, 0))) (by first | exact mem_getO 0 rfl | exact mem_getO 1 rfl | exact mem_getO 2 rfl | exact mem_getO 3 rfl | exact mem_getO 4 rfl | exact mem_getO 5 rfl | exact mem_getO 6 rfl | exact mem_getO 7 rfl | exact mem_getO 8 rfl | exact mem_getO 9 rfl | exact mem_getO 10 rfl | exact mem_getO 11 rfl)) rfl) (fun w hw => blk_cell (c := [Value.pointer (some ⟨(S.M j).x, 0, none⟩)]) (hw.ok (Blk bo (.cells [Value.pointer (some ⟨(S.M j).x, 0, none⟩)].toArray 25 (0, 0))) (by first | exact mem_getO 0 rfl | exact mem_getO 1 rfl | exact mem_getO 2 rfl | exact mem_getO 3 rfl | exact mem_getO 4 rfl | exact mem_getO 5 rfl | exact mem_getO 6 rfl | exact mem_getO 7 rfl | exact mem_getO 8 rfl | exact mem_getO 9 rfl | exact mem_getO 10 rfl | exact mem_getO 11 rfl)) rfl) ((T7.length : Int) + 1) (by omega) (by omega)) ?_; rintro _ _ ⟨a11, c11, T11, rfl, hT11, ha11, rfl⟩
    replace ha11 := Hid.mk ha11
    refine l_assign rfl rfl ?_
    refine l_nil ?_
    refine g_seq ?_
    refine g_region ?_
    refine l_move rfl rfl ?_
    refine l_move rfl rfl ?_
    refine l_len rfl Try.underlying36 rfl ?_
    first | refine l_add rfl rfl rfl (w_i64 (by omega) (by omega)) ?_ | refine l_addw rfl rfl rfl ?_
    refine l_call rfl Try.call46 rfl (within_x _ _ (S.M i).x (S.M i).g (S.M i).n (S.M i).c (S.M j).x (S.M j).g (S.M j).n (S.M j).c n hx.out.1 hx.out.2.1 hx.out.2.2 hn (S.M i).W (S.M j).W (mp_rd (j := i) (by first | exact mem_getO 0 rfl | exact mem_getO 1 rfl | exact mem_getO 2 rfl | exact mem_getO 3 rfl | exact mem_getO 4 rfl | exact mem_getO 5 rfl | exact mem_getO 6 rfl | exact mem_getO 7 rfl | exact mem_getO 8 rfl | exact mem_getO 9 rfl | exact mem_getO 10 rfl | exact mem_getO 11 rfl) hiN).1 p1 (mp_rd (j := j) (by first | exact mem_getO 0 rfl | exact mem_getO 1 rfl | exact mem_getO 2 rfl | exact mem_getO 3 rfl | exact mem_getO 4 rfl | exact mem_getO 5 rfl | exact mem_getO 6 rfl | exact mem_getO 7 rfl | exact mem_getO 8 rfl | exact mem_getO 9 rfl | exact mem_getO 10 rfl | exact mem_getO 11 rfl) hjN).1 q1 bm bo (fun w hw => blk_cell (c := [Value.pointer (some ⟨(S.M i).x, 0, none⟩)]) (hw.ok (Blk bm (.cells [Value.pointer (some ⟨(S.M i).x, 0, none⟩)].toArray 25 (0, 0))) (by first | exact mem_getO 0 rfl | exact mem_getO 1 rfl | exact mem_getO 2 rfl | exact mem_getO 3 rfl | exact mem_getO 4 rfl | exact mem_getO 5 rfl | exact mem_getO 6 rfl | exact mem_getO 7 rfl | exact mem_getO 8 rfl | exact mem_getO 9 rfl | exact mem_getO 10 rfl | exact mem_getO 11 rfl)) rfl) (fun w hw => blk_cell (c := [Value.pointer (some ⟨(S.M j).x, 0, none⟩)]) (hw.ok (Blk bo (.cells [Value.pointer (some ⟨(S.M j).x, 0, none⟩)].toArray 25 (0, 0))) (by first | exact mem_getO 0 rfl | exact mem_getO 1 rfl | exact mem_getO 2 rfl | exact mem_getO 3 rfl | exact mem_getO 4 rfl | exact mem_getO 5 rfl | exact mem_getO 6 rfl | exact mem_getO 7 rfl | exact mem_getO 8 rfl | exact mem_getO 9 rfl | exact mem_getO 10 rfl | exact mem_getO 11 rfl)) rfl) (T7.length : Int) (by rw [hT7])) ?_; rintro _ _ ⟨rfl, rfl⟩
    refine l_assign rfl rfl ?_
    refine l_nil ?_
    refine g_seq ?_
    refine g_region ?_
    refine l_move rfl rfl ?_
    refine l_move rfl rfl ?_
    refine l_move rfl rfl ?_
    refine l_call rfl Try.call48 rfl (head_ok _ _ a7 T7.length c7 hc7 (by omega) ha7.out (pk oc 20) hp0) ?_; rintro _ _ ⟨rfl, rfl⟩
    rw [show min T7.length (pk oc 20).toNat = T10.length by rw [hT10, ← hT7, List.length_take, Nat.min_comm]]
    have hl10 : T10.length ≤ T7.length := by rw [hT10, ← hT7, List.length_take]; omega
    refine l_call rfl Try.call47 rfl (samei_ok _ _ a10 a7 T10.length c10 c7 T10 (IR.own rfl (by first | exact mem_getO 0 rfl | exact mem_getO 1 rfl | exact mem_getO 2 rfl | exact mem_getO 3 rfl | exact mem_getO 4 rfl | exact mem_getO 5 rfl | exact mem_getO 6 rfl | exact mem_getO 7 rfl | exact mem_getO 8 rfl | exact mem_getO 9 rfl | exact mem_getO 10 rfl | exact mem_getO 11 rfl) ha10.out) (ir_takeown (T := T7) (c := c7) (by first | exact mem_getO 0 rfl | exact mem_getO 1 rfl | exact mem_getO 2 rfl | exact mem_getO 3 rfl | exact mem_getO 4 rfl | exact mem_getO 5 rfl | exact mem_getO 6 rfl | exact mem_getO 7 rfl | exact mem_getO 8 rfl | exact mem_getO 9 rfl | exact mem_getO 10 rfl | exact mem_getO 11 rfl) ha7.out rfl (by rw [hT10, ← hT7])) (by omega)) ?_; rintro _ _ ⟨rfl, rfl⟩
    refine l_move rfl rfl ?_
    refine l_guard_yes rfl rfl ?_
    refine l_move rfl rfl ?_
    refine l_guard_yes rfl rfl ?_
    refine l_move rfl rfl ?_
    refine l_guard_yes rfl rfl ?_
    have hT11b : T11 = T7 := by rw [hT11, ← hT7, List.take_of_length_le (by omega)]
    rw [hT11b]
    refine l_call rfl Try.call47 rfl (samei_ok _ _ a11 a7 T7.length c11 c7 T7 (IR.own rfl (by first | exact mem_getO 0 rfl | exact mem_getO 1 rfl | exact mem_getO 2 rfl | exact mem_getO 3 rfl | exact mem_getO 4 rfl | exact mem_getO 5 rfl | exact mem_getO 6 rfl | exact mem_getO 7 rfl | exact mem_getO 8 rfl | exact mem_getO 9 rfl | exact mem_getO 10 rfl | exact mem_getO 11 rfl) (hT11b ▸ ha11.out)) (IR.own rfl (by first | exact mem_getO 0 rfl | exact mem_getO 1 rfl | exact mem_getO 2 rfl | exact mem_getO 3 rfl | exact mem_getO 4 rfl | exact mem_getO 5 rfl | exact mem_getO 6 rfl | exact mem_getO 7 rfl | exact mem_getO 8 rfl | exact mem_getO 9 rfl | exact mem_getO 10 rfl | exact mem_getO 11 rfl) ha7.out) (by omega)) ?_; rintro _ _ ⟨rfl, rfl⟩
    refine l_pick_t rfl rfl rfl ?_
    refine l_move rfl rfl ?_
    refine l_guard_yes rfl rfl ?_
    refine l_move rfl rfl ?_
    refine l_guard_yes rfl rfl ?_
    refine l_move rfl rfl ?_
    refine l_guard_yes rfl rfl ?_
    refine l_len rfl Try.underlying36 rfl ?_
    refine l_guard_yes rfl rfl ?_
    refine l_move rfl rfl ?_
    refine l_guard_yes rfl rfl ?_
    refine l_len rfl Try.underlying36 rfl ?_
    refine l_guard_yes rfl rfl ?_
    have h83 : 0 ≤ (T7.length : Int) * T7.length ∧ (T7.length : Int) * T7.length ≤ 1152921504606846976 := ⟨Int.mul_nonneg (by omega) (by omega), Int.le_trans (Int.mul_le_mul (show (T7.length : Int) ≤ 1073741824 by omega) (show (T7.length : Int) ≤ 1073741824 by omega) (by omega) (by decide)) (by decide)⟩
    refine l_mul rfl rfl rfl (w_i64 (by omega) (by omega)) ?_
    refine l_guard_yes rfl rfl ?_
    refine l_eql rfl rfl rfl ?_
    refine l_pick_t rfl rfl rfl ?_
    refine l_assign rfl rfl ?_
    refine l_nil ?_
    refine g_ret Try.func24 rfl (.tmp rfl .nil) ?_
    exact Gives.mki ⟨(by first | rfl | exact congrArg Value.bool (decide_eq_true rfl) | (simp [resVal]; done)), rfl⟩
  intro joinJ
  dsimp only [List.cons_append, List.nil_append] at joinJ
  refine gp_start mo (by kernel_rfl) (by kernel_rfl) ?_
  rw [hgl]
  refine gp_quiet 0 rfl rfl rfl rfl rfl rfl (q_move rfl) ?_
  refine gp_quiet 1 rfl rfl rfl rfl rfl rfl (q_nilCheck rfl) ?_
  refine gp_quiet 2 rfl rfl rfl rfl rfl rfl (q_fieldAddr fa_74_0 rfl) ?_
  refine gp_quiet 3 rfl rfl rfl rfl rfl rfl (q_ld Try.isAgg68 rfl rfl) ?_
  refine gp_quiet 4 rfl rfl rfl rfl rfl rfl (q_fieldAddr fa_65_1 rfl) ?_
  first | refine gp_quiet 5 rfl rfl rfl rfl rfl rfl (q_ld Try.isAgg3 rfl rfl) ?_ | refine gp_quiet 5 rfl rfl rfl rfl rfl rfl (q_ldw Try.isAgg3 rfl (by omega)) ?_
  refine gp_quiet 6 rfl rfl rfl rfl rfl rfl (q_move rfl) ?_
  refine gp_quiet 7 rfl rfl rfl rfl rfl rfl (q_nilCheck rfl) ?_
  refine gp_quiet 8 rfl rfl rfl rfl rfl rfl (q_fieldAddr fa_74_0 rfl) ?_
  refine gp_quiet 9 rfl rfl rfl rfl rfl rfl (q_ld Try.isAgg68 rfl rfl) ?_
  refine gp_quiet 10 rfl rfl rfl rfl rfl rfl (q_len Try.underlying68 rfl) ?_
  refine gp_two 11 [5, 10] [9, 8, 7, 6, 4, 3, 2, 1, 0] 14 [] [10, 9, 8, 7, 6, 5, 4, 3, 2, 1, 0] rfl rfl rfl rfl rfl rfl (does_call Try.call8 rfl (pick_ok _ _ who (S.N : Int) (by omega) (by omega) (by omega) (by omega))) (does_allocs Try.zeroValue94) ?_ ?_
  · rintro _ _ ⟨rfl, rfl⟩
    rw [hi]
    refine ⟨?_, ?_⟩
    · refine .cons rfl rfl rfl rfl rfl (q_ld Try.isAgg68 rfl rfl) ?_
      refine .cons rfl rfl rfl rfl rfl (q_fieldAddr fa_74_0 rfl) ?_
      refine .cons rfl rfl rfl rfl rfl (q_nilCheck rfl) ?_
      refine .cons rfl rfl rfl rfl rfl (q_move rfl) ?_
      refine .cons rfl rfl rfl rfl rfl (q_fieldAddr fa_65_1 rfl) ?_
      refine .cons rfl rfl rfl rfl rfl (q_ld Try.isAgg68 rfl rfl) ?_
      refine .cons rfl rfl rfl rfl rfl (q_fieldAddr fa_74_0 rfl) ?_
      refine .cons rfl rfl rfl rfl rfl (q_nilCheck rfl) ?_
      refine .cons rfl rfl rfl rfl rfl (q_move rfl) ?_
      exact .nil
    refine gp_quiet 12 rfl rfl rfl rfl rfl rfl (q_ixs Try.underlying68 Try.sizeOf94 rfl rfl (by omega) (by omega)) ?_
    refine gp_quiet 13 rfl rfl rfl rfl rfl rfl (q_loadr (l := [.pointer (some ⟨(S.M i).x, 0, none⟩), .pointer (some ⟨(S.M i).y, 0, none⟩)]) Try.isAgg94 Try.sizeOf94 rfl rfl (mp_row (by first | exact mem_getO 0 rfl | exact mem_getO 1 rfl | exact mem_getO 2 rfl | exact mem_getO 3 rfl | exact mem_getO 4 rfl | exact mem_getO 5 rfl | exact mem_getO 6 rfl | exact mem_getO 7 rfl | exact mem_getO 8 rfl | exact mem_getO 9 rfl | exact mem_getO 10 rfl | exact mem_getO 11 rfl) hiN rfl)) ?_
    refine gp_eff 14 rfl rfl rfl rfl rfl rfl (does_allocs Try.zeroValue94) ?_
    rintro _ _ ⟨b5, rfl, rfl⟩
    refine ⟨?_, ?_⟩
    · refine .cons rfl rfl rfl rfl rfl (q_loadr (l := [.pointer (some ⟨(S.M i).x, 0, none⟩), .pointer (some ⟨(S.M i).y, 0, none⟩)]) Try.isAgg94 Try.sizeOf94 rfl rfl (mp_row (by first | exact mem_getO 0 rfl | exact mem_getO 1 rfl | exact mem_getO 2 rfl | exact mem_getO 3 rfl | exact mem_getO 4 rfl | exact mem_getO 5 rfl | exact mem_getO 6 rfl | exact mem_getO 7 rfl | exact mem_getO 8 rfl | exact mem_getO 9 rfl | exact mem_getO 10 rfl | exact mem_getO 11 rfl) hiN rfl)) ?_
      refine .cons rfl rfl rfl rfl rfl (q_ixs Try.underlying68 Try.sizeOf94 rfl rfl (by omega) (by omega)) ?_
      refine .cons rfl rfl rfl rfl rfl (q_ld Try.isAgg68 rfl rfl) ?_
      refine .cons rfl rfl rfl rfl rfl (q_fieldAddr fa_74_0 rfl) ?_
      refine .cons rfl rfl rfl rfl rfl (q_nilCheck rfl) ?_
      refine .cons rfl rfl rfl rfl rfl (q_move rfl) ?_
      refine .cons rfl rfl rfl rfl rfl (q_fieldAddr fa_65_1 rfl) ?_
      refine .cons rfl rfl rfl rfl rfl (q_ld Try.isAgg68 rfl rfl) ?_
      refine .cons rfl rfl rfl rfl rfl (q_fieldAddr fa_74_0 rfl) ?_
      refine .cons rfl rfl rfl rfl rfl (q_nilCheck rfl) ?_
      refine .cons rfl rfl rfl rfl rfl (q_move rfl) ?_
      exact .nil
    refine gp_effa 15 [0, 1, 2, 3, 4, 6, 7, 8, 9, 12, 13] [] rfl rfl rfl rfl rfl rfl rfl (does_sts Try.sizeOf94 rfl rfl rfl rfl rfl) ?_
    rintro _ _ ⟨rfl, rfl⟩
    refine ⟨?_, ?_⟩
    · exact .nil
    refine gp_end rfl rfl ?_
    refine g_seq ?_
    refine gp_start mo (by kernel_rfl) (by kernel_rfl) ?_
    refine gp_quiet 0 rfl rfl rfl rfl rfl rfl (q_move rfl) ?_
    refine gp_quiet 1 rfl rfl rfl rfl rfl rfl (q_nilCheck rfl) ?_
    refine gp_quiet 2 rfl rfl rfl rfl rfl rfl (q_fieldAddr fa_74_0 rfl) ?_
    refine gp_quiet 3 rfl rfl rfl rfl rfl rfl (q_ld Try.isAgg68 rfl rfl) ?_
    refine gp_quiet 4 rfl rfl rfl rfl rfl rfl (q_fieldAddr fa_65_2 rfl) ?_
    first | refine gp_quiet 5 rfl rfl rfl rfl rfl rfl (q_ld Try.isAgg3 rfl rfl) ?_ | refine gp_quiet 5 rfl rfl rfl rfl rfl rfl (q_ldw Try.isAgg3 rfl (by omega)) ?_
    refine gp_quiet 6 rfl rfl rfl rfl rfl rfl (q_move rfl) ?_
    refine gp_quiet 7 rfl rfl rfl rfl rfl rfl (q_nilCheck rfl) ?_
    refine gp_quiet 8 rfl rfl rfl rfl rfl rfl (q_fieldAddr fa_74_0 rfl) ?_
    refine gp_quiet 9 rfl rfl rfl rfl rfl rfl (q_ld Try.isAgg68 rfl rfl) ?_
    refine gp_quiet 10 rfl rfl rfl rfl rfl rfl (q_len Try.underlying68 rfl) ?_
    refine gp_two 11 [5, 10] [9, 8, 7, 6, 4, 3, 2, 1, 0] 14 [] [10, 9, 8, 7, 6, 5, 4, 3, 2, 1, 0] rfl rfl rfl rfl rfl rfl (does_call Try.call8 rfl (pick_ok _ _ oth (S.N : Int) (by omega) (by omega) (by omega) (by omega))) (does_allocs Try.zeroValue94) ?_ ?_
    · rintro _ _ ⟨rfl, rfl⟩
      rw [hj]
      refine ⟨?_, ?_⟩
      · refine .cons rfl rfl rfl rfl rfl (q_ld Try.isAgg68 rfl rfl) ?_
        refine .cons rfl rfl rfl rfl rfl (q_fieldAddr fa_74_0 rfl) ?_
        refine .cons rfl rfl rfl rfl rfl (q_nilCheck rfl) ?_
        refine .cons rfl rfl rfl rfl rfl (q_move rfl) ?_
        refine .cons rfl rfl rfl rfl rfl (q_fieldAddr fa_65_2 rfl) ?_
        refine .cons rfl rfl rfl rfl rfl (q_ld Try.isAgg68 rfl rfl) ?_
        refine .cons rfl rfl rfl rfl rfl (q_fieldAddr fa_74_0 rfl) ?_
        refine .cons rfl rfl rfl rfl rfl (q_nilCheck rfl) ?_
        refine .cons rfl rfl rfl rfl rfl (q_move rfl) ?_
        exact .nil
      refine gp_quiet 12 rfl rfl rfl rfl rfl rfl (q_ixs Try.underlying68 Try.sizeOf94 rfl rfl (by omega) (by omega)) ?_
      refine gp_quiet 13 rfl rfl rfl rfl rfl rfl (q_loadr (l := [.pointer (some ⟨(S.M j).x, 0, none⟩), .pointer (some ⟨(S.M j).y, 0, none⟩)]) Try.isAgg94 Try.sizeOf94 rfl rfl (mp_row (by first | exact mem_getO 0 rfl | exact mem_getO 1 rfl | exact mem_getO 2 rfl | exact mem_getO 3 rfl | exact mem_getO 4 rfl | exact mem_getO 5 rfl | exact mem_getO 6 rfl | exact mem_getO 7 rfl | exact mem_getO 8 rfl | exact mem_getO 9 rfl | exact mem_getO 10 rfl | exact mem_getO 11 rfl) hjN rfl)) ?_
      refine gp_eff 14 rfl rfl rfl rfl rfl rfl (does_allocs Try.zeroValue94) ?_
      rintro _ _ ⟨b6, rfl, rfl⟩
      refine ⟨?_, ?_⟩
      · refine .cons rfl rfl rfl rfl rfl (q_loadr (l := [.pointer (some ⟨(S.M j).x, 0, none⟩), .pointer (some ⟨(S.M j).y, 0, none⟩)]) Try.isAgg94 Try.sizeOf94 rfl rfl (mp_row (by first | exact mem_getO 0 rfl | exact mem_getO 1 rfl | exact mem_getO 2 rfl | exact mem_getO 3 rfl | exact mem_getO 4 rfl | exact mem_getO 5 rfl | exact mem_getO 6 rfl | exact mem_getO 7 rfl | exact mem_getO 8 rfl | exact mem_getO 9 rfl | exact mem_getO 10 rfl | exact mem_getO 11 rfl) hjN rfl)) ?_
        refine .cons rfl rfl rfl rfl rfl (q_ixs Try.underlying68 Try.sizeOf94 rfl rfl (by omega) (by omega)) ?_
        refine .cons rfl rfl rfl rfl rfl (q_ld Try.isAgg68 rfl rfl) ?_
        refine .cons rfl rfl rfl rfl rfl (q_fieldAddr fa_74_0 rfl) ?_
        refine .cons rfl rfl rfl rfl rfl (q_nilCheck rfl) ?_
        refine .cons rfl rfl rfl rfl rfl (q_move rfl) ?_
        refine .cons rfl rfl rfl rfl rfl (q_fieldAddr fa_65_2 rfl) ?_
        refine .cons rfl rfl rfl rfl rfl (q_ld Try.isAgg68 rfl rfl) ?_
        refine .cons rfl rfl rfl rfl rfl (q_fieldAddr fa_74_0 rfl) ?_
        refine .cons rfl rfl rfl rfl rfl (q_nilCheck rfl) ?_
        refine .cons rfl rfl rfl rfl rfl (q_move rfl) ?_
        exact .nil
      refine gp_effa 15 [0, 1, 2, 3, 4, 6, 7, 8, 9, 12, 13] [] rfl rfl rfl rfl rfl rfl rfl (does_sts Try.sizeOf94 rfl rfl rfl rfl rfl) ?_
      rintro _ _ ⟨rfl, rfl⟩
      refine ⟨?_, ?_⟩
      · exact .nil
      refine gp_end rfl rfl ?_
      rw [← hgl]
      exact g_againi (joinJ (b5, b6) trivial) (.cons rfl (.cons rfl (.cons rfl (.cons rfl (.nil)))))
    · rintro _ _ ⟨b6, rfl, rfl⟩
      refine ⟨?_, ?_⟩
      · refine .cons rfl rfl rfl rfl rfl (q_len Try.underlying68 rfl) ?_
        refine .cons rfl rfl rfl rfl rfl (q_ld Try.isAgg68 rfl rfl) ?_
        refine .cons rfl rfl rfl rfl rfl (q_fieldAddr fa_74_0 rfl) ?_
        refine .cons rfl rfl rfl rfl rfl (q_nilCheck rfl) ?_
        refine .cons rfl rfl rfl rfl rfl (q_move rfl) ?_
        first | refine .cons rfl rfl rfl rfl rfl (q_ld Try.isAgg3 rfl rfl) ?_ | refine .cons rfl rfl rfl rfl rfl (q_ldw Try.isAgg3 rfl (by omega)) ?_
        refine .cons rfl rfl rfl rfl rfl (q_fieldAddr fa_65_2 rfl) ?_
        refine .cons rfl rfl rfl rfl rfl (q_ld Try.isAgg68 rfl rfl) ?_
        refine .cons rfl rfl rfl rfl rfl (q_fieldAddr fa_74_0 rfl) ?_
        refine .cons rfl rfl rfl rfl rfl (q_nilCheck rfl) ?_
        refine .cons rfl rfl rfl rfl rfl (q_move rfl) ?_
        exact .nil
      refine gp_effa 11 [5, 10] [9, 8, 7, 6, 4, 3, 2, 1, 0] rfl rfl rfl rfl rfl rfl rfl (does_call Try.call8 rfl (pick_ok _ _ oth (S.N : Int) (by omega) (by omega) (by omega) (by omega))) ?_
      rintro _ _ ⟨rfl, rfl⟩
      rw [hj]
      refine ⟨?_, ?_⟩
      · refine .cons rfl rfl rfl rfl rfl (q_ld Try.isAgg68 rfl rfl) ?_
        refine .cons rfl rfl rfl rfl rfl (q_fieldAddr fa_74_0 rfl) ?_
        refine .cons rfl rfl rfl rfl rfl (q_nilCheck rfl) ?_
        refine .cons rfl rfl rfl rfl rfl (q_move rfl) ?_
        refine .cons rfl rfl rfl rfl rfl (q_fieldAddr fa_65_2 rfl) ?_
        refine .cons rfl rfl rfl rfl rfl (q_ld Try.isAgg68 rfl rfl) ?_
        refine .cons rfl rfl rfl rfl rfl (q_fieldAddr fa_74_0 rfl) ?_
        refine .cons rfl rfl rfl rfl rfl (q_nilCheck rfl) ?_
        refine .cons rfl rfl rfl rfl rfl (q_move rfl) ?_
        exact .nil
      refine gp_quiet 12 rfl rfl rfl rfl rfl rfl (q_ixs Try.underlying68 Try.sizeOf94 rfl rfl (by omega) (by omega)) ?_
      refine gp_quiet 13 rfl rfl rfl rfl rfl rfl (q_loadr (l := [.pointer (some ⟨(S.M j).x, 0, none⟩), .pointer (some ⟨(S.M j).y, 0, none⟩)]) Try.isAgg94 Try.sizeOf94 rfl rfl (mp_row (by first | exact mem_getO 0 rfl | exact mem_getO 1 rfl | exact mem_getO 2 rfl | exact mem_getO 3 rfl | exact mem_getO 4 rfl | exact mem_getO 5 rfl | exact mem_getO 6 rfl | exact mem_getO 7 rfl | exact mem_getO 8 rfl | exact mem_getO 9 rfl | exact mem_getO 10 rfl | exact mem_getO 11 rfl) hjN rfl)) ?_
      refine gp_effa 15 [0, 1, 2, 3, 4, 6, 7, 8, 9, 12, 13] [] rfl rfl rfl rfl rfl rfl rfl (does_sts Try.sizeOf94 rfl rfl rfl rfl rfl) ?_
      rintro _ _ ⟨rfl, rfl⟩
      refine ⟨?_, ?_⟩
      · exact .nil
      refine gp_end rfl rfl ?_
      rw [← hgl]
      exact g_againi (joinJ (b5, b6) trivial) (.cons rfl (.cons rfl (.cons rfl (.cons rfl (.nil)))))
  · rintro _ _ ⟨b5, rfl, rfl⟩
    refine ⟨?_, ?_⟩
    · refine .cons rfl rfl rfl rfl rfl (q_len Try.underlying68 rfl) ?_
      refine .cons rfl rfl rfl rfl rfl (q_ld Try.isAgg68 rfl rfl) ?_
      refine .cons rfl rfl rfl rfl rfl (q_fieldAddr fa_74_0 rfl) ?_
      refine .cons rfl rfl rfl rfl rfl (q_nilCheck rfl) ?_
      refine .cons rfl rfl rfl rfl rfl (q_move rfl) ?_
      first | refine .cons rfl rfl rfl rfl rfl (q_ld Try.isAgg3 rfl rfl) ?_ | refine .cons rfl rfl rfl rfl rfl (q_ldw Try.isAgg3 rfl (by omega)) ?_
      refine .cons rfl rfl rfl rfl rfl (q_fieldAddr fa_65_1 rfl) ?_
      refine .cons rfl rfl rfl rfl rfl (q_ld Try.isAgg68 rfl rfl) ?_
      refine .cons rfl rfl rfl rfl rfl (q_fieldAddr fa_74_0 rfl) ?_
      refine .cons rfl rfl rfl rfl rfl (q_nilCheck rfl) ?_
      refine .cons rfl rfl rfl rfl rfl (q_move rfl) ?_
      exact .nil
    refine gp_effa 11 [5, 10] [9, 8, 7, 6, 4, 3, 2, 1, 0] rfl rfl rfl rfl rfl rfl rfl (does_call Try.call8 rfl (pick_ok _ _ who (S.N : Int) (by omega) (by omega) (by omega) (by omega))) ?_
    rintro _ _ ⟨rfl, rfl⟩
    rw [hi]
    refine ⟨?_, ?_⟩
    · refine .cons rfl rfl rfl rfl rfl (q_ld Try.isAgg68 rfl rfl) ?_
      refine .cons rfl rfl rfl rfl rfl (q_fieldAddr fa_74_0 rfl) ?_
      refine .cons rfl rfl rfl rfl rfl (q_nilCheck rfl) ?_
      refine .cons rfl rfl rfl rfl rfl (q_move rfl) ?_
      refine .cons rfl rfl rfl rfl rfl (q_fieldAddr fa_65_1 rfl) ?_
      refine .cons rfl rfl rfl rfl rfl (q_ld Try.isAgg68 rfl rfl) ?_
      refine .cons rfl rfl rfl rfl rfl (q_fieldAddr fa_74_0 rfl) ?_
      refine .cons rfl rfl rfl rfl rfl (q_nilCheck rfl) ?_
      refine .cons rfl rfl rfl rfl rfl (q_move rfl) ?_
      exact .nil
    refine gp_quiet 12 rfl rfl rfl rfl rfl rfl (q_ixs Try.underlying68 Try.sizeOf94 rfl rfl (by omega) (by omega)) ?_
    refine gp_quiet 13 rfl rfl rfl rfl rfl rfl (q_loadr (l := [.pointer (some ⟨(S.M i).x, 0, none⟩), .pointer (some ⟨(S.M i).y, 0, none⟩)]) Try.isAgg94 Try.sizeOf94 rfl rfl (mp_row (by first | exact mem_getO 0 rfl | exact mem_getO 1 rfl | exact mem_getO 2 rfl | exact mem_getO 3 rfl | exact mem_getO 4 rfl | exact mem_getO 5 rfl | exact mem_getO 6 rfl | exact mem_getO 7 rfl | exact mem_getO 8 rfl | exact mem_getO 9 rfl | exact mem_getO 10 rfl | exact mem_getO 11 rfl) hiN rfl)) ?_
    refine gp_effa 15 [0, 1, 2, 3, 4, 6, 7, 8, 9, 12, 13] [] rfl rfl rfl rfl rfl rfl rfl (does_sts Try.sizeOf94 rfl rfl rfl rfl rfl) ?_
    rintro _ _ ⟨rfl, rfl⟩
    refine ⟨?_, ?_⟩
    · exact .nil
    refine gp_end rfl rfl ?_
    refine g_seq ?_
    refine gp_start mo (by kernel_rfl) (by kernel_rfl) ?_
    refine gp_quiet 0 rfl rfl rfl rfl rfl rfl (q_move rfl) ?_
    refine gp_quiet 1 rfl rfl rfl rfl rfl rfl (q_nilCheck rfl) ?_
    refine gp_quiet 2 rfl rfl rfl rfl rfl rfl (q_fieldAddr fa_74_0 rfl) ?_
    refine gp_quiet 3 rfl rfl rfl rfl rfl rfl (q_ld Try.isAgg68 rfl rfl) ?_
    refine gp_quiet 4 rfl rfl rfl rfl rfl rfl (q_fieldAddr fa_65_2 rfl) ?_
    first | refine gp_quiet 5 rfl rfl rfl rfl rfl rfl (q_ld Try.isAgg3 rfl rfl) ?_ | refine gp_quiet 5 rfl rfl rfl rfl rfl rfl (q_ldw Try.isAgg3 rfl (by omega)) ?_
    refine gp_quiet 6 rfl rfl rfl rfl rfl rfl (q_move rfl) ?_
    refine gp_quiet 7 rfl rfl rfl rfl rfl rfl (q_nilCheck rfl) ?_
    refine gp_quiet 8 rfl rfl rfl rfl rfl rfl (q_fieldAddr fa_74_0 rfl) ?_
    refine gp_quiet 9 rfl rfl rfl rfl rfl rfl (q_ld Try.isAgg68 rfl rfl) ?_
    refine gp_quiet 10 rfl rfl rfl rfl rfl rfl (q_len Try.underlying68 rfl) ?_
    refine gp_two 11 [5, 10] [9, 8, 7, 6, 4, 3, 2, 1, 0] 14 [] [10, 9, 8, 7, 6, 5, 4, 3, 2, 1, 0] rfl rfl rfl rfl rfl rfl (does_call Try.call8 rfl (pick_ok _ _ oth (S.N : Int) (by omega) (by omega) (by omega) (by omega))) (does_allocs Try.zeroValue94) ?_ ?_
    · rintro _ _ ⟨rfl, rfl⟩
      rw [hj]
      refine ⟨?_, ?_⟩
      · refine .cons rfl rfl rfl rfl rfl (q_ld Try.isAgg68 rfl rfl) ?_
        refine .cons rfl rfl rfl rfl rfl (q_fieldAddr fa_74_0 rfl) ?_
        refine .cons rfl rfl rfl rfl rfl (q_nilCheck rfl) ?_
        refine .cons rfl rfl rfl rfl rfl (q_move rfl) ?_
        refine .cons rfl rfl rfl rfl rfl (q_fieldAddr fa_65_2 rfl) ?_
        refine .cons rfl rfl rfl rfl rfl (q_ld Try.isAgg68 rfl rfl) ?_
        refine .cons rfl rfl rfl rfl rfl (q_fieldAddr fa_74_0 rfl) ?_
        refine .cons rfl rfl rfl rfl rfl (q_nilCheck rfl) ?_
        refine .cons rfl rfl rfl rfl rfl (q_move rfl) ?_
        exact .nil
      refine gp_quiet 12 rfl rfl rfl rfl rfl rfl (q_ixs Try.underlying68 Try.sizeOf94 rfl rfl (by omega) (by omega)) ?_
      refine gp_quiet 13 rfl rfl rfl rfl rfl rfl (q_loadr (l := [.pointer (some ⟨(S.M j).x, 0, none⟩), .pointer (some ⟨(S.M j).y, 0, none⟩)]) Try.isAgg94 Try.sizeOf94 rfl rfl (mp_row (by first | exact mem_getO 0 rfl | exact mem_getO 1 rfl | exact mem_getO 2 rfl | exact mem_getO 3 rfl | exact mem_getO 4 rfl | exact mem_getO 5 rfl | exact mem_getO 6 rfl | exact mem_getO 7 rfl | exact mem_getO 8 rfl | exact mem_getO 9 rfl | exact mem_getO 10 rfl | exact mem_getO 11 rfl) hjN rfl)) ?_
      refine gp_eff 14 rfl rfl rfl rfl rfl rfl (does_allocs Try.zeroValue94) ?_
      rintro _ _ ⟨b6, rfl, rfl⟩
      refine ⟨?_, ?_⟩
      · refine .cons rfl rfl rfl rfl rfl (q_loadr (l := [.pointer (some ⟨(S.M j).x, 0, none⟩), .pointer (some ⟨(S.M j).y, 0, none⟩)]) Try.isAgg94 Try.sizeOf94 rfl rfl (mp_row (by first | exact mem_getO 0 rfl | exact mem_getO 1 rfl | exact mem_getO 2 rfl | exact mem_getO 3 rfl | exact mem_getO 4 rfl | exact mem_getO 5 rfl | exact mem_getO 6 rfl | exact mem_getO 7 rfl | exact mem_getO 8 rfl | exact mem_getO 9 rfl | exact mem_getO 10 rfl | exact mem_getO 11 rfl) hjN rfl)) ?_
        refine .cons rfl rfl rfl rfl rfl (q_ixs Try.underlying68 Try.sizeOf94 rfl rfl (by omega) (by omega)) ?_
        refine .cons rfl rfl rfl rfl rfl (q_ld Try.isAgg68 rfl rfl) ?_
        refine .cons rfl rfl rfl rfl rfl (q_fieldAddr fa_74_0 rfl) ?_
        refine .cons rfl rfl rfl rfl rfl (q_nilCheck rfl) ?_
        refine .cons rfl rfl rfl rfl rfl (q_move rfl) ?_
        refine .cons rfl rfl rfl rfl rfl (q_fieldAddr fa_65_2 rfl) ?_
        refine .cons rfl rfl rfl rfl rfl (q_ld Try.isAgg68 rfl rfl) ?_
        refine .cons rfl rfl rfl rfl rfl (q_fieldAddr fa_74_0 rfl) ?_
        refine .cons rfl rfl rfl rfl rfl (q_nilCheck rfl) ?_
        refine .cons rfl rfl rfl rfl rfl (q_move rfl) ?_
        exact .nil
      refine gp_effa 15 [0, 1, 2, 3, 4, 6, 7, 8, 9, 12, 13] [] rfl rfl rfl rfl rfl rfl rfl (does_sts Try.sizeOf94 rfl rfl rfl rfl rfl) ?_
      rintro _ _ ⟨rfl, rfl⟩
      refine ⟨?_, ?_⟩
      · exact .nil
      refine gp_end rfl rfl ?_
      rw [← hgl]
      exact g_againi (joinJ (b5, b6) trivial) (.cons rfl (.cons rfl (.cons rfl (.cons rfl (.nil)))))
    · rintro _ _ ⟨b6, rfl, rfl⟩
      refine ⟨?_, ?_⟩
      · refine .cons rfl rfl rfl rfl rfl (q_len Try.underlying68 rfl) ?_
        refine .cons rfl rfl rfl rfl rfl (q_ld Try.isAgg68 rfl rfl) ?_
        refine .cons rfl rfl rfl rfl rfl (q_fieldAddr fa_74_0 rfl) ?_
        refine .cons rfl rfl rfl rfl rfl (q_nilCheck rfl) ?_
        refine .cons rfl rfl rfl rfl rfl (q_move rfl) ?_
        first | refine .cons rfl rfl rfl rfl rfl (q_ld Try.isAgg3 rfl rfl) ?_ | refine .cons rfl rfl rfl rfl rfl (q_ldw Try.isAgg3 rfl (by omega)) ?_
        refine .cons rfl rfl rfl rfl rfl (q_fieldAddr fa_65_2 rfl) ?_
        refine .cons rfl rfl rfl rfl rfl (q_ld Try.isAgg68 rfl rfl) ?_
        refine .cons rfl rfl rfl rfl rfl (q_fieldAddr fa_74_0 rfl) ?_
        refine .cons rfl rfl rfl rfl rfl (q_nilCheck rfl) ?_
        refine .cons rfl rfl rfl rfl rfl (q_move rfl) ?_
        exact .nil
      refine gp_effa 11 [5, 10] [9, 8, 7, 6, 4, 3, 2, 1, 0] rfl rfl rfl rfl rfl rfl rfl (does_call Try.call8 rfl (pick_ok _ _ oth (S.N : Int) (by omega) (by omega) (by omega) (by omega))) ?_
      rintro _ _ ⟨rfl, rfl⟩
      rw [hj]
      refine ⟨?_, ?_⟩
      · refine .cons rfl rfl rfl rfl rfl (q_ld Try.isAgg68 rfl rfl) ?_
        refine .cons rfl rfl rfl rfl rfl (q_fieldAddr fa_74_0 rfl) ?_
        refine .cons rfl rfl rfl rfl rfl (q_nilCheck rfl) ?_
        refine .cons rfl rfl rfl rfl rfl (q_move rfl) ?_
        refine .cons rfl rfl rfl rfl rfl (q_fieldAddr fa_65_2 rfl) ?_
        refine .cons rfl rfl rfl rfl rfl (q_ld Try.isAgg68 rfl rfl) ?_
        refine .cons rfl rfl rfl rfl rfl (q_fieldAddr fa_74_0 rfl) ?_
        refine .cons rfl rfl rfl rfl rfl (q_nilCheck rfl) ?_
        refine .cons rfl rfl rfl rfl rfl (q_move rfl) ?_
        exact .nil
      refine gp_quiet 12 rfl rfl rfl rfl rfl rfl (q_ixs Try.underlying68 Try.sizeOf94 rfl rfl (by omega) (by omega)) ?_
      refine gp_quiet 13 rfl rfl rfl rfl rfl rfl (q_loadr (l := [.pointer (some ⟨(S.M j).x, 0, none⟩), .pointer (some ⟨(S.M j).y, 0, none⟩)]) Try.isAgg94 Try.sizeOf94 rfl rfl (mp_row (by first | exact mem_getO 0 rfl | exact mem_getO 1 rfl | exact mem_getO 2 rfl | exact mem_getO 3 rfl | exact mem_getO 4 rfl | exact mem_getO 5 rfl | exact mem_getO 6 rfl | exact mem_getO 7 rfl | exact mem_getO 8 rfl | exact mem_getO 9 rfl | exact mem_getO 10 rfl | exact mem_getO 11 rfl) hjN rfl)) ?_
      refine gp_effa 15 [0, 1, 2, 3, 4, 6, 7, 8, 9, 12, 13] [] rfl rfl rfl rfl rfl rfl rfl (does_sts Try.sizeOf94 rfl rfl rfl rfl rfl) ?_
      rintro _ _ ⟨rfl, rfl⟩
      refine ⟨?_, ?_⟩
      · exact .nil
      refine gp_end rfl rfl ?_
      rw [← hgl]
      exact g_againi (joinJ (b5, b6) trivial) (.cons rfl (.cons rfl (.cons rfl (.cons rfl (.nil)))))
end Go.Proofs.Ytlgcghhjgcdigaa.Fw
