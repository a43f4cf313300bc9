import Derived.Test.YtjfibfbknfeflaaDoorDRow2
namespace Go.Proofs.YtjfibfbknfeflaaDoor.Fw
open Go Go.Proofs
set_option linter.unusedVariables false
set_option linter.unusedSimpArgs false
set_option maxRecDepth 10000
theorem fa_51_1 (a : Addr) (w : World) : (Instr.fieldAt 51 (.pointer (some a)) 1).run Tryd.prog w = .ok (.pointer (some (a.add 1))) w := by
  simp [Instr.fieldAt, Tryd.runUnderlying51, Instr.sureAddr, fieldPlace, Tryd.sizeOf48, Sem.run_bind, Sem.run_pure]
theorem fa_96_1 (a : Addr) (w : World) : (Instr.fieldAt 96 (.pointer (some a)) 1).run Tryd.prog w = .ok (.pointer (some (a.add 1))) w := by
  simp [Instr.fieldAt, Tryd.runUnderlying96, Instr.sureAddr, fieldPlace, Tryd.sizeOf28, Sem.run_bind, Sem.run_pure]
theorem fa_51_0 (a : Addr) (w : World) : (Instr.fieldAt 51 (.pointer (some a)) 0).run Tryd.prog w = .ok (.pointer (some (a.add 0))) w := by
  simp [Instr.fieldAt, Tryd.runUnderlying51, Instr.sureAddr, fieldPlace, Tryd.sizeOf3, Sem.run_bind, Sem.run_pure]
theorem bd_96_0_1 (a0_0 : ByteArray) (a1_0 : Int) (a1_1 : Int) (w : World) : (Instr.build 96 #[(0, .string a0_0), (1, .agg #[.int .i64 a1_0, .int .i64 a1_1])]).run Tryd.prog w = .ok (.agg #[.string a0_0, .int .i64 a1_0, .int .i64 a1_1, .pointer none, .pointer none]) w := by kernel_rfl
theorem fa_96_0 (a : Addr) (w : World) : (Instr.fieldAt 96 (.pointer (some a)) 0).run Tryd.prog w = .ok (.pointer (some (a.add 0))) w := by
  simp [Instr.fieldAt, Tryd.runUnderlying96, Instr.sureAddr, fieldPlace, Tryd.sizeOf9, Sem.run_bind, Sem.run_pure]
theorem bd_51_0_1 (a0_0 : Int) (a1_0 : Option Nat) (w : World) : (Instr.build 51 #[(0, .int .i64 a0_0), (1, .map a1_0)]).run Tryd.prog w = .ok (.agg #[.int .i64 a0_0, .map a1_0, .pointer none, .pointer none]) w := by kernel_rfl
theorem fa_55_1 (a : Addr) (w : World) : (Instr.fieldAt 55 (.pointer (some a)) 1).run Tryd.prog w = .ok (.pointer (some (a.add 1))) w := by
  simp [Instr.fieldAt, Tryd.runUnderlying55, Instr.sureAddr, fieldPlace, Tryd.sizeOf52, Sem.run_bind, Sem.run_pure]
theorem fa_102_1 (a : Addr) (w : World) : (Instr.fieldAt 102 (.pointer (some a)) 1).run Tryd.prog w = .ok (.pointer (some (a.add 2))) w := by
  simp [Instr.fieldAt, Tryd.runUnderlying102, Instr.sureAddr, fieldPlace, Tryd.sizeOf9, Sem.run_bind, Sem.run_pure]
theorem fa_55_0 (a : Addr) (w : World) : (Instr.fieldAt 55 (.pointer (some a)) 0).run Tryd.prog w = .ok (.pointer (some (a.add 0))) w := by
  simp [Instr.fieldAt, Tryd.runUnderlying55, Instr.sureAddr, fieldPlace, Tryd.sizeOf3, Sem.run_bind, Sem.run_pure]
theorem bd_102_0_1 (a0_0 : Int) (a0_1 : Int) (a1_0 : ByteArray) (w : World) : (Instr.build 102 #[(0, .agg #[.int .i64 a0_0, .int .i64 a0_1]), (1, .string a1_0)]).run Tryd.prog w = .ok (.agg #[.int .i64 a0_0, .int .i64 a0_1, .string a1_0, .pointer none, .pointer none]) w := by kernel_rfl
theorem fa_102_0 (a : Addr) (w : World) : (Instr.fieldAt 102 (.pointer (some a)) 0).run Tryd.prog w = .ok (.pointer (some (a.add 0))) w := by
  simp [Instr.fieldAt, Tryd.runUnderlying102, Instr.sureAddr, fieldPlace, Tryd.sizeOf28, Sem.run_bind, Sem.run_pure]
theorem bd_55_0_1 (a0_0 : Int) (a1_0 : Option Nat) (w : World) : (Instr.build 55 #[(0, .int .i64 a0_0), (1, .map a1_0)]).run Tryd.prog w = .ok (.agg #[.int .i64 a0_0, .map a1_0, .pointer none, .pointer none]) w := by kernel_rfl
theorem peek_yes_st (w0 : World) (F : List Atom) (sb m : Nat) (room : Int) (kv : List (ByteArray × Value)) (l1 l2 : List NdS) (x : NdS) (hS : ShOkS kv (l1 ++ x :: l2)) :
    CallK Tryd.prog 29 [.pointer (some ⟨sb, 0, none⟩), .string x.k] w0 (Blk sb (.cells [Value.int .i64 room, .map (some m), .pointer (fstPS (l1 ++ x :: l2) none), .pointer (lstPS (l1 ++ x :: l2) none)].toArray 51 (0, 0)) :: SegS 96 none (l1 ++ x :: l2) none :: MapG Value.string m kv :: F) (Gives w0 fun v F2 => v = .tuple #[.agg #[.int .i64 x.v.1, .int .i64 x.v.2], .bool true] ∧ F2 = Blk sb (.cells [Value.int .i64 room, .map (some m), .pointer (fstPS (l1 ++ x :: l2) none), .pointer (lstPS (l1 ++ x :: l2) none)].toArray 51 (0, 0)) :: SegS 96 none (l1 ++ x :: l2) none :: MapG Value.string m kv :: F) := by
  refine c_enter Tryd.func29 rfl rfl rfl ?_
  refine g_seq ?_
  refine g_region ?_
  refine l_allocs rfl Tryd.zeroValue28 ?_; intro b4
  refine l_assign rfl rfl ?_
  refine l_nil ?_
  refine g_seq ?_
  refine g_region ?_
  refine l_allocs rfl Tryd.zeroValue28 ?_; intro b6
  refine l_nil ?_
  refine g_seq ?_
  refine g_seq ?_
  refine g_region ?_
  refine l_move rfl rfl ?_
  refine l_eqpn rfl Tryd.underlying23 rfl rfl ?_
  refine l_nil ?_
  refine g_cond_f rfl ?_
  refine g_skip ?_
  refine g_seq ?_
  refine g_region ?_
  refine l_move rfl rfl ?_
  refine l_nilCheck rfl rfl ?_
  refine l_fieldAddr rfl fa_51_1 rfl ?_
  refine l_ld rfl Tryd.isAgg48 rfl rfl ?_
  refine l_move rfl rfl ?_
  obtain ⟨i, hfi, hS2⟩ := hS.some
  refine l_lookG_yes rfl hfi Tryd.underlying48 klS Tryd.zeroValue49 rfl rfl rfl (by first | exact mem_getO 0 rfl | exact mem_getO 1 rfl | exact mem_getO 2 rfl | exact mem_getO 3 rfl | exact mem_getO 4 rfl | exact mem_getO 5 rfl | exact mem_getO 6 rfl | exact mem_getO 7 rfl | exact mem_getO 8 rfl | exact mem_getO 9 rfl | exact mem_getO 10 rfl | exact mem_getO 11 rfl) ?_
  refine l_move rfl rfl ?_
  refine l_extract rfl rfl rfl ?_
  refine l_extract (v := .bool true) rfl rfl rfl ?_
  refine l_assign rfl rfl ?_
  refine l_assign rfl rfl ?_
  refine l_nil ?_
  refine g_seq ?_
  refine g_seq ?_
  refine g_region ?_
  refine l_move rfl rfl ?_
  refine l_not rfl rfl ?_
  refine l_nil ?_
  refine g_cond_f rfl ?_
  refine g_skip ?_
  refine g_seq ?_
  refine g_region ?_
  refine l_move rfl rfl ?_
  refine l_nilCheck rfl rfl ?_
  refine l_fieldAddr rfl fa_96_1 rfl ?_
  refine l_loadr (l := [.int .i64 x.v.1, .int .i64 x.v.2]) rfl Tryd.isAgg28 Tryd.sizeOf28 rfl rfl (segS_row2 (show SegS 96 none (l1 ++ x :: l2) none ∈ _ from (by first | exact mem_getO 0 rfl | exact mem_getO 1 rfl | exact mem_getO 2 rfl | exact mem_getO 3 rfl | exact mem_getO 4 rfl | exact mem_getO 5 rfl | exact mem_getO 6 rfl | exact mem_getO 7 rfl | exact mem_getO 8 rfl | exact mem_getO 9 rfl | exact mem_getO 10 rfl | exact mem_getO 11 rfl)) (o := 1) rfl rfl) ?_
  refine l_sts Tryd.sizeOf28 rfl rfl rfl rfl rfl ?_
  refine l_assign rfl rfl ?_
  refine l_nil ?_
  refine g_ret Tryd.func29 rfl (.cis rfl Tryd.isAgg28 Tryd.sizeOf28 rfl (.tmp rfl .nil)) ?_
  exact Gives.mki ⟨rfl, rfl⟩
theorem peek_no_st (w0 : World) (F : List Atom) (sb m : Nat) (room : Int) (kv : List (ByteArray × Value)) (xs : List NdS) (hS : ShOkS kv xs) (k : ByteArray) (hk : ∀ x ∈ xs, x.k ≠ k) :
    CallK Tryd.prog 29 [.pointer (some ⟨sb, 0, none⟩), .string k] w0 (Blk sb (.cells [Value.int .i64 room, .map (some m), .pointer (fstPS (xs) none), .pointer (lstPS (xs) none)].toArray 51 (0, 0)) :: SegS 96 none (xs) none :: MapG Value.string m kv :: F) (Gives w0 fun v F2 => v = .tuple #[.agg #[.int .i64 0, .int .i64 0], .bool false] ∧ F2 = Blk sb (.cells [Value.int .i64 room, .map (some m), .pointer (fstPS (xs) none), .pointer (lstPS (xs) none)].toArray 51 (0, 0)) :: SegS 96 none (xs) none :: MapG Value.string m kv :: F) := by
  refine c_enter Tryd.func29 rfl rfl rfl ?_
  refine g_seq ?_
  refine g_region ?_
  refine l_allocs rfl Tryd.zeroValue28 ?_; intro b4
  refine l_assign rfl rfl ?_
  refine l_nil ?_
  refine g_seq ?_
  refine g_region ?_
  refine l_allocs rfl Tryd.zeroValue28 ?_; intro b6
  refine l_nil ?_
  refine g_seq ?_
  refine g_seq ?_
  refine g_region ?_
  refine l_move rfl rfl ?_
  refine l_eqpn rfl Tryd.underlying23 rfl rfl ?_
  refine l_nil ?_
  refine g_cond_f rfl ?_
  refine g_skip ?_
  refine g_seq ?_
  refine g_region ?_
  refine l_move rfl rfl ?_
  refine l_nilCheck rfl rfl ?_
  refine l_fieldAddr rfl fa_51_1 rfl ?_
  refine l_ld rfl Tryd.isAgg48 rfl rfl ?_
  refine l_move rfl rfl ?_
  refine l_lookG_no rfl (hS.none hk) Tryd.underlying48 klS Tryd.zeroValue49 rfl rfl rfl (by first | exact mem_getO 0 rfl | exact mem_getO 1 rfl | exact mem_getO 2 rfl | exact mem_getO 3 rfl | exact mem_getO 4 rfl | exact mem_getO 5 rfl | exact mem_getO 6 rfl | exact mem_getO 7 rfl | exact mem_getO 8 rfl | exact mem_getO 9 rfl | exact mem_getO 10 rfl | exact mem_getO 11 rfl) ?_
  refine l_move rfl rfl ?_
  refine l_extract rfl rfl rfl ?_
  refine l_extract (v := .bool false) rfl rfl rfl ?_
  refine l_assign rfl rfl ?_
  refine l_assign rfl rfl ?_
  refine l_nil ?_
  refine g_seq ?_
  refine g_seq ?_
  refine g_region ?_
  refine l_move rfl rfl ?_
  refine l_not rfl rfl ?_
  refine l_nil ?_
  refine g_cond_t rfl ?_
  refine g_seq ?_
  refine g_region ?_
  refine l_lds rfl Tryd.isAgg28 Tryd.sizeOf28 rfl rfl ?_
  refine l_sts Tryd.sizeOf28 rfl rfl rfl rfl rfl ?_
  refine l_assign rfl rfl ?_
  refine l_nil ?_
  refine g_ret Tryd.func29 rfl (.cis rfl Tryd.isAgg28 Tryd.sizeOf28 rfl (.tmp rfl .nil)) ?_
  exact Gives.mki ⟨rfl, rfl⟩
theorem get_yes_st (w0 : World) (F : List Atom) (sb m : Nat) (room : Int) (kv : List (ByteArray × Value)) (l1 l2 : List NdS) (x : NdS) (hS : ShOkS kv (l1 ++ x :: l2)) :
    CallK Tryd.prog 27 [.pointer (some ⟨sb, 0, none⟩), .string x.k] w0 (Blk sb (.cells [Value.int .i64 room, .map (some m), .pointer (fstPS (l1 ++ x :: l2) none), .pointer (lstPS (l1 ++ x :: l2) none)].toArray 51 (0, 0)) :: SegS 96 none (l1 ++ x :: l2) none :: MapG Value.string m kv :: F) (Gives w0 fun v F2 => v = .tuple #[.agg #[.int .i64 x.v.1, .int .i64 x.v.2], .bool true] ∧ F2 = Blk sb (.cells [Value.int .i64 room, .map (some m), .pointer (fstPS (l1 ++ l2 ++ [x]) none), .pointer (lstPS (l1 ++ l2 ++ [x]) none)].toArray 51 (0, 0)) :: SegS 96 none (l1 ++ l2 ++ [x]) none :: MapG Value.string m kv :: F) := by
  refine c_enter Tryd.func27 rfl rfl rfl ?_
  refine g_seq ?_
  refine g_region ?_
  refine l_allocs rfl Tryd.zeroValue28 ?_; intro b4
  refine l_assign rfl rfl ?_
  refine l_nil ?_
  refine g_seq ?_
  refine g_region ?_
  refine l_move rfl rfl ?_
  refine l_move rfl rfl ?_
  refine l_take (MapG Value.string m kv) ?_
  refine l_take (SegS 96 none (l1 ++ x :: l2) none) ?_
  refine l_take (Blk sb (.cells [Value.int .i64 room, .map (some m), .pointer (fstPS (l1 ++ x :: l2) none), .pointer (lstPS (l1 ++ x :: l2) none)].toArray 51 (0, 0))) ?_
  refine l_call rfl Tryd.call29 rfl (peek_yes_st _ _ sb m room kv l1 l2 x hS) ?_; rintro _ _ ⟨rfl, rfl⟩
  refine l_move rfl rfl ?_
  refine l_extract rfl rfl rfl ?_
  refine l_extract (v := .bool true) rfl rfl rfl ?_
  refine l_allocs rfl Tryd.zeroValue28 ?_; intro b6
  refine l_sts Tryd.sizeOf28 rfl rfl rfl rfl rfl ?_
  refine l_assign rfl rfl ?_
  refine l_nil ?_
  refine g_seq ?_
  refine g_seq ?_
  refine g_region ?_
  refine l_move rfl rfl ?_
  refine l_nil ?_
  refine g_cond_t rfl ?_
  refine g_seq ?_
  refine g_region ?_
  refine l_move rfl rfl ?_
  refine l_nilCheck rfl rfl ?_
  refine l_fieldAddr rfl fa_51_1 rfl ?_
  refine l_ld rfl Tryd.isAgg48 rfl rfl ?_
  refine l_move rfl rfl ?_
  obtain ⟨i, hfi, hS2⟩ := hS.some
  refine l_lookG1 rfl hfi Tryd.underlying48 klS Tryd.zeroValue49 rfl rfl rfl (by first | exact mem_getO 0 rfl | exact mem_getO 1 rfl | exact mem_getO 2 rfl | exact mem_getO 3 rfl | exact mem_getO 4 rfl | exact mem_getO 5 rfl | exact mem_getO 6 rfl | exact mem_getO 7 rfl | exact mem_getO 8 rfl | exact mem_getO 9 rfl | exact mem_getO 10 rfl | exact mem_getO 11 rfl) ?_
  refine l_assign rfl rfl ?_
  refine l_nil ?_
  refine g_seq ?_
  refine g_region ?_
  refine l_move rfl rfl ?_
  refine l_move rfl rfl ?_
  refine l_take (SegS 96 none (l1 ++ x :: l2) none) ?_
  refine l_take (Blk sb (.cells [Value.int .i64 room, .map (some m), .pointer (fstPS (l1 ++ x :: l2) none), .pointer (lstPS (l1 ++ x :: l2) none)].toArray 51 (0, 0))) ?_
  refine l_call rfl Tryd.call50 rfl (unlink_st _ _ sb m room l1 l2 x) ?_; rintro _ _ ⟨rfl, rfl⟩
  refine l_nil ?_
  refine g_region ?_
  refine l_move rfl rfl ?_
  refine l_move rfl rfl ?_
  refine l_take (Blk x.b (.cells (ndCS x none none).toArray 96 (0, 0))) ?_
  refine l_take (SegS 96 none (l1 ++ l2) none) ?_
  refine l_take (Blk sb (.cells [Value.int .i64 room, .map (some m), .pointer (fstPS (l1 ++ l2) none), .pointer (lstPS (l1 ++ l2) none)].toArray 51 (0, 0))) ?_
  refine l_call rfl Tryd.call51 rfl (append_st _ _ sb m room (l1 ++ l2) x) ?_; rintro _ _ ⟨rfl, rfl⟩
  refine l_nil ?_
  refine g_seq ?_
  refine g_region ?_
  refine l_lds rfl Tryd.isAgg28 Tryd.sizeOf28 rfl rfl ?_
  refine l_move rfl rfl ?_
  refine l_sts Tryd.sizeOf28 rfl rfl rfl rfl rfl ?_
  refine l_assign rfl rfl ?_
  refine l_nil ?_
  refine g_ret Tryd.func27 rfl (.cis rfl Tryd.isAgg28 Tryd.sizeOf28 rfl (.tmp rfl .nil)) ?_
  exact Gives.mki ⟨rfl, rfl⟩
theorem get_no_st (w0 : World) (F : List Atom) (sb m : Nat) (room : Int) (kv : List (ByteArray × Value)) (xs : List NdS) (hS : ShOkS kv xs) (k : ByteArray) (hk : ∀ x ∈ xs, x.k ≠ k) :
    CallK Tryd.prog 27 [.pointer (some ⟨sb, 0, none⟩), .string k] w0 (Blk sb (.cells [Value.int .i64 room, .map (some m), .pointer (fstPS (xs) none), .pointer (lstPS (xs) none)].toArray 51 (0, 0)) :: SegS 96 none (xs) none :: MapG Value.string m kv :: F) (Gives w0 fun v F2 => v = .tuple #[.agg #[.int .i64 0, .int .i64 0], .bool false] ∧ F2 = Blk sb (.cells [Value.int .i64 room, .map (some m), .pointer (fstPS (xs) none), .pointer (lstPS (xs) none)].toArray 51 (0, 0)) :: SegS 96 none (xs) none :: MapG Value.string m kv :: F) := by
  refine c_enter Tryd.func27 rfl rfl rfl ?_
  refine g_seq ?_
  refine g_region ?_
  refine l_allocs rfl Tryd.zeroValue28 ?_; intro b4
  refine l_assign rfl rfl ?_
  refine l_nil ?_
  refine g_seq ?_
  refine g_region ?_
  refine l_move rfl rfl ?_
  refine l_move rfl rfl ?_
  refine l_take (MapG Value.string m kv) ?_
  refine l_take (SegS 96 none (xs) none) ?_
  refine l_take (Blk sb (.cells [Value.int .i64 room, .map (some m), .pointer (fstPS (xs) none), .pointer (lstPS (xs) none)].toArray 51 (0, 0))) ?_
  refine l_call rfl Tryd.call29 rfl (peek_no_st _ _ sb m room kv xs hS k hk) ?_; rintro _ _ ⟨rfl, rfl⟩
  refine l_move rfl rfl ?_
  refine l_extract rfl rfl rfl ?_
  refine l_extract (v := .bool false) rfl rfl rfl ?_
  refine l_allocs rfl Tryd.zeroValue28 ?_; intro b6
  refine l_sts Tryd.sizeOf28 rfl rfl rfl rfl rfl ?_
  refine l_assign rfl rfl ?_
  refine l_nil ?_
  refine g_seq ?_
  refine g_seq ?_
  refine g_region ?_
  refine l_move rfl rfl ?_
  refine l_nil ?_
  refine g_cond_f rfl ?_
  refine g_skip ?_
  refine g_seq ?_
  refine g_region ?_
  refine l_lds rfl Tryd.isAgg28 Tryd.sizeOf28 rfl rfl ?_
  refine l_move rfl rfl ?_
  refine l_sts Tryd.sizeOf28 rfl rfl rfl rfl rfl ?_
  refine l_assign rfl rfl ?_
  refine l_nil ?_
  refine g_ret Tryd.func27 rfl (.cis rfl Tryd.isAgg28 Tryd.sizeOf28 rfl (.tmp rfl .nil)) ?_
  exact Gives.mki ⟨rfl, rfl⟩
theorem drop_yes_st (w0 : World) (F : List Atom) (sb m : Nat) (room : Int) (kv : List (ByteArray × Value)) (l1 l2 : List NdS) (x : NdS) (hS : ShOkS kv (l1 ++ x :: l2)) :
    CallK Tryd.prog 31 [.pointer (some ⟨sb, 0, none⟩), .string x.k] w0 (Blk sb (.cells [Value.int .i64 room, .map (some m), .pointer (fstPS (l1 ++ x :: l2) none), .pointer (lstPS (l1 ++ x :: l2) none)].toArray 51 (0, 0)) :: SegS 96 none (l1 ++ x :: l2) none :: MapG Value.string m kv :: F) (Gives w0 fun v F2 => ∃ kv', v = .bool true ∧ ShOkS kv' (l1 ++ l2) ∧ F2 = Blk sb (.cells [Value.int .i64 room, .map (some m), .pointer (fstPS (l1 ++ l2) none), .pointer (lstPS (l1 ++ l2) none)].toArray 51 (0, 0)) :: SegS 96 none (l1 ++ l2) none :: MapG Value.string m kv' :: F) := by
  refine c_enter Tryd.func31 rfl rfl rfl ?_
  refine g_seq ?_
  refine g_region ?_
  refine l_assign rfl rfl ?_
  refine l_nil ?_
  refine g_seq ?_
  refine g_seq ?_
  refine g_region ?_
  refine l_move rfl rfl ?_
  refine l_eqpn rfl Tryd.underlying23 rfl rfl ?_
  refine l_nil ?_
  refine g_cond_f rfl ?_
  refine g_skip ?_
  refine g_seq ?_
  refine g_region ?_
  refine l_move rfl rfl ?_
  refine l_nilCheck rfl rfl ?_
  refine l_fieldAddr rfl fa_51_1 rfl ?_
  refine l_ld rfl Tryd.isAgg48 rfl rfl ?_
  refine l_move rfl rfl ?_
  obtain ⟨i, hfi, hS2⟩ := hS.some
  refine l_lookG_yes rfl hfi Tryd.underlying48 klS Tryd.zeroValue49 rfl rfl rfl (by first | exact mem_getO 0 rfl | exact mem_getO 1 rfl | exact mem_getO 2 rfl | exact mem_getO 3 rfl | exact mem_getO 4 rfl | exact mem_getO 5 rfl | exact mem_getO 6 rfl | exact mem_getO 7 rfl | exact mem_getO 8 rfl | exact mem_getO 9 rfl | exact mem_getO 10 rfl | exact mem_getO 11 rfl) ?_
  refine l_move rfl rfl ?_
  refine l_extract rfl rfl rfl ?_
  refine l_extract (v := .bool true) rfl rfl rfl ?_
  refine l_assign rfl rfl ?_
  refine l_assign rfl rfl ?_
  refine l_nil ?_
  refine g_seq ?_
  refine g_seq ?_
  refine g_region ?_
  refine l_move rfl rfl ?_
  refine l_nil ?_
  refine g_cond_t rfl ?_
  refine g_seq ?_
  refine g_region ?_
  refine l_move rfl rfl ?_
  refine l_move rfl rfl ?_
  refine l_take (SegS 96 none (l1 ++ x :: l2) none) ?_
  refine l_take (Blk sb (.cells [Value.int .i64 room, .map (some m), .pointer (fstPS (l1 ++ x :: l2) none), .pointer (lstPS (l1 ++ x :: l2) none)].toArray 51 (0, 0))) ?_
  refine l_call rfl Tryd.call50 rfl (unlink_st _ _ sb m room l1 l2 x) ?_; rintro _ _ ⟨rfl, rfl⟩
  refine l_nil ?_
  refine g_region ?_
  refine l_move rfl rfl ?_
  refine l_nilCheck rfl rfl ?_
  refine l_fieldAddr rfl fa_51_1 rfl ?_
  refine l_ld rfl Tryd.isAgg48 rfl rfl ?_
  refine l_move rfl rfl ?_
  refine l_take (MapG Value.string m kv) ?_
  refine l_does0 (does_mapDelG hfi Tryd.underlying48 klS rfl rfl rfl) ?_
  rintro _ _ rfl
  refine l_nil ?_
  refine g_seq ?_
  refine g_region ?_
  refine l_move rfl rfl ?_
  refine l_assign rfl rfl ?_
  refine l_nil ?_
  refine g_ret Tryd.func31 rfl (.tmp rfl .nil) ?_
  exact Gives.mki ⟨_, rfl, hS2, rfl⟩
theorem drop_no_st (w0 : World) (F : List Atom) (sb m : Nat) (room : Int) (kv : List (ByteArray × Value)) (xs : List NdS) (hS : ShOkS kv xs) (k : ByteArray) (hk : ∀ x ∈ xs, x.k ≠ k) :
    CallK Tryd.prog 31 [.pointer (some ⟨sb, 0, none⟩), .string k] w0 (Blk sb (.cells [Value.int .i64 room, .map (some m), .pointer (fstPS (xs) none), .pointer (lstPS (xs) none)].toArray 51 (0, 0)) :: SegS 96 none (xs) none :: MapG Value.string m kv :: F) (Gives w0 fun v F2 => v = .bool false ∧ F2 = Blk sb (.cells [Value.int .i64 room, .map (some m), .pointer (fstPS (xs) none), .pointer (lstPS (xs) none)].toArray 51 (0, 0)) :: SegS 96 none (xs) none :: MapG Value.string m kv :: F) := by
  refine c_enter Tryd.func31 rfl rfl rfl ?_
  refine g_seq ?_
  refine g_region ?_
  refine l_assign rfl rfl ?_
  refine l_nil ?_
  refine g_seq ?_
  refine g_seq ?_
  refine g_region ?_
  refine l_move rfl rfl ?_
  refine l_eqpn rfl Tryd.underlying23 rfl rfl ?_
  refine l_nil ?_
  refine g_cond_f rfl ?_
  refine g_skip ?_
  refine g_seq ?_
  refine g_region ?_
  refine l_move rfl rfl ?_
  refine l_nilCheck rfl rfl ?_
  refine l_fieldAddr rfl fa_51_1 rfl ?_
  refine l_ld rfl Tryd.isAgg48 rfl rfl ?_
  refine l_move rfl rfl ?_
  refine l_lookG_no rfl (hS.none hk) Tryd.underlying48 klS Tryd.zeroValue49 rfl rfl rfl (by first | exact mem_getO 0 rfl | exact mem_getO 1 rfl | exact mem_getO 2 rfl | exact mem_getO 3 rfl | exact mem_getO 4 rfl | exact mem_getO 5 rfl | exact mem_getO 6 rfl | exact mem_getO 7 rfl | exact mem_getO 8 rfl | exact mem_getO 9 rfl | exact mem_getO 10 rfl | exact mem_getO 11 rfl) ?_
  refine l_move rfl rfl ?_
  refine l_extract rfl rfl rfl ?_
  refine l_extract (v := .bool false) rfl rfl rfl ?_
  refine l_assign rfl rfl ?_
  refine l_assign rfl rfl ?_
  refine l_nil ?_
  refine g_seq ?_
  refine g_seq ?_
  refine g_region ?_
  refine l_move rfl rfl ?_
  refine l_nil ?_
  refine g_cond_f rfl ?_
  refine g_skip ?_
  refine g_seq ?_
  refine g_region ?_
  refine l_move rfl rfl ?_
  refine l_assign rfl rfl ?_
  refine l_nil ?_
  refine g_ret Tryd.func31 rfl (.tmp rfl .nil) ?_
  exact Gives.mki ⟨rfl, rfl⟩
theorem put_yes_st (w0 : World) (F : List Atom) (sb m : Nat) (room : Int) (kv : List (ByteArray × Value)) (l1 l2 : List NdS) (xb : Nat) (k : ByteArray) (v0 v1 : (Int × Int)) (hS : ShOkS kv (l1 ++ (NdS.mk xb k v0) :: l2)) :
    CallK Tryd.prog 25 [.pointer (some ⟨sb, 0, none⟩), .string k, .agg #[.int .i64 v1.1, .int .i64 v1.2]] w0 (Blk sb (.cells [Value.int .i64 room, .map (some m), .pointer (fstPS (l1 ++ (NdS.mk xb k v0) :: l2) none), .pointer (lstPS (l1 ++ (NdS.mk xb k v0) :: l2) none)].toArray 51 (0, 0)) :: SegS 96 none (l1 ++ (NdS.mk xb k v0) :: l2) none :: MapG Value.string m kv :: F) (Gives w0 fun v F2 => v = .tuple #[.string ⟨#[]⟩, .bool false] ∧ F2 = Blk sb (.cells [Value.int .i64 room, .map (some m), .pointer (fstPS (l1 ++ l2 ++ [(NdS.mk xb k v1)]) none), .pointer (lstPS (l1 ++ l2 ++ [(NdS.mk xb k v1)]) none)].toArray 51 (0, 0)) :: SegS 96 none (l1 ++ l2 ++ [(NdS.mk xb k v1)]) none :: MapG Value.string m kv :: F) := by
  refine c_enter Tryd.func25 rfl rfl rfl ?_
  refine g_seq ?_
  refine g_region ?_
  refine l_boxs rfl rfl ?_; intro b5
  refine l_assign rfl rfl ?_
  refine l_assign rfl rfl ?_
  refine l_nil ?_
  refine g_seq ?_
  refine g_region ?_
  refine l_assign rfl rfl ?_
  refine l_nil ?_
  refine g_seq ?_
  refine g_seq ?_
  refine g_region ?_
  refine l_move rfl rfl ?_
  refine l_eqpn rfl Tryd.underlying23 rfl rfl ?_
  refine l_nil ?_
  refine g_cond_f rfl ?_
  refine g_skip ?_
  refine g_seq ?_
  refine g_seq ?_
  refine g_region ?_
  refine l_move rfl rfl ?_
  refine l_nilCheck rfl rfl ?_
  refine l_fieldAddr rfl fa_51_1 rfl ?_
  refine l_ld rfl Tryd.isAgg48 rfl rfl ?_
  refine l_move rfl rfl ?_
  obtain ⟨i, hfi, _⟩ := hS.some
  refine l_lookG_yes (v := .pointer (some ⟨xb, 0, none⟩)) rfl hfi Tryd.underlying48 klS Tryd.zeroValue49 rfl rfl rfl (by first | exact mem_getO 0 rfl | exact mem_getO 1 rfl | exact mem_getO 2 rfl | exact mem_getO 3 rfl | exact mem_getO 4 rfl | exact mem_getO 5 rfl | exact mem_getO 6 rfl | exact mem_getO 7 rfl | exact mem_getO 8 rfl | exact mem_getO 9 rfl | exact mem_getO 10 rfl | exact mem_getO 11 rfl) ?_
  refine l_move rfl rfl ?_
  refine l_extract rfl rfl rfl ?_
  refine l_extract (v := .bool true) rfl rfl rfl ?_
  refine l_assign rfl rfl ?_
  refine l_assign rfl rfl ?_
  refine l_nil ?_
  refine g_seq ?_
  refine g_region ?_
  refine l_move rfl rfl ?_
  refine l_nil ?_
  refine g_cond_t rfl ?_
  refine g_seq ?_
  refine g_region ?_
  have e1 : fstPS (l1 ++ (NdS.mk xb k v0) :: l2) none = fstPS (l1 ++ (NdS.mk xb k v1) :: l2) none := by rw [fstPS_app, fstPS_app]; rfl
  have e2 : lstPS (l1 ++ (NdS.mk xb k v0) :: l2) none = lstPS (l1 ++ (NdS.mk xb k v1) :: l2) none := by rw [lstPS_app, lstPS_app]; rfl
  rw [e1, e2]
  refine l_take (Blk sb (.cells [Value.int .i64 room, .map (some m), .pointer (fstPS (l1 ++ (NdS.mk xb k v1) :: l2) none), .pointer (lstPS (l1 ++ (NdS.mk xb k v1) :: l2) none)].toArray 51 (0, 0))) ?_
  refine l_take (SegS 96 none (l1 ++ (NdS.mk xb k v0) :: l2) none) ?_
  refine gl_heap (F' := SegS 96 none l1 (NdS.p (NdS.mk xb k v1)) :: Blk xb (.cells [Value.string k, .int .i64 v0.1, .int .i64 v0.2, .pointer (lstPS l1 none), .pointer (fstPS l2 none)].toArray 96 (0, 0)) :: SegS 96 (NdS.p (NdS.mk xb k v1)) l2 none :: Blk sb (.cells [Value.int .i64 room, .map (some m), .pointer (fstPS (l1 ++ (NdS.mk xb k v1) :: l2) none), .pointer (lstPS (l1 ++ (NdS.mk xb k v1) :: l2) none)].toArray 51 (0, 0)) :: _) (fun w hw => segS_at hw) ?_
  refine l_move rfl rfl ?_
  refine l_lds rfl Tryd.isAgg28 Tryd.sizeOf28 rfl rfl ?_
  refine l_nilCheck rfl rfl ?_
  refine l_fieldAddr rfl fa_96_1 rfl ?_
  refine l_sts Tryd.sizeOf28 rfl rfl rfl rfl rfl ?_
  refine l_nil ?_
  refine g_seq ?_
  refine g_region ?_
  refine gl_heap (F' := Blk sb (.cells [Value.int .i64 room, .map (some m), .pointer (fstPS (l1 ++ (NdS.mk xb k v1) :: l2) none), .pointer (lstPS (l1 ++ (NdS.mk xb k v1) :: l2) none)].toArray 51 (0, 0)) :: SegS 96 none (l1 ++ (NdS.mk xb k v1) :: l2) none :: _) (fun w hw => (segS_to (x := (NdS.mk xb k v1)) rfl rfl hw).perm (List.Perm.swap ..)) ?_
  refine l_move rfl rfl ?_
  refine l_move rfl rfl ?_
  refine l_take (SegS 96 none (l1 ++ (NdS.mk xb k v1) :: l2) none) ?_
  refine l_take (Blk sb (.cells [Value.int .i64 room, .map (some m), .pointer (fstPS (l1 ++ (NdS.mk xb k v1) :: l2) none), .pointer (lstPS (l1 ++ (NdS.mk xb k v1) :: l2) none)].toArray 51 (0, 0))) ?_
  refine l_call rfl Tryd.call50 rfl (unlink_st _ _ sb m room l1 l2 (NdS.mk xb k v1)) ?_; rintro _ _ ⟨rfl, rfl⟩
  refine l_nil ?_
  refine g_seq ?_
  refine g_region ?_
  refine l_move rfl rfl ?_
  refine l_move rfl rfl ?_
  refine l_take (Blk (NdS.mk xb k v1).b (.cells (ndCS (NdS.mk xb k v1) none none).toArray 96 (0, 0))) ?_
  refine l_take (SegS 96 none (l1 ++ l2) none) ?_
  refine l_take (Blk sb (.cells [Value.int .i64 room, .map (some m), .pointer (fstPS (l1 ++ l2) none), .pointer (lstPS (l1 ++ l2) none)].toArray 51 (0, 0))) ?_
  refine l_call rfl Tryd.call51 rfl (append_st _ _ sb m room (l1 ++ l2) (NdS.mk xb k v1)) ?_; rintro _ _ ⟨rfl, rfl⟩
  refine l_nil ?_
  refine g_seq ?_
  refine g_region ?_
  refine l_move rfl rfl ?_
  refine l_assign rfl rfl ?_
  refine l_assign rfl rfl ?_
  refine l_nil ?_
  refine g_ret Tryd.func25 rfl (.tmp rfl (.tmp rfl .nil)) ?_
  exact Gives.mki ⟨rfl, rfl⟩
theorem put_new_st (w0 : World) (F : List Atom) (sb m : Nat) (room : Int) (kv : List (ByteArray × Value)) (xs : List NdS) (k : ByteArray) (v1 : (Int × Int)) (hS : ShOkS kv xs) (hk : ∀ x ∈ xs, x.k ≠ k) (hr : (xs.length : Int) ≠ room) :
    CallK Tryd.prog 25 [.pointer (some ⟨sb, 0, none⟩), .string k, .agg #[.int .i64 v1.1, .int .i64 v1.2]] w0 (Blk sb (.cells [Value.int .i64 room, .map (some m), .pointer (fstPS (xs) none), .pointer (lstPS (xs) none)].toArray 51 (0, 0)) :: SegS 96 none (xs) none :: MapG Value.string m kv :: F) (Gives w0 fun v F2 => ∃ b kv', v = .tuple #[.string ⟨#[]⟩, .bool false] ∧ ShOkS kv' (xs ++ [NdS.mk b k v1]) ∧ F2 = Blk sb (.cells [Value.int .i64 room, .map (some m), .pointer (fstPS (xs ++ [NdS.mk b k v1]) none), .pointer (lstPS (xs ++ [NdS.mk b k v1]) none)].toArray 51 (0, 0)) :: SegS 96 none (xs ++ [NdS.mk b k v1]) none :: MapG Value.string m kv' :: F) := by
  have hlen := hS.len
  refine c_enter Tryd.func25 rfl rfl rfl ?_
  refine g_seq ?_
  refine g_region ?_
  refine l_boxs rfl rfl ?_; intro b5
  refine l_assign rfl rfl ?_
  refine l_assign rfl rfl ?_
  refine l_nil ?_
  refine g_seq ?_
  refine g_region ?_
  refine l_assign rfl rfl ?_
  refine l_nil ?_
  refine g_seq ?_
  refine g_seq ?_
  refine g_region ?_
  refine l_move rfl rfl ?_
  refine l_eqpn rfl Tryd.underlying23 rfl rfl ?_
  refine l_nil ?_
  refine g_cond_f rfl ?_
  refine g_skip ?_
  refine g_seq ?_
  refine g_seq ?_
  refine g_region ?_
  refine l_move rfl rfl ?_
  refine l_nilCheck rfl rfl ?_
  refine l_fieldAddr rfl fa_51_1 rfl ?_
  refine l_ld rfl Tryd.isAgg48 rfl rfl ?_
  refine l_move rfl rfl ?_
  refine l_lookG_no rfl (hS.none hk) Tryd.underlying48 klS Tryd.zeroValue49 rfl rfl rfl (by first | exact mem_getO 0 rfl | exact mem_getO 1 rfl | exact mem_getO 2 rfl | exact mem_getO 3 rfl | exact mem_getO 4 rfl | exact mem_getO 5 rfl | exact mem_getO 6 rfl | exact mem_getO 7 rfl | exact mem_getO 8 rfl | exact mem_getO 9 rfl | exact mem_getO 10 rfl | exact mem_getO 11 rfl) ?_
  refine l_move rfl rfl ?_
  refine l_extract rfl rfl rfl ?_
  refine l_extract (v := .bool false) rfl rfl rfl ?_
  refine l_assign rfl rfl ?_
  refine l_assign rfl rfl ?_
  refine l_nil ?_
  refine g_seq ?_
  refine g_region ?_
  refine l_move rfl rfl ?_
  refine l_nil ?_
  refine g_cond_f rfl ?_
  refine g_skip ?_
  refine g_seq ?_
  refine gp_start mo (by kernel_rfl) (by kernel_rfl) ?_
  refine gp_quiet 0 rfl rfl rfl rfl rfl rfl (q_move rfl) ?_
  refine gp_quiet 1 rfl rfl rfl rfl rfl rfl (q_move rfl) ?_
  refine gp_quiet 2 rfl rfl rfl rfl rfl rfl (q_nilCheck rfl) ?_
  refine gp_quiet 3 rfl rfl rfl rfl rfl rfl (q_fieldAddr fa_51_1 rfl) ?_
  refine gp_quiet 4 rfl rfl rfl rfl rfl rfl (q_ld Tryd.isAgg48 rfl rfl) ?_
  refine gp_quiet 5 rfl rfl rfl rfl rfl rfl (q_lenG (kval := Value.string) Tryd.underlying48 rfl (by first | exact mem_getO 0 rfl | exact mem_getO 1 rfl | exact mem_getO 2 rfl | exact mem_getO 3 rfl | exact mem_getO 4 rfl | exact mem_getO 5 rfl | exact mem_getO 6 rfl | exact mem_getO 7 rfl | exact mem_getO 8 rfl | exact mem_getO 9 rfl | exact mem_getO 10 rfl | exact mem_getO 11 rfl)) ?_
  refine gp_quiet 6 rfl rfl rfl rfl rfl rfl (q_move rfl) ?_
  refine gp_quiet 7 rfl rfl rfl rfl rfl rfl (q_nilCheck rfl) ?_
  refine gp_quiet 8 rfl rfl rfl rfl rfl rfl (q_fieldAddr fa_51_0 rfl) ?_
  first | refine gp_quiet 9 rfl rfl rfl rfl rfl rfl (q_ld Tryd.isAgg3 rfl rfl) ?_ | refine gp_quiet 9 rfl rfl rfl rfl rfl rfl (q_ldw Tryd.isAgg3 rfl (by omega)) ?_
  refine gp_quiet 10 rfl rfl rfl rfl rfl rfl (q_eql rfl rfl) ?_
  refine gp_quiet 11 rfl rfl rfl rfl rfl rfl (q_assign rfl) ?_
  refine gp_quiet 12 rfl rfl rfl rfl rfl rfl (q_assign rfl) ?_
  refine gp_end rfl rfl ?_
  refine g_seq ?_
  refine g_seq ?_
  refine g_region ?_
  refine l_move rfl rfl ?_
  refine l_nil ?_
  refine g_cond rfl ?_ ?_
  · intro hbr
    have hbr := of_decide_eq_true hbr
    (exfalso; omega)
  intro hbr
  have hbr := of_decide_eq_false hbr
  refine g_skip ?_
  refine g_seq ?_
  refine g_region ?_
  refine l_move rfl rfl ?_
  refine l_lds rfl Tryd.isAgg28 Tryd.sizeOf28 rfl rfl ?_
  refine l_build rfl rfl (fun w => bd_96_0_1 _ _ _ w) ?_
  refine l_boxs rfl rfl ?_; intro b63
  refine l_assign rfl rfl ?_
  refine l_nil ?_
  refine g_seq ?_
  refine g_region ?_
  refine l_move rfl rfl ?_
  refine l_nilCheck rfl rfl ?_
  refine l_fieldAddr rfl fa_51_1 rfl ?_
  refine l_ld rfl Tryd.isAgg48 rfl rfl ?_
  refine l_move rfl rfl ?_
  refine l_move rfl rfl ?_
  refine l_take (MapG Value.string m kv) ?_
  refine l_does0 (does_mapNewG (hS.none hk) Tryd.underlying48 klS rfl rfl rfl rfl) ?_
  rintro _ _ rfl
  refine l_nil ?_
  refine g_seq ?_
  refine g_region ?_
  refine l_frontb b63 ?_
  refine gl_heap (F' := Blk (NdS.mk b63 k v1).b (.cells (ndCS (NdS.mk b63 k v1) none none).toArray 96 (0, 0)) :: _) (fun w hw => hw) ?_
  refine l_move rfl rfl ?_
  refine l_move rfl rfl ?_
  refine l_take (Blk (NdS.mk b63 k v1).b (.cells (ndCS (NdS.mk b63 k v1) none none).toArray 96 (0, 0))) ?_
  refine l_take (SegS 96 none (xs) none) ?_
  refine l_take (Blk sb (.cells [Value.int .i64 room, .map (some m), .pointer (fstPS (xs) none), .pointer (lstPS (xs) none)].toArray 51 (0, 0))) ?_
  refine l_call rfl Tryd.call51 rfl (append_st _ _ sb m room (xs) (NdS.mk b63 k v1)) ?_; rintro _ _ ⟨rfl, rfl⟩
  refine l_nil ?_
  refine g_seq ?_
  refine g_region ?_
  refine l_move rfl rfl ?_
  refine l_move rfl rfl ?_
  refine l_assign rfl rfl ?_
  refine l_assign rfl rfl ?_
  refine l_nil ?_
  refine g_ret Tryd.func25 rfl (.tmp rfl (.tmp rfl .nil)) ?_
  exact Gives.mki ⟨b63, kv ++ [(k, Value.pointer (some ⟨b63, 0, none⟩))], by rw [decide_eq_false (show ¬ (kv.length : Int) = room by omega)]; rfl, hS.snoc (x := (NdS.mk b63 k v1)) hk, rfl⟩
theorem put_full_st (w0 : World) (F : List Atom) (sb m : Nat) (room : Int) (kv : List (ByteArray × Value)) (x0 : NdS) (xs : List NdS) (k : ByteArray) (v1 : (Int × Int)) (hS : ShOkS kv (x0 :: xs)) (hk : ∀ x ∈ x0 :: xs, x.k ≠ k) (hr : ((x0 :: xs).length : Int) = room) :
    CallK Tryd.prog 25 [.pointer (some ⟨sb, 0, none⟩), .string k, .agg #[.int .i64 v1.1, .int .i64 v1.2]] w0 (Blk sb (.cells [Value.int .i64 room, .map (some m), .pointer (fstPS (x0 :: xs) none), .pointer (lstPS (x0 :: xs) none)].toArray 51 (0, 0)) :: SegS 96 none (x0 :: xs) none :: MapG Value.string m kv :: F) (Gives w0 fun v F2 => ∃ b kv', v = .tuple #[.string x0.k, .bool true] ∧ ShOkS kv' (xs ++ [NdS.mk b k v1]) ∧ F2 = Blk sb (.cells [Value.int .i64 room, .map (some m), .pointer (fstPS (xs ++ [NdS.mk b k v1]) none), .pointer (lstPS (xs ++ [NdS.mk b k v1]) none)].toArray 51 (0, 0)) :: SegS 96 none (xs ++ [NdS.mk b k v1]) none :: MapG Value.string m kv' :: F) := by
  have hlen := hS.len
  have hk2 : ∀ x ∈ xs, x.k ≠ k := fun x hx => hk x (List.mem_cons_of_mem _ hx)
  refine c_enter Tryd.func25 rfl rfl rfl ?_
  refine g_seq ?_
  refine g_region ?_
  refine l_boxs rfl rfl ?_; intro b5
  refine l_assign rfl rfl ?_
  refine l_assign rfl rfl ?_
  refine l_nil ?_
  refine g_seq ?_
  refine g_region ?_
  refine l_assign rfl rfl ?_
  refine l_nil ?_
  refine g_seq ?_
  refine g_seq ?_
  refine g_region ?_
  refine l_move rfl rfl ?_
  refine l_eqpn rfl Tryd.underlying23 rfl rfl ?_
  refine l_nil ?_
  refine g_cond_f rfl ?_
  refine g_skip ?_
  refine g_seq ?_
  refine g_seq ?_
  refine g_region ?_
  refine l_move rfl rfl ?_
  refine l_nilCheck rfl rfl ?_
  refine l_fieldAddr rfl fa_51_1 rfl ?_
  refine l_ld rfl Tryd.isAgg48 rfl rfl ?_
  refine l_move rfl rfl ?_
  refine l_lookG_no rfl (hS.none hk) Tryd.underlying48 klS Tryd.zeroValue49 rfl rfl rfl (by first | exact mem_getO 0 rfl | exact mem_getO 1 rfl | exact mem_getO 2 rfl | exact mem_getO 3 rfl | exact mem_getO 4 rfl | exact mem_getO 5 rfl | exact mem_getO 6 rfl | exact mem_getO 7 rfl | exact mem_getO 8 rfl | exact mem_getO 9 rfl | exact mem_getO 10 rfl | exact mem_getO 11 rfl) ?_
  refine l_move rfl rfl ?_
  refine l_extract rfl rfl rfl ?_
  refine l_extract (v := .bool false) rfl rfl rfl ?_
  refine l_assign rfl rfl ?_
  refine l_assign rfl rfl ?_
  refine l_nil ?_
  refine g_seq ?_
  refine g_region ?_
  refine l_move rfl rfl ?_
  refine l_nil ?_
  refine g_cond_f rfl ?_
  refine g_skip ?_
  refine g_seq ?_
  refine gp_start mo (by kernel_rfl) (by kernel_rfl) ?_
  refine gp_quiet 0 rfl rfl rfl rfl rfl rfl (q_move rfl) ?_
  refine gp_quiet 1 rfl rfl rfl rfl rfl rfl (q_move rfl) ?_
  refine gp_quiet 2 rfl rfl rfl rfl rfl rfl (q_nilCheck rfl) ?_
  refine gp_quiet 3 rfl rfl rfl rfl rfl rfl (q_fieldAddr fa_51_1 rfl) ?_
  refine gp_quiet 4 rfl rfl rfl rfl rfl rfl (q_ld Tryd.isAgg48 rfl rfl) ?_
  refine gp_quiet 5 rfl rfl rfl rfl rfl rfl (q_lenG (kval := Value.string) Tryd.underlying48 rfl (by first | exact mem_getO 0 rfl | exact mem_getO 1 rfl | exact mem_getO 2 rfl | exact mem_getO 3 rfl | exact mem_getO 4 rfl | exact mem_getO 5 rfl | exact mem_getO 6 rfl | exact mem_getO 7 rfl | exact mem_getO 8 rfl | exact mem_getO 9 rfl | exact mem_getO 10 rfl | exact mem_getO 11 rfl)) ?_
  refine gp_quiet 6 rfl rfl rfl rfl rfl rfl (q_move rfl) ?_
  refine gp_quiet 7 rfl rfl rfl rfl rfl rfl (q_nilCheck rfl) ?_
  refine gp_quiet 8 rfl rfl rfl rfl rfl rfl (q_fieldAddr fa_51_0 rfl) ?_
  first | refine gp_quiet 9 rfl rfl rfl rfl rfl rfl (q_ld Tryd.isAgg3 rfl rfl) ?_ | refine gp_quiet 9 rfl rfl rfl rfl rfl rfl (q_ldw Tryd.isAgg3 rfl (by omega)) ?_
  refine gp_quiet 10 rfl rfl rfl rfl rfl rfl (q_eql rfl rfl) ?_
  refine gp_quiet 11 rfl rfl rfl rfl rfl rfl (q_assign rfl) ?_
  refine gp_quiet 12 rfl rfl rfl rfl rfl rfl (q_assign rfl) ?_
  refine gp_end rfl rfl ?_
  refine g_seq ?_
  refine g_seq ?_
  refine g_region ?_
  refine l_move rfl rfl ?_
  refine l_nil ?_
  refine g_cond rfl ?_ ?_
  · intro hbr
    have hbr := of_decide_eq_true hbr
    refine g_seq ?_
    refine g_region ?_
    refine l_move rfl rfl ?_
    refine l_nilCheck rfl rfl ?_
    refine l_fieldAddr rfl fa_51_2 rfl ?_
    refine l_ld rfl Tryd.isAgg49 rfl rfl ?_
    refine l_nilCheck rfl rfl ?_
    refine l_fieldAddr rfl fa_96_0 rfl ?_
    refine l_loadc (v := .string x0.k) rfl Tryd.isAgg9 rfl (segS_cell (l1 := []) (l2 := xs) (x := x0) (show SegS 96 none (x0 :: xs) none ∈ _ from (by first | exact mem_getO 0 rfl | exact mem_getO 1 rfl | exact mem_getO 2 rfl | exact mem_getO 3 rfl | exact mem_getO 4 rfl | exact mem_getO 5 rfl | exact mem_getO 6 rfl | exact mem_getO 7 rfl | exact mem_getO 8 rfl | exact mem_getO 9 rfl | exact mem_getO 10 rfl | exact mem_getO 11 rfl)) (o := 0) rfl) ?_
    refine l_assign rfl rfl ?_
    refine l_nil ?_
    refine g_region ?_
    refine l_move rfl rfl ?_
    refine l_move rfl rfl ?_
    refine l_take (MapG Value.string m kv) ?_
    refine l_take (SegS 96 none (x0 :: xs) none) ?_
    refine l_take (Blk sb (.cells [Value.int .i64 room, .map (some m), .pointer (fstPS (x0 :: xs) none), .pointer (lstPS (x0 :: xs) none)].toArray 51 (0, 0))) ?_
    refine l_call rfl Tryd.call31 rfl (drop_yes_st _ _ sb m room kv [] xs x0 hS) ?_; rintro _ _ ⟨kv2, rfl, hS2, rfl⟩
    rw [List.nil_append] at hS2 ⊢
    refine l_nil ?_
    refine g_seq ?_
    refine g_region ?_
    refine l_move rfl rfl ?_
    refine l_lds rfl Tryd.isAgg28 Tryd.sizeOf28 rfl rfl ?_
    refine l_build rfl rfl (fun w => bd_96_0_1 _ _ _ w) ?_
    refine l_boxs rfl rfl ?_; intro b63
    refine l_assign rfl rfl ?_
    refine l_nil ?_
    refine g_seq ?_
    refine g_region ?_
    refine l_move rfl rfl ?_
    refine l_nilCheck rfl rfl ?_
    refine l_fieldAddr rfl fa_51_1 rfl ?_
    refine l_ld rfl Tryd.isAgg48 rfl rfl ?_
    refine l_move rfl rfl ?_
    refine l_move rfl rfl ?_
    refine l_take (MapG Value.string m kv2) ?_
    refine l_does0 (does_mapNewG (hS2.none hk2) Tryd.underlying48 klS rfl rfl rfl rfl) ?_
    rintro _ _ rfl
    refine l_nil ?_
    refine g_seq ?_
    refine g_region ?_
    refine l_frontb b63 ?_
    refine gl_heap (F' := Blk (NdS.mk b63 k v1).b (.cells (ndCS (NdS.mk b63 k v1) none none).toArray 96 (0, 0)) :: _) (fun w hw => hw) ?_
    refine l_move rfl rfl ?_
    refine l_move rfl rfl ?_
    refine l_take (Blk (NdS.mk b63 k v1).b (.cells (ndCS (NdS.mk b63 k v1) none none).toArray 96 (0, 0))) ?_
    refine l_take (SegS 96 none (xs) none) ?_
    refine l_take (Blk sb (.cells [Value.int .i64 room, .map (some m), .pointer (fstPS (xs) none), .pointer (lstPS (xs) none)].toArray 51 (0, 0))) ?_
    refine l_call rfl Tryd.call51 rfl (append_st _ _ sb m room (xs) (NdS.mk b63 k v1)) ?_; rintro _ _ ⟨rfl, rfl⟩
    refine l_nil ?_
    refine g_seq ?_
    refine g_region ?_
    refine l_move rfl rfl ?_
    refine l_move rfl rfl ?_
    refine l_assign rfl rfl ?_
    refine l_assign rfl rfl ?_
    refine l_nil ?_
    refine g_ret Tryd.func25 rfl (.tmp rfl (.tmp rfl .nil)) ?_
    exact Gives.mki ⟨b63, kv2 ++ [(k, Value.pointer (some ⟨b63, 0, none⟩))], by rw [decide_eq_true (show (kv.length : Int) = room by omega)]; rfl, hS2.snoc (x := (NdS.mk b63 k v1)) hk2, rfl⟩
  · intro hbr
    have hbr := of_decide_eq_false hbr
    (exfalso; omega)
theorem new_st (w0 : World) (F : List Atom) (room : Int) (r1 : 1 ≤ room) (r2 : room ≤ 4096) :
    CallK Tryd.prog 5 [.int .i64 room] w0 (F) (Gives w0 fun v F2 => ∃ sb m, v = .tuple #[.pointer (some ⟨sb, 0, none⟩), .int .i64 0] ∧ F2 = Blk sb (.cells [Value.int .i64 room, .map (some m), .pointer (fstPS ([]) none), .pointer (lstPS ([]) none)].toArray 51 (0, 0)) :: SegS 96 none ([]) none :: MapG Value.string m [] :: F) := by
  refine c_enter Tryd.func5 rfl rfl rfl ?_
  refine g_seq ?_
  refine g_region ?_
  refine l_assign rfl rfl ?_
  refine l_assign rfl rfl ?_
  refine l_nil ?_
  refine g_seq ?_
  refine g_seq ?_
  refine g_region ?_
  refine l_move rfl rfl ?_
  refine l_lss rfl rfl rfl ?_
  refine l_move rfl rfl ?_
  refine l_split 6 rfl ?_ ?_
  · intro hbr
    have hbr := of_decide_eq_true hbr
    (exfalso; omega)
  intro hbr
  have hbr := of_decide_eq_false hbr
  refine l_guard_yes rfl rfl ?_
  refine l_move rfl rfl ?_
  refine l_guard_yes rfl rfl ?_
  refine l_gtr rfl rfl rfl ?_
  refine l_pick_f rfl rfl rfl ?_
  refine l_nil ?_
  refine g_cond rfl ?_ ?_
  · intro hbr
    have hbr := of_decide_eq_true hbr
    (exfalso; omega)
  intro hbr
  have hbr := of_decide_eq_false hbr
  refine g_skip ?_
  refine g_seq ?_
  refine g_region ?_
  refine l_move rfl rfl ?_
  refine l_makeMapG Value.string rfl ?_; intro b11
  refine l_build rfl rfl (fun w => bd_51_0_1 _ _ w) ?_
  refine l_boxs rfl rfl ?_; intro b13
  refine gl_heap (F' := Blk b13 (.cells [Value.int .i64 room, .map (some b11), .pointer (fstPS ([]) none), .pointer (lstPS ([]) none)].toArray 51 (0, 0)) :: SegS 96 none ([]) none :: MapG Value.string b11 [] :: F) (fun w hw => (segS_nil (T := 96) (p := none) (n := none) hw).perm (List.Perm.swap ..)) ?_
  refine l_assign rfl rfl ?_
  refine l_assign rfl rfl ?_
  refine l_nil ?_
  refine g_ret Tryd.func5 rfl (.tmp rfl (.tmp rfl .nil)) ?_
  exact Gives.mki ⟨b13, b11, rfl, rfl⟩
theorem newbad_st (w0 : World) (F : List Atom) (room : Int) (hr : room < 1 ∨ 4096 < room) :
    CallK Tryd.prog 5 [.int .i64 room] w0 (F) (Gives w0 fun v F2 => v = .tuple #[.pointer none, .int .i64 60] ∧ F2 = F) := by
  refine c_enter Tryd.func5 rfl rfl rfl ?_
  refine g_seq ?_
  refine g_region ?_
  refine l_assign rfl rfl ?_
  refine l_assign rfl rfl ?_
  refine l_nil ?_
  refine g_seq ?_
  refine g_seq ?_
  refine g_region ?_
  refine l_move rfl rfl ?_
  refine l_lss rfl rfl rfl ?_
  refine l_move rfl rfl ?_
  refine l_split 6 rfl ?_ ?_
  · intro hbr
    have hbr := of_decide_eq_true hbr
    refine l_guard_no rfl rfl rfl ?_
    refine l_guard_no rfl rfl rfl ?_
    refine l_pick_t rfl rfl rfl ?_
    refine l_nil ?_
    refine g_cond_t rfl ?_
    refine g_seq ?_
    refine g_region ?_
    refine l_assign rfl rfl ?_
    refine l_assign rfl rfl ?_
    refine l_nil ?_
    refine g_ret Tryd.func5 rfl (.tmp rfl (.tmp rfl .nil)) ?_
    exact Gives.mki ⟨rfl, rfl⟩
  intro hbr
  have hbr := of_decide_eq_false hbr
  refine l_guard_yes rfl rfl ?_
  refine l_move rfl rfl ?_
  refine l_guard_yes rfl rfl ?_
  refine l_gtr rfl rfl rfl ?_
  refine l_pick_f rfl rfl rfl ?_
  refine l_nil ?_
  refine g_cond rfl ?_ ?_
  · intro hbr
    have hbr := of_decide_eq_true hbr
    refine g_seq ?_
    refine g_region ?_
    refine l_assign rfl rfl ?_
    refine l_assign rfl rfl ?_
    refine l_nil ?_
    refine g_ret Tryd.func5 rfl (.tmp rfl (.tmp rfl .nil)) ?_
    exact Gives.mki ⟨rfl, rfl⟩
  · intro hbr
    have hbr := of_decide_eq_false hbr
    (exfalso; omega)
theorem len_st (w0 : World) (F : List Atom) (sb m : Nat) (room : Int) (kv : List (ByteArray × Value)) (xs : List NdS) (hS : ShOkS kv xs) :
    CallK Tryd.prog 12 [.pointer (some ⟨sb, 0, none⟩)] w0 (Blk sb (.cells [Value.int .i64 room, .map (some m), .pointer (fstPS (xs) none), .pointer (lstPS (xs) none)].toArray 51 (0, 0)) :: SegS 96 none (xs) none :: MapG Value.string m kv :: F) (Gives w0 fun v F2 => v = .int .i64 (xs.length : Int) ∧ F2 = Blk sb (.cells [Value.int .i64 room, .map (some m), .pointer (fstPS (xs) none), .pointer (lstPS (xs) none)].toArray 51 (0, 0)) :: SegS 96 none (xs) none :: MapG Value.string m kv :: F) := by
  refine c_enter Tryd.func12 rfl rfl rfl ?_
  refine g_seq ?_
  refine g_region ?_
  refine l_assign rfl rfl ?_
  refine l_nil ?_
  refine g_seq ?_
  refine g_seq ?_
  refine g_region ?_
  refine l_move rfl rfl ?_
  refine l_eqpn rfl Tryd.underlying23 rfl rfl ?_
  refine l_nil ?_
  refine g_cond_f rfl ?_
  refine g_skip ?_
  refine g_seq ?_
  refine g_region ?_
  refine l_move rfl rfl ?_
  refine l_nilCheck rfl rfl ?_
  refine l_fieldAddr rfl fa_51_1 rfl ?_
  refine l_ld rfl Tryd.isAgg48 rfl rfl ?_
  refine l_lenG (kval := Value.string) rfl Tryd.underlying48 rfl (by first | exact mem_getO 0 rfl | exact mem_getO 1 rfl | exact mem_getO 2 rfl | exact mem_getO 3 rfl | exact mem_getO 4 rfl | exact mem_getO 5 rfl | exact mem_getO 6 rfl | exact mem_getO 7 rfl | exact mem_getO 8 rfl | exact mem_getO 9 rfl | exact mem_getO 10 rfl | exact mem_getO 11 rfl) ?_
  refine l_assign rfl rfl ?_
  refine l_nil ?_
  refine g_ret Tryd.func12 rfl (.tmp rfl .nil) ?_
  exact Gives.mki ⟨by rw [hS.len]; rfl, rfl⟩
theorem clear_st (w0 : World) (F : List Atom) (sb m : Nat) (room : Int) (kv : List (ByteArray × Value)) (xs : List NdS) (hS : ShOkS kv xs) :
    CallK Tryd.prog 33 [.pointer (some ⟨sb, 0, none⟩)] w0 (Blk sb (.cells [Value.int .i64 room, .map (some m), .pointer (fstPS (xs) none), .pointer (lstPS (xs) none)].toArray 51 (0, 0)) :: SegS 96 none (xs) none :: MapG Value.string m kv :: F) (Gives w0 fun v F2 => F2 = Blk sb (.cells [Value.int .i64 room, .map (some m), .pointer (fstPS ([]) none), .pointer (lstPS ([]) none)].toArray 51 (0, 0)) :: SegS 96 none ([]) none :: MapG Value.string m [] :: F) := by
  refine c_enter Tryd.func33 rfl rfl rfl ?_
  refine g_seq ?_
  refine g_seq ?_
  refine g_region ?_
  refine l_move rfl rfl ?_
  refine l_eqpn rfl Tryd.underlying23 rfl rfl ?_
  refine l_nil ?_
  refine g_cond_f rfl ?_
  refine g_skip ?_
  refine g_block ?_
  refine g_loopk (X := List NdS × List (ByteArray × Value)) [(0, _)] (.cons rfl (.nil)) (fun z => ShOkS z.2 z.1) (fun z => z.1.length) (fun z => []) (fun z => Blk sb (.cells [Value.int .i64 room, .map (some m), .pointer (fstPS (z.1) none), .pointer (lstPS (z.1) none)].toArray 51 (0, 0)) :: SegS 96 none (z.1) none :: MapG Value.string m z.2 :: F) ((xs, kv)) (hS) (.nil) (fun w hw => hw) ?_
  rintro ⟨xs, kv⟩ hS ih
  dsimp only [List.cons_append, List.nil_append] at ih ⊢
  simp only at hS
  refine g_seq ?_
  refine g_seq ?_
  refine g_region ?_
  refine l_move rfl rfl ?_
  refine l_nilCheck rfl rfl ?_
  refine l_fieldAddr rfl fa_51_2 rfl ?_
  refine l_ld rfl Tryd.isAgg49 rfl rfl ?_
  refine l_nepn rfl Tryd.underlying49 rfl rfl ?_
  refine l_nil ?_
  refine g_cond rfl ?_ ?_
  · intro hbr
    have hb8 := hbr
    refine g_skip ?_
    refine g_block ?_
    refine g_region ?_
    obtain ⟨x, xs, rfl⟩ := fst_someS hb8
    refine l_move rfl rfl ?_
    refine l_move rfl rfl ?_
    refine l_nilCheck rfl rfl ?_
    refine l_fieldAddr rfl fa_51_2 rfl ?_
    refine l_ld rfl Tryd.isAgg49 rfl rfl ?_
    refine l_nilCheck rfl rfl ?_
    refine l_fieldAddr rfl fa_96_0 rfl ?_
    refine l_loadc (v := .string x.k) rfl Tryd.isAgg9 rfl (segS_cell (l1 := []) (l2 := xs) (x := x) (show SegS 96 none (x :: xs) none ∈ _ from (by first | exact mem_getO 0 rfl | exact mem_getO 1 rfl | exact mem_getO 2 rfl | exact mem_getO 3 rfl | exact mem_getO 4 rfl | exact mem_getO 5 rfl)) (o := 0) rfl) ?_
    refine l_call rfl Tryd.call31 rfl (drop_yes_st _ _ sb m room kv [] xs x hS) ?_; rintro _ _ ⟨kv2, rfl, hS2, rfl⟩
    rw [List.nil_append] at hS2 ⊢
    refine l_nil ?_
    refine g_inBlock ?_
    exact g_againi (ih (xs, kv2) hS2 (by simp only [List.length_cons]; omega)) (.cons rfl (.nil))
  intro hbr
  have hb8 := hbr
  refine g_exit rfl ?_
  obtain rfl := fst_noneS hb8
  obtain rfl : kv = [] := List.length_eq_zero_iff.1 hS.len
  refine g_end Tryd.func33 rfl .nil ?_
  exact Gives.mki rfl
theorem peek_yes_pt (w0 : World) (F : List Atom) (sb m : Nat) (room : Int) (kv : List ((Int × Int) × Value)) (l1 l2 : List NdQ) (x : NdQ) (hS : ShOkQ kv (l1 ++ x :: l2)) :
    CallK Tryd.prog 37 [.pointer (some ⟨sb, 0, none⟩), .agg #[.int .i64 x.k.1, .int .i64 x.k.2]] w0 (Blk sb (.cells [Value.int .i64 room, .map (some m), .pointer (fstPQ (l1 ++ x :: l2) none), .pointer (lstPQ (l1 ++ x :: l2) none)].toArray 55 (0, 0)) :: SegQ 102 none (l1 ++ x :: l2) none :: MapG kvP m kv :: F) (Gives w0 fun v F2 => v = .tuple #[.string x.v, .bool true] ∧ F2 = Blk sb (.cells [Value.int .i64 room, .map (some m), .pointer (fstPQ (l1 ++ x :: l2) none), .pointer (lstPQ (l1 ++ x :: l2) none)].toArray 55 (0, 0)) :: SegQ 102 none (l1 ++ x :: l2) none :: MapG kvP m kv :: F) := by
  refine c_enter Tryd.func37 rfl rfl rfl ?_
  refine g_seq ?_
  refine g_region ?_
  refine l_boxs rfl rfl ?_; intro b3
  refine l_assign rfl rfl ?_
  refine l_assign rfl rfl ?_
  refine l_nil ?_
  refine g_seq ?_
  refine g_region ?_
  refine l_assign rfl rfl ?_
  refine l_nil ?_
  refine g_seq ?_
  refine g_seq ?_
  refine g_region ?_
  refine l_move rfl rfl ?_
  refine l_eqpn rfl Tryd.underlying29 rfl rfl ?_
  refine l_nil ?_
  refine g_cond_f rfl ?_
  refine g_skip ?_
  refine g_seq ?_
  refine gp_start mo (by kernel_rfl) (by kernel_rfl) ?_
  refine gp_quiet 0 rfl rfl rfl rfl rfl rfl (q_move rfl) ?_
  refine gp_quiet 1 rfl rfl rfl rfl rfl rfl (q_nilCheck rfl) ?_
  refine gp_quiet 2 rfl rfl rfl rfl rfl rfl (q_fieldAddr fa_55_1 rfl) ?_
  refine gp_quiet 3 rfl rfl rfl rfl rfl rfl (q_ld Tryd.isAgg52 rfl rfl) ?_
  refine gp_quiet 4 rfl rfl rfl rfl rfl rfl (q_lds Tryd.isAgg28 Tryd.sizeOf28 rfl rfl) ?_
  obtain ⟨i, hfi, hS2⟩ := hS.some
  refine gp_quiet 5 rfl rfl rfl rfl rfl rfl (q_lookG_yes hfi Tryd.underlying52 klQ Tryd.zeroValue53 rfl rfl rfl (by first | exact mem_getO 0 rfl | exact mem_getO 1 rfl | exact mem_getO 2 rfl | exact mem_getO 3 rfl | exact mem_getO 4 rfl | exact mem_getO 5 rfl | exact mem_getO 6 rfl | exact mem_getO 7 rfl | exact mem_getO 8 rfl | exact mem_getO 9 rfl | exact mem_getO 10 rfl | exact mem_getO 11 rfl)) ?_
  refine gp_quiet 6 rfl rfl rfl rfl rfl rfl (q_move rfl) ?_
  refine gp_quiet 7 rfl rfl rfl rfl rfl rfl (q_extract rfl rfl) ?_
  refine gp_quiet 8 rfl rfl rfl rfl rfl rfl (q_extract (v := .bool true) rfl rfl) ?_
  refine gp_quiet 9 rfl rfl rfl rfl rfl rfl (q_assign rfl) ?_
  refine gp_quiet 10 rfl rfl rfl rfl rfl rfl (q_assign rfl) ?_
  refine gp_end rfl rfl ?_
  refine g_seq ?_
  refine g_seq ?_
  refine g_region ?_
  refine l_move rfl rfl ?_
  refine l_not rfl rfl ?_
  refine l_nil ?_
  refine g_cond_f rfl ?_
  refine g_skip ?_
  refine g_seq ?_
  refine g_region ?_
  refine l_move rfl rfl ?_
  refine l_nilCheck rfl rfl ?_
  refine l_fieldAddr rfl fa_102_1 rfl ?_
  refine l_loadc (v := .string x.v) rfl Tryd.isAgg9 rfl (segQ_cell (show SegQ 102 none (l1 ++ x :: l2) none ∈ _ from (by first | exact mem_getO 0 rfl | exact mem_getO 1 rfl | exact mem_getO 2 rfl | exact mem_getO 3 rfl | exact mem_getO 4 rfl | exact mem_getO 5 rfl | exact mem_getO 6 rfl | exact mem_getO 7 rfl | exact mem_getO 8 rfl | exact mem_getO 9 rfl | exact mem_getO 10 rfl | exact mem_getO 11 rfl)) (o := 2) rfl) ?_
  refine l_assign rfl rfl ?_
  refine l_assign rfl rfl ?_
  refine l_nil ?_
  refine g_ret Tryd.func37 rfl (.tmp rfl (.tmp rfl .nil)) ?_
  exact Gives.mki ⟨rfl, rfl⟩
theorem peek_no_pt (w0 : World) (F : List Atom) (sb m : Nat) (room : Int) (kv : List ((Int × Int) × Value)) (xs : List NdQ) (hS : ShOkQ kv xs) (k : (Int × Int)) (hk : ∀ x ∈ xs, x.k ≠ k) :
    CallK Tryd.prog 37 [.pointer (some ⟨sb, 0, none⟩), .agg #[.int .i64 k.1, .int .i64 k.2]] w0 (Blk sb (.cells [Value.int .i64 room, .map (some m), .pointer (fstPQ (xs) none), .pointer (lstPQ (xs) none)].toArray 55 (0, 0)) :: SegQ 102 none (xs) none :: MapG kvP m kv :: F) (Gives w0 fun v F2 => v = .tuple #[.string ⟨#[]⟩, .bool false] ∧ F2 = Blk sb (.cells [Value.int .i64 room, .map (some m), .pointer (fstPQ (xs) none), .pointer (lstPQ (xs) none)].toArray 55 (0, 0)) :: SegQ 102 none (xs) none :: MapG kvP m kv :: F) := by
  refine c_enter Tryd.func37 rfl rfl rfl ?_
  refine g_seq ?_
  refine g_region ?_
  refine l_boxs rfl rfl ?_; intro b3
  refine l_assign rfl rfl ?_
  refine l_assign rfl rfl ?_
  refine l_nil ?_
  refine g_seq ?_
  refine g_region ?_
  refine l_assign rfl rfl ?_
  refine l_nil ?_
  refine g_seq ?_
  refine g_seq ?_
  refine g_region ?_
  refine l_move rfl rfl ?_
  refine l_eqpn rfl Tryd.underlying29 rfl rfl ?_
  refine l_nil ?_
  refine g_cond_f rfl ?_
  refine g_skip ?_
  refine g_seq ?_
  refine gp_start mo (by kernel_rfl) (by kernel_rfl) ?_
  refine gp_quiet 0 rfl rfl rfl rfl rfl rfl (q_move rfl) ?_
  refine gp_quiet 1 rfl rfl rfl rfl rfl rfl (q_nilCheck rfl) ?_
  refine gp_quiet 2 rfl rfl rfl rfl rfl rfl (q_fieldAddr fa_55_1 rfl) ?_
  refine gp_quiet 3 rfl rfl rfl rfl rfl rfl (q_ld Tryd.isAgg52 rfl rfl) ?_
  refine gp_quiet 4 rfl rfl rfl rfl rfl rfl (q_lds Tryd.isAgg28 Tryd.sizeOf28 rfl rfl) ?_
  refine gp_quiet 5 rfl rfl rfl rfl rfl rfl (q_lookG_no (hS.none hk) Tryd.underlying52 klQ Tryd.zeroValue53 rfl rfl rfl (by first | exact mem_getO 0 rfl | exact mem_getO 1 rfl | exact mem_getO 2 rfl | exact mem_getO 3 rfl | exact mem_getO 4 rfl | exact mem_getO 5 rfl | exact mem_getO 6 rfl | exact mem_getO 7 rfl | exact mem_getO 8 rfl | exact mem_getO 9 rfl | exact mem_getO 10 rfl | exact mem_getO 11 rfl)) ?_
  refine gp_quiet 6 rfl rfl rfl rfl rfl rfl (q_move rfl) ?_
  refine gp_quiet 7 rfl rfl rfl rfl rfl rfl (q_extract rfl rfl) ?_
  refine gp_quiet 8 rfl rfl rfl rfl rfl rfl (q_extract (v := .bool false) rfl rfl) ?_
  refine gp_quiet 9 rfl rfl rfl rfl rfl rfl (q_assign rfl) ?_
  refine gp_quiet 10 rfl rfl rfl rfl rfl rfl (q_assign rfl) ?_
  refine gp_end rfl rfl ?_
  refine g_seq ?_
  refine g_seq ?_
  refine g_region ?_
  refine l_move rfl rfl ?_
  refine l_not rfl rfl ?_
  refine l_nil ?_
  refine g_cond_t rfl ?_
  refine g_seq ?_
  refine g_region ?_
  refine l_move rfl rfl ?_
  refine l_assign rfl rfl ?_
  refine l_assign rfl rfl ?_
  refine l_nil ?_
  refine g_ret Tryd.func37 rfl (.tmp rfl (.tmp rfl .nil)) ?_
  exact Gives.mki ⟨rfl, rfl⟩
theorem get_yes_pt (w0 : World) (F : List Atom) (sb m : Nat) (room : Int) (kv : List ((Int × Int) × Value)) (l1 l2 : List NdQ) (x : NdQ) (hS : ShOkQ kv (l1 ++ x :: l2)) :
    CallK Tryd.prog 36 [.pointer (some ⟨sb, 0, none⟩), .agg #[.int .i64 x.k.1, .int .i64 x.k.2]] w0 (Blk sb (.cells [Value.int .i64 room, .map (some m), .pointer (fstPQ (l1 ++ x :: l2) none), .pointer (lstPQ (l1 ++ x :: l2) none)].toArray 55 (0, 0)) :: SegQ 102 none (l1 ++ x :: l2) none :: MapG kvP m kv :: F) (Gives w0 fun v F2 => v = .tuple #[.string x.v, .bool true] ∧ F2 = Blk sb (.cells [Value.int .i64 room, .map (some m), .pointer (fstPQ (l1 ++ l2 ++ [x]) none), .pointer (lstPQ (l1 ++ l2 ++ [x]) none)].toArray 55 (0, 0)) :: SegQ 102 none (l1 ++ l2 ++ [x]) none :: MapG kvP m kv :: F) := by
  refine c_enter Tryd.func36 rfl rfl rfl ?_
  refine g_seq ?_
  refine g_region ?_
  refine l_boxs rfl rfl ?_; intro b3
  refine l_assign rfl rfl ?_
  refine l_assign rfl rfl ?_
  refine l_nil ?_
  refine g_seq ?_
  refine g_region ?_
  refine l_move rfl rfl ?_
  refine l_lds rfl Tryd.isAgg28 Tryd.sizeOf28 rfl rfl ?_
  refine l_take (MapG kvP m kv) ?_
  refine l_take (SegQ 102 none (l1 ++ x :: l2) none) ?_
  refine l_take (Blk sb (.cells [Value.int .i64 room, .map (some m), .pointer (fstPQ (l1 ++ x :: l2) none), .pointer (lstPQ (l1 ++ x :: l2) none)].toArray 55 (0, 0))) ?_
  refine l_call rfl Tryd.call37 rfl (peek_yes_pt _ _ sb m room kv l1 l2 x hS) ?_; rintro _ _ ⟨rfl, rfl⟩
  refine l_move rfl rfl ?_
  refine l_extract rfl rfl rfl ?_
  refine l_extract (v := .bool true) rfl rfl rfl ?_
  refine l_assign rfl rfl ?_
  refine l_assign rfl rfl ?_
  refine l_nil ?_
  refine g_seq ?_
  refine g_seq ?_
  refine g_region ?_
  refine l_move rfl rfl ?_
  refine l_nil ?_
  refine g_cond_t rfl ?_
  refine g_seq ?_
  refine gp_start mo (by kernel_rfl) (by kernel_rfl) ?_
  refine gp_quiet 0 rfl rfl rfl rfl rfl rfl (q_move rfl) ?_
  refine gp_quiet 1 rfl rfl rfl rfl rfl rfl (q_nilCheck rfl) ?_
  refine gp_quiet 2 rfl rfl rfl rfl rfl rfl (q_fieldAddr fa_55_1 rfl) ?_
  refine gp_quiet 3 rfl rfl rfl rfl rfl rfl (q_ld Tryd.isAgg52 rfl rfl) ?_
  refine gp_quiet 4 rfl rfl rfl rfl rfl rfl (q_lds Tryd.isAgg28 Tryd.sizeOf28 rfl rfl) ?_
  obtain ⟨i, hfi, hS2⟩ := hS.some
  refine gp_quiet 5 rfl rfl rfl rfl rfl rfl (q_lookG1 hfi Tryd.underlying52 klQ Tryd.zeroValue53 rfl rfl rfl (by first | exact mem_getO 0 rfl | exact mem_getO 1 rfl | exact mem_getO 2 rfl | exact mem_getO 3 rfl | exact mem_getO 4 rfl | exact mem_getO 5 rfl | exact mem_getO 6 rfl | exact mem_getO 7 rfl | exact mem_getO 8 rfl | exact mem_getO 9 rfl | exact mem_getO 10 rfl | exact mem_getO 11 rfl)) ?_
  refine gp_quiet 6 rfl rfl rfl rfl rfl rfl (q_assign rfl) ?_
  refine gp_end rfl rfl ?_
  refine g_seq ?_
  refine g_region ?_
  refine l_move rfl rfl ?_
  refine l_move rfl rfl ?_
  refine l_take (SegQ 102 none (l1 ++ x :: l2) none) ?_
  refine l_take (Blk sb (.cells [Value.int .i64 room, .map (some m), .pointer (fstPQ (l1 ++ x :: l2) none), .pointer (lstPQ (l1 ++ x :: l2) none)].toArray 55 (0, 0))) ?_
  refine l_call rfl Tryd.call54 rfl (unlink_pt _ _ sb m room l1 l2 x) ?_; rintro _ _ ⟨rfl, rfl⟩
  refine l_nil ?_
  refine g_region ?_
  refine l_move rfl rfl ?_
  refine l_move rfl rfl ?_
  refine l_take (Blk x.b (.cells (ndCQ x none none).toArray 102 (0, 0))) ?_
  refine l_take (SegQ 102 none (l1 ++ l2) none) ?_
  refine l_take (Blk sb (.cells [Value.int .i64 room, .map (some m), .pointer (fstPQ (l1 ++ l2) none), .pointer (lstPQ (l1 ++ l2) none)].toArray 55 (0, 0))) ?_
  refine l_call rfl Tryd.call55 rfl (append_pt _ _ sb m room (l1 ++ l2) x) ?_; rintro _ _ ⟨rfl, rfl⟩
  refine l_nil ?_
  refine g_seq ?_
  refine g_region ?_
  refine l_move rfl rfl ?_
  refine l_move rfl rfl ?_
  refine l_assign rfl rfl ?_
  refine l_assign rfl rfl ?_
  refine l_nil ?_
  refine g_ret Tryd.func36 rfl (.tmp rfl (.tmp rfl .nil)) ?_
  exact Gives.mki ⟨rfl, rfl⟩
theorem get_no_pt (w0 : World) (F : List Atom) (sb m : Nat) (room : Int) (kv : List ((Int × Int) × Value)) (xs : List NdQ) (hS : ShOkQ kv xs) (k : (Int × Int)) (hk : ∀ x ∈ xs, x.k ≠ k) :
    CallK Tryd.prog 36 [.pointer (some ⟨sb, 0, none⟩), .agg #[.int .i64 k.1, .int .i64 k.2]] w0 (Blk sb (.cells [Value.int .i64 room, .map (some m), .pointer (fstPQ (xs) none), .pointer (lstPQ (xs) none)].toArray 55 (0, 0)) :: SegQ 102 none (xs) none :: MapG kvP m kv :: F) (Gives w0 fun v F2 => v = .tuple #[.string ⟨#[]⟩, .bool false] ∧ F2 = Blk sb (.cells [Value.int .i64 room, .map (some m), .pointer (fstPQ (xs) none), .pointer (lstPQ (xs) none)].toArray 55 (0, 0)) :: SegQ 102 none (xs) none :: MapG kvP m kv :: F) := by
  refine c_enter Tryd.func36 rfl rfl rfl ?_
  refine g_seq ?_
  refine g_region ?_
  refine l_boxs rfl rfl ?_; intro b3
  refine l_assign rfl rfl ?_
  refine l_assign rfl rfl ?_
  refine l_nil ?_
  refine g_seq ?_
  refine g_region ?_
  refine l_move rfl rfl ?_
  refine l_lds rfl Tryd.isAgg28 Tryd.sizeOf28 rfl rfl ?_
  refine l_take (MapG kvP m kv) ?_
  refine l_take (SegQ 102 none (xs) none) ?_
  refine l_take (Blk sb (.cells [Value.int .i64 room, .map (some m), .pointer (fstPQ (xs) none), .pointer (lstPQ (xs) none)].toArray 55 (0, 0))) ?_
  refine l_call rfl Tryd.call37 rfl (peek_no_pt _ _ sb m room kv xs hS k hk) ?_; rintro _ _ ⟨rfl, rfl⟩
  refine l_move rfl rfl ?_
  refine l_extract rfl rfl rfl ?_
  refine l_extract (v := .bool false) rfl rfl rfl ?_
  refine l_assign rfl rfl ?_
  refine l_assign rfl rfl ?_
  refine l_nil ?_
  refine g_seq ?_
  refine g_seq ?_
  refine g_region ?_
  refine l_move rfl rfl ?_
  refine l_nil ?_
  refine g_cond_f rfl ?_
  refine g_skip ?_
  refine g_seq ?_
  refine g_region ?_
  refine l_move rfl rfl ?_
  refine l_move rfl rfl ?_
  refine l_assign rfl rfl ?_
  refine l_assign rfl rfl ?_
  refine l_nil ?_
  refine g_ret Tryd.func36 rfl (.tmp rfl (.tmp rfl .nil)) ?_
  exact Gives.mki ⟨rfl, rfl⟩
theorem drop_yes_pt (w0 : World) (F : List Atom) (sb m : Nat) (room : Int) (kv : List ((Int × Int) × Value)) (l1 l2 : List NdQ) (x : NdQ) (hS : ShOkQ kv (l1 ++ x :: l2)) :
    CallK Tryd.prog 38 [.pointer (some ⟨sb, 0, none⟩), .agg #[.int .i64 x.k.1, .int .i64 x.k.2]] w0 (Blk sb (.cells [Value.int .i64 room, .map (some m), .pointer (fstPQ (l1 ++ x :: l2) none), .pointer (lstPQ (l1 ++ x :: l2) none)].toArray 55 (0, 0)) :: SegQ 102 none (l1 ++ x :: l2) none :: MapG kvP m kv :: F) (Gives w0 fun v F2 => ∃ kv', v = .bool true ∧ ShOkQ kv' (l1 ++ l2) ∧ F2 = Blk sb (.cells [Value.int .i64 room, .map (some m), .pointer (fstPQ (l1 ++ l2) none), .pointer (lstPQ (l1 ++ l2) none)].toArray 55 (0, 0)) :: SegQ 102 none (l1 ++ l2) none :: MapG kvP m kv' :: F) := by
  refine c_enter Tryd.func38 rfl rfl rfl ?_
  refine g_seq ?_
  refine g_region ?_
  refine l_boxs rfl rfl ?_; intro b3
  refine l_assign rfl rfl ?_
  refine l_nil ?_
  refine g_seq ?_
  refine g_seq ?_
  refine g_region ?_
  refine l_move rfl rfl ?_
  refine l_eqpn rfl Tryd.underlying29 rfl rfl ?_
  refine l_nil ?_
  refine g_cond_f rfl ?_
  refine g_skip ?_
  refine g_seq ?_
  refine gp_start mo (by kernel_rfl) (by kernel_rfl) ?_
  refine gp_quiet 0 rfl rfl rfl rfl rfl rfl (q_move rfl) ?_
  refine gp_quiet 1 rfl rfl rfl rfl rfl rfl (q_nilCheck rfl) ?_
  refine gp_quiet 2 rfl rfl rfl rfl rfl rfl (q_fieldAddr fa_55_1 rfl) ?_
  refine gp_quiet 3 rfl rfl rfl rfl rfl rfl (q_ld Tryd.isAgg52 rfl rfl) ?_
  refine gp_quiet 4 rfl rfl rfl rfl rfl rfl (q_lds Tryd.isAgg28 Tryd.sizeOf28 rfl rfl) ?_
  obtain ⟨i, hfi, hS2⟩ := hS.some
  refine gp_quiet 5 rfl rfl rfl rfl rfl rfl (q_lookG_yes hfi Tryd.underlying52 klQ Tryd.zeroValue53 rfl rfl rfl (by first | exact mem_getO 0 rfl | exact mem_getO 1 rfl | exact mem_getO 2 rfl | exact mem_getO 3 rfl | exact mem_getO 4 rfl | exact mem_getO 5 rfl | exact mem_getO 6 rfl | exact mem_getO 7 rfl | exact mem_getO 8 rfl | exact mem_getO 9 rfl | exact mem_getO 10 rfl | exact mem_getO 11 rfl)) ?_
  refine gp_quiet 6 rfl rfl rfl rfl rfl rfl (q_move rfl) ?_
  refine gp_quiet 7 rfl rfl rfl rfl rfl rfl (q_extract rfl rfl) ?_
  refine gp_quiet 8 rfl rfl rfl rfl rfl rfl (q_extract (v := .bool true) rfl rfl) ?_
  refine gp_quiet 9 rfl rfl rfl rfl rfl rfl (q_assign rfl) ?_
  refine gp_quiet 10 rfl rfl rfl rfl rfl rfl (q_assign rfl) ?_
  refine gp_end rfl rfl ?_
  refine g_seq ?_
  refine g_seq ?_
  refine g_region ?_
  refine l_move rfl rfl ?_
  refine l_nil ?_
  refine g_cond_t rfl ?_
  refine g_seq ?_
  refine g_region ?_
  refine l_move rfl rfl ?_
  refine l_move rfl rfl ?_
  refine l_take (SegQ 102 none (l1 ++ x :: l2) none) ?_
  refine l_take (Blk sb (.cells [Value.int .i64 room, .map (some m), .pointer (fstPQ (l1 ++ x :: l2) none), .pointer (lstPQ (l1 ++ x :: l2) none)].toArray 55 (0, 0))) ?_
  refine l_call rfl Tryd.call54 rfl (unlink_pt _ _ sb m room l1 l2 x) ?_; rintro _ _ ⟨rfl, rfl⟩
  refine l_nil ?_
  refine gp_start mo (by kernel_rfl) (by kernel_rfl) ?_
  refine gp_quiet 0 rfl rfl rfl rfl rfl rfl (q_move rfl) ?_
  refine gp_quiet 1 rfl rfl rfl rfl rfl rfl (q_nilCheck rfl) ?_
  refine gp_quiet 2 rfl rfl rfl rfl rfl rfl (q_fieldAddr fa_55_1 rfl) ?_
  refine gp_quiet 3 rfl rfl rfl rfl rfl rfl (q_ld Tryd.isAgg52 rfl rfl) ?_
  refine gp_quiet 4 rfl rfl rfl rfl rfl rfl (q_lds Tryd.isAgg28 Tryd.sizeOf28 rfl rfl) ?_
  refine gp_take (MapG kvP m kv) ?_
  refine gp_effa 5 [3, 4] [2, 1, 0] rfl rfl rfl rfl rfl rfl rfl (does_mapDelG hfi Tryd.underlying52 klQ rfl rfl rfl) ?_
  rintro _ _ rfl
  refine ⟨?_, ?_⟩
  · refine .cons rfl rfl rfl rfl rfl (q_fieldAddr fa_55_1 rfl) ?_
    refine .cons rfl rfl rfl rfl rfl (q_nilCheck rfl) ?_
    refine .cons rfl rfl rfl rfl rfl (q_move rfl) ?_
    exact .nil
  refine gp_end rfl rfl ?_
  refine g_seq ?_
  refine g_region ?_
  refine l_move rfl rfl ?_
  refine l_assign rfl rfl ?_
  refine l_nil ?_
  refine g_ret Tryd.func38 rfl (.tmp rfl .nil) ?_
  exact Gives.mki ⟨_, rfl, hS2, rfl⟩
theorem drop_no_pt (w0 : World) (F : List Atom) (sb m : Nat) (room : Int) (kv : List ((Int × Int) × Value)) (xs : List NdQ) (hS : ShOkQ kv xs) (k : (Int × Int)) (hk : ∀ x ∈ xs, x.k ≠ k) :
    CallK Tryd.prog 38 [.pointer (some ⟨sb, 0, none⟩), .agg #[.int .i64 k.1, .int .i64 k.2]] w0 (Blk sb (.cells [Value.int .i64 room, .map (some m), .pointer (fstPQ (xs) none), .pointer (lstPQ (xs) none)].toArray 55 (0, 0)) :: SegQ 102 none (xs) none :: MapG kvP m kv :: F) (Gives w0 fun v F2 => v = .bool false ∧ F2 = Blk sb (.cells [Value.int .i64 room, .map (some m), .pointer (fstPQ (xs) none), .pointer (lstPQ (xs) none)].toArray 55 (0, 0)) :: SegQ 102 none (xs) none :: MapG kvP m kv :: F) := by
  refine c_enter Tryd.func38 rfl rfl rfl ?_
  refine g_seq ?_
  refine g_region ?_
  refine l_boxs rfl rfl ?_; intro b3
  refine l_assign rfl rfl ?_
  refine l_nil ?_
  refine g_seq ?_
  refine g_seq ?_
  refine g_region ?_
  refine l_move rfl rfl ?_
  refine l_eqpn rfl Tryd.underlying29 rfl rfl ?_
  refine l_nil ?_
  refine g_cond_f rfl ?_
  refine g_skip ?_
  refine g_seq ?_
  refine gp_start mo (by kernel_rfl) (by kernel_rfl) ?_
  refine gp_quiet 0 rfl rfl rfl rfl rfl rfl (q_move rfl) ?_
  refine gp_quiet 1 rfl rfl rfl rfl rfl rfl (q_nilCheck rfl) ?_
  refine gp_quiet 2 rfl rfl rfl rfl rfl rfl (q_fieldAddr fa_55_1 rfl) ?_
  refine gp_quiet 3 rfl rfl rfl rfl rfl rfl (q_ld Tryd.isAgg52 rfl rfl) ?_
  refine gp_quiet 4 rfl rfl rfl rfl rfl rfl (q_lds Tryd.isAgg28 Tryd.sizeOf28 rfl rfl) ?_
  refine gp_quiet 5 rfl rfl rfl rfl rfl rfl (q_lookG_no (hS.none hk) Tryd.underlying52 klQ Tryd.zeroValue53 rfl rfl rfl (by first | exact mem_getO 0 rfl | exact mem_getO 1 rfl | exact mem_getO 2 rfl | exact mem_getO 3 rfl | exact mem_getO 4 rfl | exact mem_getO 5 rfl | exact mem_getO 6 rfl | exact mem_getO 7 rfl | exact mem_getO 8 rfl | exact mem_getO 9 rfl | exact mem_getO 10 rfl | exact mem_getO 11 rfl)) ?_
  refine gp_quiet 6 rfl rfl rfl rfl rfl rfl (q_move rfl) ?_
  refine gp_quiet 7 rfl rfl rfl rfl rfl rfl (q_extract rfl rfl) ?_
  refine gp_quiet 8 rfl rfl rfl rfl rfl rfl (q_extract (v := .bool false) rfl rfl) ?_
  refine gp_quiet 9 rfl rfl rfl rfl rfl rfl (q_assign rfl) ?_
  refine gp_quiet 10 rfl rfl rfl rfl rfl rfl (q_assign rfl) ?_
  refine gp_end rfl rfl ?_
  refine g_seq ?_
  refine g_seq ?_
  refine g_region ?_
  refine l_move rfl rfl ?_
  refine l_nil ?_
  refine g_cond_f rfl ?_
  refine g_skip ?_
  refine g_seq ?_
  refine g_region ?_
  refine l_move rfl rfl ?_
  refine l_assign rfl rfl ?_
  refine l_nil ?_
  refine g_ret Tryd.func38 rfl (.tmp rfl .nil) ?_
  exact Gives.mki ⟨rfl, rfl⟩
theorem put_yes_pt (w0 : World) (F : List Atom) (sb m : Nat) (room : Int) (kv : List ((Int × Int) × Value)) (l1 l2 : List NdQ) (xb : Nat) (k : (Int × Int)) (v0 v1 : ByteArray) (hS : ShOkQ kv (l1 ++ (NdQ.mk xb k v0) :: l2)) :
    CallK Tryd.prog 35 [.pointer (some ⟨sb, 0, none⟩), .agg #[.int .i64 k.1, .int .i64 k.2], .string v1] w0 (Blk sb (.cells [Value.int .i64 room, .map (some m), .pointer (fstPQ (l1 ++ (NdQ.mk xb k v0) :: l2) none), .pointer (lstPQ (l1 ++ (NdQ.mk xb k v0) :: l2) none)].toArray 55 (0, 0)) :: SegQ 102 none (l1 ++ (NdQ.mk xb k v0) :: l2) none :: MapG kvP m kv :: F) (Gives w0 fun v F2 => v = .tuple #[.agg #[.int .i64 0, .int .i64 0], .bool false] ∧ F2 = Blk sb (.cells [Value.int .i64 room, .map (some m), .pointer (fstPQ (l1 ++ l2 ++ [(NdQ.mk xb k v1)]) none), .pointer (lstPQ (l1 ++ l2 ++ [(NdQ.mk xb k v1)]) none)].toArray 55 (0, 0)) :: SegQ 102 none (l1 ++ l2 ++ [(NdQ.mk xb k v1)]) none :: MapG kvP m kv :: F) := by
  refine c_enter Tryd.func35 rfl rfl rfl ?_
  refine g_seq ?_
  refine g_region ?_
  refine l_boxs rfl rfl ?_; intro b4
  refine l_allocs rfl Tryd.zeroValue28 ?_; intro b6
  refine l_assign rfl rfl ?_
  refine l_nil ?_
  refine g_seq ?_
  refine g_region ?_
  refine l_allocs rfl Tryd.zeroValue28 ?_; intro b8
  refine l_nil ?_
  refine g_seq ?_
  refine g_seq ?_
  refine g_region ?_
  refine l_move rfl rfl ?_
  refine l_eqpn rfl Tryd.underlying29 rfl rfl ?_
  refine l_nil ?_
  refine g_cond_f rfl ?_
  refine g_skip ?_
  refine g_seq ?_
  refine g_seq ?_
  refine gp_start mo (by kernel_rfl) (by kernel_rfl) ?_
  refine gp_quiet 0 rfl rfl rfl rfl rfl rfl (q_move rfl) ?_
  refine gp_quiet 1 rfl rfl rfl rfl rfl rfl (q_nilCheck rfl) ?_
  refine gp_quiet 2 rfl rfl rfl rfl rfl rfl (q_fieldAddr fa_55_1 rfl) ?_
  refine gp_quiet 3 rfl rfl rfl rfl rfl rfl (q_ld Tryd.isAgg52 rfl rfl) ?_
  refine gp_quiet 4 rfl rfl rfl rfl rfl rfl (q_lds Tryd.isAgg28 Tryd.sizeOf28 rfl rfl) ?_
  obtain ⟨i, hfi, _⟩ := hS.some
  refine gp_quiet 5 rfl rfl rfl rfl rfl rfl (q_lookG_yes (v := .pointer (some ⟨xb, 0, none⟩)) hfi Tryd.underlying52 klQ Tryd.zeroValue53 rfl rfl rfl (by first | exact mem_getO 0 rfl | exact mem_getO 1 rfl | exact mem_getO 2 rfl | exact mem_getO 3 rfl | exact mem_getO 4 rfl | exact mem_getO 5 rfl | exact mem_getO 6 rfl | exact mem_getO 7 rfl | exact mem_getO 8 rfl | exact mem_getO 9 rfl | exact mem_getO 10 rfl | exact mem_getO 11 rfl)) ?_
  refine gp_quiet 6 rfl rfl rfl rfl rfl rfl (q_move rfl) ?_
  refine gp_quiet 7 rfl rfl rfl rfl rfl rfl (q_extract rfl rfl) ?_
  refine gp_quiet 8 rfl rfl rfl rfl rfl rfl (q_extract (v := .bool true) rfl rfl) ?_
  refine gp_quiet 9 rfl rfl rfl rfl rfl rfl (q_assign rfl) ?_
  refine gp_quiet 10 rfl rfl rfl rfl rfl rfl (q_assign rfl) ?_
  refine gp_end rfl rfl ?_
  refine g_seq ?_
  refine g_region ?_
  refine l_move rfl rfl ?_
  refine l_nil ?_
  refine g_cond_t rfl ?_
  refine g_seq ?_
  refine g_region ?_
  have e1 : fstPQ (l1 ++ (NdQ.mk xb k v0) :: l2) none = fstPQ (l1 ++ (NdQ.mk xb k v1) :: l2) none := by rw [fstPQ_app, fstPQ_app]; rfl
  have e2 : lstPQ (l1 ++ (NdQ.mk xb k v0) :: l2) none = lstPQ (l1 ++ (NdQ.mk xb k v1) :: l2) none := by rw [lstPQ_app, lstPQ_app]; rfl
  rw [e1, e2]
  refine l_take (Blk sb (.cells [Value.int .i64 room, .map (some m), .pointer (fstPQ (l1 ++ (NdQ.mk xb k v1) :: l2) none), .pointer (lstPQ (l1 ++ (NdQ.mk xb k v1) :: l2) none)].toArray 55 (0, 0))) ?_
  refine l_take (SegQ 102 none (l1 ++ (NdQ.mk xb k v0) :: l2) none) ?_
  refine gl_heap (F' := SegQ 102 none l1 (NdQ.p (NdQ.mk xb k v1)) :: Blk xb (.cells [Value.int .i64 k.1, .int .i64 k.2, .string v0, .pointer (lstPQ l1 none), .pointer (fstPQ l2 none)].toArray 102 (0, 0)) :: SegQ 102 (NdQ.p (NdQ.mk xb k v1)) l2 none :: Blk sb (.cells [Value.int .i64 room, .map (some m), .pointer (fstPQ (l1 ++ (NdQ.mk xb k v1) :: l2) none), .pointer (lstPQ (l1 ++ (NdQ.mk xb k v1) :: l2) none)].toArray 55 (0, 0)) :: _) (fun w hw => segQ_at hw) ?_
  refine l_move rfl rfl ?_
  refine l_move rfl rfl ?_
  refine l_nilCheck rfl rfl ?_
  refine l_fieldAddr rfl fa_102_1 rfl ?_
  refine l_st Tryd.sizeOf9 rfl rfl rfl rfl ?_
  refine l_nil ?_
  refine g_seq ?_
  refine g_region ?_
  refine gl_heap (F' := Blk sb (.cells [Value.int .i64 room, .map (some m), .pointer (fstPQ (l1 ++ (NdQ.mk xb k v1) :: l2) none), .pointer (lstPQ (l1 ++ (NdQ.mk xb k v1) :: l2) none)].toArray 55 (0, 0)) :: SegQ 102 none (l1 ++ (NdQ.mk xb k v1) :: l2) none :: _) (fun w hw => (segQ_to (x := (NdQ.mk xb k v1)) rfl rfl hw).perm (List.Perm.swap ..)) ?_
  refine l_move rfl rfl ?_
  refine l_move rfl rfl ?_
  refine l_take (SegQ 102 none (l1 ++ (NdQ.mk xb k v1) :: l2) none) ?_
  refine l_take (Blk sb (.cells [Value.int .i64 room, .map (some m), .pointer (fstPQ (l1 ++ (NdQ.mk xb k v1) :: l2) none), .pointer (lstPQ (l1 ++ (NdQ.mk xb k v1) :: l2) none)].toArray 55 (0, 0))) ?_
  refine l_call rfl Tryd.call54 rfl (unlink_pt _ _ sb m room l1 l2 (NdQ.mk xb k v1)) ?_; rintro _ _ ⟨rfl, rfl⟩
  refine l_nil ?_
  refine g_seq ?_
  refine g_region ?_
  refine l_move rfl rfl ?_
  refine l_move rfl rfl ?_
  refine l_take (Blk (NdQ.mk xb k v1).b (.cells (ndCQ (NdQ.mk xb k v1) none none).toArray 102 (0, 0))) ?_
  refine l_take (SegQ 102 none (l1 ++ l2) none) ?_
  refine l_take (Blk sb (.cells [Value.int .i64 room, .map (some m), .pointer (fstPQ (l1 ++ l2) none), .pointer (lstPQ (l1 ++ l2) none)].toArray 55 (0, 0))) ?_
  refine l_call rfl Tryd.call55 rfl (append_pt _ _ sb m room (l1 ++ l2) (NdQ.mk xb k v1)) ?_; rintro _ _ ⟨rfl, rfl⟩
  refine l_nil ?_
  refine g_seq ?_
  refine g_region ?_
  refine l_lds rfl Tryd.isAgg28 Tryd.sizeOf28 rfl rfl ?_
  refine l_sts Tryd.sizeOf28 rfl rfl rfl rfl rfl ?_
  refine l_assign rfl rfl ?_
  refine l_nil ?_
  refine g_ret Tryd.func35 rfl (.cis rfl Tryd.isAgg28 Tryd.sizeOf28 rfl (.tmp rfl .nil)) ?_
  exact Gives.mki ⟨rfl, rfl⟩
theorem put_new_pt (w0 : World) (F : List Atom) (sb m : Nat) (room : Int) (kv : List ((Int × Int) × Value)) (xs : List NdQ) (k : (Int × Int)) (v1 : ByteArray) (hS : ShOkQ kv xs) (hk : ∀ x ∈ xs, x.k ≠ k) (hr : (xs.length : Int) ≠ room) :
    CallK Tryd.prog 35 [.pointer (some ⟨sb, 0, none⟩), .agg #[.int .i64 k.1, .int .i64 k.2], .string v1] w0 (Blk sb (.cells [Value.int .i64 room, .map (some m), .pointer (fstPQ (xs) none), .pointer (lstPQ (xs) none)].toArray 55 (0, 0)) :: SegQ 102 none (xs) none :: MapG kvP m kv :: F) (Gives w0 fun v F2 => ∃ b kv', v = .tuple #[.agg #[.int .i64 0, .int .i64 0], .bool false] ∧ ShOkQ kv' (xs ++ [NdQ.mk b k v1]) ∧ F2 = Blk sb (.cells [Value.int .i64 room, .map (some m), .pointer (fstPQ (xs ++ [NdQ.mk b k v1]) none), .pointer (lstPQ (xs ++ [NdQ.mk b k v1]) none)].toArray 55 (0, 0)) :: SegQ 102 none (xs ++ [NdQ.mk b k v1]) none :: MapG kvP m kv' :: F) := by
  have hlen := hS.len
  refine c_enter Tryd.func35 rfl rfl rfl ?_
  refine g_seq ?_
  refine g_region ?_
  refine l_boxs rfl rfl ?_; intro b4
  refine l_allocs rfl Tryd.zeroValue28 ?_; intro b6
  refine l_assign rfl rfl ?_
  refine l_nil ?_
  refine g_seq ?_
  refine g_region ?_
  refine l_allocs rfl Tryd.zeroValue28 ?_; intro b8
  refine l_nil ?_
  refine g_seq ?_
  refine g_seq ?_
  refine g_region ?_
  refine l_move rfl rfl ?_
  refine l_eqpn rfl Tryd.underlying29 rfl rfl ?_
  refine l_nil ?_
  refine g_cond_f rfl ?_
  refine g_skip ?_
  refine g_seq ?_
  refine g_seq ?_
  refine gp_start mo (by kernel_rfl) (by kernel_rfl) ?_
  refine gp_quiet 0 rfl rfl rfl rfl rfl rfl (q_move rfl) ?_
  refine gp_quiet 1 rfl rfl rfl rfl rfl rfl (q_nilCheck rfl) ?_
  refine gp_quiet 2 rfl rfl rfl rfl rfl rfl (q_fieldAddr fa_55_1 rfl) ?_
  refine gp_quiet 3 rfl rfl rfl rfl rfl rfl (q_ld Tryd.isAgg52 rfl rfl) ?_
  refine gp_quiet 4 rfl rfl rfl rfl rfl rfl (q_lds Tryd.isAgg28 Tryd.sizeOf28 rfl rfl) ?_
  refine gp_quiet 5 rfl rfl rfl rfl rfl rfl (q_lookG_no (hS.none hk) Tryd.underlying52 klQ Tryd.zeroValue53 rfl rfl rfl (by first | exact mem_getO 0 rfl | exact mem_getO 1 rfl | exact mem_getO 2 rfl | exact mem_getO 3 rfl | exact mem_getO 4 rfl | exact mem_getO 5 rfl | exact mem_getO 6 rfl | exact mem_getO 7 rfl | exact mem_getO 8 rfl | exact mem_getO 9 rfl | exact mem_getO 10 rfl | exact mem_getO 11 rfl)) ?_
  refine gp_quiet 6 rfl rfl rfl rfl rfl rfl (q_move rfl) ?_
  refine gp_quiet 7 rfl rfl rfl rfl rfl rfl (q_extract rfl rfl) ?_
  refine gp_quiet 8 rfl rfl rfl rfl rfl rfl (q_extract (v := .bool false) rfl rfl) ?_
  refine gp_quiet 9 rfl rfl rfl rfl rfl rfl (q_assign rfl) ?_
  refine gp_quiet 10 rfl rfl rfl rfl rfl rfl (q_assign rfl) ?_
  refine gp_end rfl rfl ?_
  refine g_seq ?_
  refine g_region ?_
  refine l_move rfl rfl ?_
  refine l_nil ?_
  refine g_cond_f rfl ?_
  refine g_skip ?_
  refine g_seq ?_
  refine gp_start mo (by kernel_rfl) (by kernel_rfl) ?_
  refine gp_quiet 0 rfl rfl rfl rfl rfl rfl (q_lds Tryd.isAgg28 Tryd.sizeOf28 rfl rfl) ?_
  refine gp_quiet 1 rfl rfl rfl rfl rfl rfl (q_move rfl) ?_
  refine gp_quiet 2 rfl rfl rfl rfl rfl rfl (q_nilCheck rfl) ?_
  refine gp_quiet 3 rfl rfl rfl rfl rfl rfl (q_fieldAddr fa_55_1 rfl) ?_
  refine gp_quiet 4 rfl rfl rfl rfl rfl rfl (q_ld Tryd.isAgg52 rfl rfl) ?_
  refine gp_quiet 5 rfl rfl rfl rfl rfl rfl (q_lenG (kval := kvP) Tryd.underlying52 rfl (by first | exact mem_getO 0 rfl | exact mem_getO 1 rfl | exact mem_getO 2 rfl | exact mem_getO 3 rfl | exact mem_getO 4 rfl | exact mem_getO 5 rfl | exact mem_getO 6 rfl | exact mem_getO 7 rfl | exact mem_getO 8 rfl | exact mem_getO 9 rfl | exact mem_getO 10 rfl | exact mem_getO 11 rfl)) ?_
  refine gp_quiet 6 rfl rfl rfl rfl rfl rfl (q_move rfl) ?_
  refine gp_quiet 7 rfl rfl rfl rfl rfl rfl (q_nilCheck rfl) ?_
  refine gp_quiet 8 rfl rfl rfl rfl rfl rfl (q_fieldAddr fa_55_0 rfl) ?_
  first | refine gp_quiet 9 rfl rfl rfl rfl rfl rfl (q_ld Tryd.isAgg3 rfl rfl) ?_ | refine gp_quiet 9 rfl rfl rfl rfl rfl rfl (q_ldw Tryd.isAgg3 rfl (by omega)) ?_
  refine gp_quiet 10 rfl rfl rfl rfl rfl rfl (q_eql rfl rfl) ?_
  refine gp_eff 11 rfl rfl rfl rfl rfl rfl (does_allocs Tryd.zeroValue28) ?_
  rintro _ _ ⟨b11, rfl, rfl⟩
  refine ⟨?_, ?_⟩
  · refine .cons rfl rfl rfl rfl rfl (q_eql rfl rfl) ?_
    first | refine .cons rfl rfl rfl rfl rfl (q_ld Tryd.isAgg3 rfl rfl) ?_ | refine .cons rfl rfl rfl rfl rfl (q_ldw Tryd.isAgg3 rfl (by omega)) ?_
    refine .cons rfl rfl rfl rfl rfl (q_fieldAddr fa_55_0 rfl) ?_
    refine .cons rfl rfl rfl rfl rfl (q_nilCheck rfl) ?_
    refine .cons rfl rfl rfl rfl rfl (q_move rfl) ?_
    refine .cons rfl rfl rfl rfl rfl (q_lenG (kval := kvP) Tryd.underlying52 rfl (by first | exact mem_getO 0 rfl | exact mem_getO 1 rfl | exact mem_getO 2 rfl | exact mem_getO 3 rfl | exact mem_getO 4 rfl | exact mem_getO 5 rfl | exact mem_getO 6 rfl | exact mem_getO 7 rfl | exact mem_getO 8 rfl | exact mem_getO 9 rfl | exact mem_getO 10 rfl | exact mem_getO 11 rfl)) ?_
    refine .cons rfl rfl rfl rfl rfl (q_ld Tryd.isAgg52 rfl rfl) ?_
    refine .cons rfl rfl rfl rfl rfl (q_fieldAddr fa_55_1 rfl) ?_
    refine .cons rfl rfl rfl rfl rfl (q_nilCheck rfl) ?_
    refine .cons rfl rfl rfl rfl rfl (q_move rfl) ?_
    refine .cons rfl rfl rfl rfl rfl (q_lds Tryd.isAgg28 Tryd.sizeOf28 rfl rfl) ?_
    exact .nil
  refine gp_effa 12 [0, 5] [10, 9, 8, 7, 6, 4, 3, 2, 1] rfl rfl rfl rfl rfl rfl rfl (does_sts Tryd.sizeOf28 rfl rfl rfl rfl rfl) ?_
  rintro _ _ ⟨rfl, rfl⟩
  refine ⟨?_, ?_⟩
  · refine .cons rfl rfl rfl rfl rfl (q_eql rfl rfl) ?_
    first | refine .cons rfl rfl rfl rfl rfl (q_ld Tryd.isAgg3 rfl rfl) ?_ | refine .cons rfl rfl rfl rfl rfl (q_ldw Tryd.isAgg3 rfl (by omega)) ?_
    refine .cons rfl rfl rfl rfl rfl (q_fieldAddr fa_55_0 rfl) ?_
    refine .cons rfl rfl rfl rfl rfl (q_nilCheck rfl) ?_
    refine .cons rfl rfl rfl rfl rfl (q_move rfl) ?_
    refine .cons rfl rfl rfl rfl rfl (q_ld Tryd.isAgg52 rfl rfl) ?_
    refine .cons rfl rfl rfl rfl rfl (q_fieldAddr fa_55_1 rfl) ?_
    refine .cons rfl rfl rfl rfl rfl (q_nilCheck rfl) ?_
    refine .cons rfl rfl rfl rfl rfl (q_move rfl) ?_
    exact .nil
  refine gp_quiet 13 rfl rfl rfl rfl rfl rfl (q_assign rfl) ?_
  refine gp_end rfl rfl ?_
  refine g_seq ?_
  refine g_seq ?_
  refine g_region ?_
  refine l_move rfl rfl ?_
  refine l_nil ?_
  refine g_cond rfl ?_ ?_
  · intro hbr
    have hbr := of_decide_eq_true hbr
    (exfalso; omega)
  intro hbr
  have hbr := of_decide_eq_false hbr
  refine g_skip ?_
  refine g_seq ?_
  refine g_region ?_
  refine l_lds rfl Tryd.isAgg28 Tryd.sizeOf28 rfl rfl ?_
  refine l_move rfl rfl ?_
  refine l_build rfl rfl (fun w => bd_102_0_1 _ _ _ w) ?_
  refine l_boxs rfl rfl ?_; intro b63
  refine l_assign rfl rfl ?_
  refine l_nil ?_
  refine g_seq ?_
  refine gp_start mo (by kernel_rfl) (by kernel_rfl) ?_
  refine gp_quiet 0 rfl rfl rfl rfl rfl rfl (q_move rfl) ?_
  refine gp_quiet 1 rfl rfl rfl rfl rfl rfl (q_nilCheck rfl) ?_
  refine gp_quiet 2 rfl rfl rfl rfl rfl rfl (q_fieldAddr fa_55_1 rfl) ?_
  refine gp_quiet 3 rfl rfl rfl rfl rfl rfl (q_ld Tryd.isAgg52 rfl rfl) ?_
  refine gp_quiet 4 rfl rfl rfl rfl rfl rfl (q_lds Tryd.isAgg28 Tryd.sizeOf28 rfl rfl) ?_
  refine gp_quiet 5 rfl rfl rfl rfl rfl rfl (q_move rfl) ?_
  refine gp_take (MapG kvP m kv) ?_
  refine gp_effa 6 [0, 1, 2, 3, 4, 5] [] rfl rfl rfl rfl rfl rfl rfl (does_mapNewG (hS.none hk) Tryd.underlying52 klQ rfl rfl rfl rfl) ?_
  rintro _ _ rfl
  refine ⟨?_, ?_⟩
  · exact .nil
  refine gp_end rfl rfl ?_
  refine g_seq ?_
  refine g_region ?_
  refine l_frontb b63 ?_
  refine gl_heap (F' := Blk (NdQ.mk b63 k v1).b (.cells (ndCQ (NdQ.mk b63 k v1) none none).toArray 102 (0, 0)) :: _) (fun w hw => hw) ?_
  refine l_move rfl rfl ?_
  refine l_move rfl rfl ?_
  refine l_take (Blk (NdQ.mk b63 k v1).b (.cells (ndCQ (NdQ.mk b63 k v1) none none).toArray 102 (0, 0))) ?_
  refine l_take (SegQ 102 none (xs) none) ?_
  refine l_take (Blk sb (.cells [Value.int .i64 room, .map (some m), .pointer (fstPQ (xs) none), .pointer (lstPQ (xs) none)].toArray 55 (0, 0))) ?_
  refine l_call rfl Tryd.call55 rfl (append_pt _ _ sb m room (xs) (NdQ.mk b63 k v1)) ?_; rintro _ _ ⟨rfl, rfl⟩
  refine l_nil ?_
  refine g_seq ?_
  refine g_region ?_
  refine l_lds rfl Tryd.isAgg28 Tryd.sizeOf28 rfl rfl ?_
  refine l_move rfl rfl ?_
  refine l_sts Tryd.sizeOf28 rfl rfl rfl rfl rfl ?_
  refine l_assign rfl rfl ?_
  refine l_nil ?_
  refine g_ret Tryd.func35 rfl (.cis rfl Tryd.isAgg28 Tryd.sizeOf28 rfl (.tmp rfl .nil)) ?_
  exact Gives.mki ⟨b63, kv ++ [(k, Value.pointer (some ⟨b63, 0, none⟩))], by rw [decide_eq_false (show ¬ (kv.length : Int) = room by omega)]; rfl, hS.snoc (x := (NdQ.mk b63 k v1)) hk, rfl⟩
theorem put_full_pt (w0 : World) (F : List Atom) (sb m : Nat) (room : Int) (kv : List ((Int × Int) × Value)) (x0 : NdQ) (xs : List NdQ) (k : (Int × Int)) (v1 : ByteArray) (hS : ShOkQ kv (x0 :: xs)) (hk : ∀ x ∈ x0 :: xs, x.k ≠ k) (hr : ((x0 :: xs).length : Int) = room) :
    CallK Tryd.prog 35 [.pointer (some ⟨sb, 0, none⟩), .agg #[.int .i64 k.1, .int .i64 k.2], .string v1] w0 (Blk sb (.cells [Value.int .i64 room, .map (some m), .pointer (fstPQ (x0 :: xs) none), .pointer (lstPQ (x0 :: xs) none)].toArray 55 (0, 0)) :: SegQ 102 none (x0 :: xs) none :: MapG kvP m kv :: F) (Gives w0 fun v F2 => ∃ b kv', v = .tuple #[.agg #[.int .i64 x0.k.1, .int .i64 x0.k.2], .bool true] ∧ ShOkQ kv' (xs ++ [NdQ.mk b k v1]) ∧ F2 = Blk sb (.cells [Value.int .i64 room, .map (some m), .pointer (fstPQ (xs ++ [NdQ.mk b k v1]) none), .pointer (lstPQ (xs ++ [NdQ.mk b k v1]) none)].toArray 55 (0, 0)) :: SegQ 102 none (xs ++ [NdQ.mk b k v1]) none :: MapG kvP m kv' :: F) := by
  have hlen := hS.len
  have hk2 : ∀ x ∈ xs, x.k ≠ k := fun x hx => hk x (List.mem_cons_of_mem _ hx)
  refine c_enter Tryd.func35 rfl rfl rfl ?_
  refine g_seq ?_
  refine g_region ?_
  refine l_boxs rfl rfl ?_; intro b4
  refine l_allocs rfl Tryd.zeroValue28 ?_; intro b6
  refine l_assign rfl rfl ?_
  refine l_nil ?_
  refine g_seq ?_
  refine g_region ?_
  refine l_allocs rfl Tryd.zeroValue28 ?_; intro b8
  refine l_nil ?_
  refine g_seq ?_
  refine g_seq ?_
  refine g_region ?_
  refine l_move rfl rfl ?_
  refine l_eqpn rfl Tryd.underlying29 rfl rfl ?_
  refine l_nil ?_
  refine g_cond_f rfl ?_
  refine g_skip ?_
  refine g_seq ?_
  refine g_seq ?_
  refine gp_start mo (by kernel_rfl) (by kernel_rfl) ?_
  refine gp_quiet 0 rfl rfl rfl rfl rfl rfl (q_move rfl) ?_
  refine gp_quiet 1 rfl rfl rfl rfl rfl rfl (q_nilCheck rfl) ?_
  refine gp_quiet 2 rfl rfl rfl rfl rfl rfl (q_fieldAddr fa_55_1 rfl) ?_
  refine gp_quiet 3 rfl rfl rfl rfl rfl rfl (q_ld Tryd.isAgg52 rfl rfl) ?_
  refine gp_quiet 4 rfl rfl rfl rfl rfl rfl (q_lds Tryd.isAgg28 Tryd.sizeOf28 rfl rfl) ?_
  refine gp_quiet 5 rfl rfl rfl rfl rfl rfl (q_lookG_no (hS.none hk) Tryd.underlying52 klQ Tryd.zeroValue53 rfl rfl rfl (by first | exact mem_getO 0 rfl | exact mem_getO 1 rfl | exact mem_getO 2 rfl | exact mem_getO 3 rfl | exact mem_getO 4 rfl | exact mem_getO 5 rfl | exact mem_getO 6 rfl | exact mem_getO 7 rfl | exact mem_getO 8 rfl | exact mem_getO 9 rfl | exact mem_getO 10 rfl | exact mem_getO 11 rfl)) ?_
  refine gp_quiet 6 rfl rfl rfl rfl rfl rfl (q_move rfl) ?_
  refine gp_quiet 7 rfl rfl rfl rfl rfl rfl (q_extract rfl rfl) ?_
  refine gp_quiet 8 rfl rfl rfl rfl rfl rfl (q_extract (v := .bool false) rfl rfl) ?_
  refine gp_quiet 9 rfl rfl rfl rfl rfl rfl (q_assign rfl) ?_
  refine gp_quiet 10 rfl rfl rfl rfl rfl rfl (q_assign rfl) ?_
  refine gp_end rfl rfl ?_
  refine g_seq ?_
  refine g_region ?_
  refine l_move rfl rfl ?_
  refine l_nil ?_
  refine g_cond_f rfl ?_
  refine g_skip ?_
  refine g_seq ?_
  refine gp_start mo (by kernel_rfl) (by kernel_rfl) ?_
  refine gp_quiet 0 rfl rfl rfl rfl rfl rfl (q_lds Tryd.isAgg28 Tryd.sizeOf28 rfl rfl) ?_
  refine gp_quiet 1 rfl rfl rfl rfl rfl rfl (q_move rfl) ?_
  refine gp_quiet 2 rfl rfl rfl rfl rfl rfl (q_nilCheck rfl) ?_
  refine gp_quiet 3 rfl rfl rfl rfl rfl rfl (q_fieldAddr fa_55_1 rfl) ?_
  refine gp_quiet 4 rfl rfl rfl rfl rfl rfl (q_ld Tryd.isAgg52 rfl rfl) ?_
  refine gp_quiet 5 rfl rfl rfl rfl rfl rfl (q_lenG (kval := kvP) Tryd.underlying52 rfl (by first | exact mem_getO 0 rfl | exact mem_getO 1 rfl | exact mem_getO 2 rfl | exact mem_getO 3 rfl | exact mem_getO 4 rfl | exact mem_getO 5 rfl | exact mem_getO 6 rfl | exact mem_getO 7 rfl | exact mem_getO 8 rfl | exact mem_getO 9 rfl | exact mem_getO 10 rfl | exact mem_getO 11 rfl)) ?_
  refine gp_quiet 6 rfl rfl rfl rfl rfl rfl (q_move rfl) ?_
  refine gp_quiet 7 rfl rfl rfl rfl rfl rfl (q_nilCheck rfl) ?_
  refine gp_quiet 8 rfl rfl rfl rfl rfl rfl (q_fieldAddr fa_55_0 rfl) ?_
  first | refine gp_quiet 9 rfl rfl rfl rfl rfl rfl (q_ld Tryd.isAgg3 rfl rfl) ?_ | refine gp_quiet 9 rfl rfl rfl rfl rfl rfl (q_ldw Tryd.isAgg3 rfl (by omega)) ?_
  refine gp_quiet 10 rfl rfl rfl rfl rfl rfl (q_eql rfl rfl) ?_
  refine gp_eff 11 rfl rfl rfl rfl rfl rfl (does_allocs Tryd.zeroValue28) ?_
  rintro _ _ ⟨b11, rfl, rfl⟩
  refine ⟨?_, ?_⟩
  · refine .cons rfl rfl rfl rfl rfl (q_eql rfl rfl) ?_
    first | refine .cons rfl rfl rfl rfl rfl (q_ld Tryd.isAgg3 rfl rfl) ?_ | refine .cons rfl rfl rfl rfl rfl (q_ldw Tryd.isAgg3 rfl (by omega)) ?_
    refine .cons rfl rfl rfl rfl rfl (q_fieldAddr fa_55_0 rfl) ?_
    refine .cons rfl rfl rfl rfl rfl (q_nilCheck rfl) ?_
    refine .cons rfl rfl rfl rfl rfl (q_move rfl) ?_
    refine .cons rfl rfl rfl rfl rfl (q_lenG (kval := kvP) Tryd.underlying52 rfl (by first | exact mem_getO 0 rfl | exact mem_getO 1 rfl | exact mem_getO 2 rfl | exact mem_getO 3 rfl | exact mem_getO 4 rfl | exact mem_getO 5 rfl | exact mem_getO 6 rfl | exact mem_getO 7 rfl | exact mem_getO 8 rfl | exact mem_getO 9 rfl | exact mem_getO 10 rfl | exact mem_getO 11 rfl)) ?_
    refine .cons rfl rfl rfl rfl rfl (q_ld Tryd.isAgg52 rfl rfl) ?_
    refine .cons rfl rfl rfl rfl rfl (q_fieldAddr fa_55_1 rfl) ?_
    refine .cons rfl rfl rfl rfl rfl (q_nilCheck rfl) ?_
    refine .cons rfl rfl rfl rfl rfl (q_move rfl) ?_
    refine .cons rfl rfl rfl rfl rfl (q_lds Tryd.isAgg28 Tryd.sizeOf28 rfl rfl) ?_
    exact .nil
  refine gp_effa 12 [0, 5] [10, 9, 8, 7, 6, 4, 3, 2, 1] rfl rfl rfl rfl rfl rfl rfl (does_sts Tryd.sizeOf28 rfl rfl rfl rfl rfl) ?_
  rintro _ _ ⟨rfl, rfl⟩
  refine ⟨?_, ?_⟩
  · refine .cons rfl rfl rfl rfl rfl (q_eql rfl rfl) ?_
    first | refine .cons rfl rfl rfl rfl rfl (q_ld Tryd.isAgg3 rfl rfl) ?_ | refine .cons rfl rfl rfl rfl rfl (q_ldw Tryd.isAgg3 rfl (by omega)) ?_
    refine .cons rfl rfl rfl rfl rfl (q_fieldAddr fa_55_0 rfl) ?_
    refine .cons rfl rfl rfl rfl rfl (q_nilCheck rfl) ?_
    refine .cons rfl rfl rfl rfl rfl (q_move rfl) ?_
    refine .cons rfl rfl rfl rfl rfl (q_ld Tryd.isAgg52 rfl rfl) ?_
    refine .cons rfl rfl rfl rfl rfl (q_fieldAddr fa_55_1 rfl) ?_
    refine .cons rfl rfl rfl rfl rfl (q_nilCheck rfl) ?_
    refine .cons rfl rfl rfl rfl rfl (q_move rfl) ?_
    exact .nil
  refine gp_quiet 13 rfl rfl rfl rfl rfl rfl (q_assign rfl) ?_
  refine gp_end rfl rfl ?_
  refine g_seq ?_
  refine g_seq ?_
  refine g_region ?_
  refine l_move rfl rfl ?_
  refine l_nil ?_
  refine g_cond rfl ?_ ?_
  · intro hbr
    have hbr := of_decide_eq_true hbr
    refine g_seq ?_
    refine g_region ?_
    refine l_move rfl rfl ?_
    refine l_nilCheck rfl rfl ?_
    refine l_fieldAddr rfl fa_55_2 rfl ?_
    refine l_ld rfl Tryd.isAgg53 rfl rfl ?_
    refine l_nilCheck rfl rfl ?_
    refine l_fieldAddr rfl fa_102_0 rfl ?_
    refine l_loadr (l := [.int .i64 x0.k.1, .int .i64 x0.k.2]) rfl Tryd.isAgg28 Tryd.sizeOf28 rfl rfl (segQ_row2 (l1 := []) (l2 := xs) (x := x0) (show SegQ 102 none (x0 :: xs) none ∈ _ from (by first | exact mem_getO 0 rfl | exact mem_getO 1 rfl | exact mem_getO 2 rfl | exact mem_getO 3 rfl | exact mem_getO 4 rfl | exact mem_getO 5 rfl | exact mem_getO 6 rfl | exact mem_getO 7 rfl | exact mem_getO 8 rfl | exact mem_getO 9 rfl | exact mem_getO 10 rfl | exact mem_getO 11 rfl)) (o := 0) rfl rfl) ?_
    refine l_sts Tryd.sizeOf28 rfl rfl rfl rfl rfl ?_
    refine l_nil ?_
    refine g_region ?_
    refine l_move rfl rfl ?_
    refine l_lds rfl Tryd.isAgg28 Tryd.sizeOf28 rfl rfl ?_
    refine l_take (MapG kvP m kv) ?_
    refine l_take (SegQ 102 none (x0 :: xs) none) ?_
    refine l_take (Blk sb (.cells [Value.int .i64 room, .map (some m), .pointer (fstPQ (x0 :: xs) none), .pointer (lstPQ (x0 :: xs) none)].toArray 55 (0, 0))) ?_
    refine l_call rfl Tryd.call38 rfl (drop_yes_pt _ _ sb m room kv [] xs x0 hS) ?_; rintro _ _ ⟨kv2, rfl, hS2, rfl⟩
    rw [List.nil_append] at hS2 ⊢
    refine l_nil ?_
    refine g_seq ?_
    refine g_region ?_
    refine l_lds rfl Tryd.isAgg28 Tryd.sizeOf28 rfl rfl ?_
    refine l_move rfl rfl ?_
    refine l_build rfl rfl (fun w => bd_102_0_1 _ _ _ w) ?_
    refine l_boxs rfl rfl ?_; intro b63
    refine l_assign rfl rfl ?_
    refine l_nil ?_
    refine g_seq ?_
    refine gp_start mo (by kernel_rfl) (by kernel_rfl) ?_
    refine gp_quiet 0 rfl rfl rfl rfl rfl rfl (q_move rfl) ?_
    refine gp_quiet 1 rfl rfl rfl rfl rfl rfl (q_nilCheck rfl) ?_
    refine gp_quiet 2 rfl rfl rfl rfl rfl rfl (q_fieldAddr fa_55_1 rfl) ?_
    refine gp_quiet 3 rfl rfl rfl rfl rfl rfl (q_ld Tryd.isAgg52 rfl rfl) ?_
    refine gp_quiet 4 rfl rfl rfl rfl rfl rfl (q_lds Tryd.isAgg28 Tryd.sizeOf28 rfl rfl) ?_
    refine gp_quiet 5 rfl rfl rfl rfl rfl rfl (q_move rfl) ?_
    refine gp_take (MapG kvP m kv2) ?_
    refine gp_effa 6 [0, 1, 2, 3, 4, 5] [] rfl rfl rfl rfl rfl rfl rfl (does_mapNewG (hS2.none hk2) Tryd.underlying52 klQ rfl rfl rfl rfl) ?_
    rintro _ _ rfl
    refine ⟨?_, ?_⟩
    · exact .nil
    refine gp_end rfl rfl ?_
    refine g_seq ?_
    refine g_region ?_
    refine l_frontb b63 ?_
    refine gl_heap (F' := Blk (NdQ.mk b63 k v1).b (.cells (ndCQ (NdQ.mk b63 k v1) none none).toArray 102 (0, 0)) :: _) (fun w hw => hw) ?_
    refine l_move rfl rfl ?_
    refine l_move rfl rfl ?_
    refine l_take (Blk (NdQ.mk b63 k v1).b (.cells (ndCQ (NdQ.mk b63 k v1) none none).toArray 102 (0, 0))) ?_
    refine l_take (SegQ 102 none (xs) none) ?_
    refine l_take (Blk sb (.cells [Value.int .i64 room, .map (some m), .pointer (fstPQ (xs) none), .pointer (lstPQ (xs) none)].toArray 55 (0, 0))) ?_
    refine l_call rfl Tryd.call55 rfl (append_pt _ _ sb m room (xs) (NdQ.mk b63 k v1)) ?_; rintro _ _ ⟨rfl, rfl⟩
    refine l_nil ?_
    refine g_seq ?_
    refine g_region ?_
    refine l_lds rfl Tryd.isAgg28 Tryd.sizeOf28 rfl rfl ?_
    refine l_move rfl rfl ?_
    refine l_sts Tryd.sizeOf28 rfl rfl rfl rfl rfl ?_
    refine l_assign rfl rfl ?_
    refine l_nil ?_
    refine g_ret Tryd.func35 rfl (.cis rfl Tryd.isAgg28 Tryd.sizeOf28 rfl (.tmp rfl .nil)) ?_
    exact Gives.mki ⟨b63, kv2 ++ [(k, Value.pointer (some ⟨b63, 0, none⟩))], by rw [decide_eq_true (show (kv.length : Int) = room by omega)]; rfl, hS2.snoc (x := (NdQ.mk b63 k v1)) hk2, rfl⟩
  · intro hbr
    have hbr := of_decide_eq_false hbr
    (exfalso; omega)
theorem new_pt (w0 : World) (F : List Atom) (room : Int) (r1 : 1 ≤ room) (r2 : room ≤ 4096) :
    CallK Tryd.prog 6 [.int .i64 room] w0 (F) (Gives w0 fun v F2 => ∃ sb m, v = .tuple #[.pointer (some ⟨sb, 0, none⟩), .int .i64 0] ∧ F2 = Blk sb (.cells [Value.int .i64 room, .map (some m), .pointer (fstPQ ([]) none), .pointer (lstPQ ([]) none)].toArray 55 (0, 0)) :: SegQ 102 none ([]) none :: MapG kvP m [] :: F) := by
  refine c_enter Tryd.func6 rfl rfl rfl ?_
  refine g_seq ?_
  refine g_region ?_
  refine l_assign rfl rfl ?_
  refine l_assign rfl rfl ?_
  refine l_nil ?_
  refine g_seq ?_
  refine g_seq ?_
  refine g_region ?_
  refine l_move rfl rfl ?_
  refine l_lss rfl rfl rfl ?_
  refine l_move rfl rfl ?_
  refine l_split 6 rfl ?_ ?_
  · intro hbr
    have hbr := of_decide_eq_true hbr
    (exfalso; omega)
  intro hbr
  have hbr := of_decide_eq_false hbr
  refine l_guard_yes rfl rfl ?_
  refine l_move rfl rfl ?_
  refine l_guard_yes rfl rfl ?_
  refine l_gtr rfl rfl rfl ?_
  refine l_pick_f rfl rfl rfl ?_
  refine l_nil ?_
  refine g_cond rfl ?_ ?_
  · intro hbr
    have hbr := of_decide_eq_true hbr
    (exfalso; omega)
  intro hbr
  have hbr := of_decide_eq_false hbr
  refine g_skip ?_
  refine g_seq ?_
  refine g_region ?_
  refine l_move rfl rfl ?_
  refine l_makeMapG kvP rfl ?_; intro b11
  refine l_build rfl rfl (fun w => bd_55_0_1 _ _ w) ?_
  refine l_boxs rfl rfl ?_; intro b13
  refine gl_heap (F' := Blk b13 (.cells [Value.int .i64 room, .map (some b11), .pointer (fstPQ ([]) none), .pointer (lstPQ ([]) none)].toArray 55 (0, 0)) :: SegQ 102 none ([]) none :: MapG kvP b11 [] :: F) (fun w hw => (segQ_nil (T := 102) (p := none) (n := none) hw).perm (List.Perm.swap ..)) ?_
  refine l_assign rfl rfl ?_
  refine l_assign rfl rfl ?_
  refine l_nil ?_
  refine g_ret Tryd.func6 rfl (.tmp rfl (.tmp rfl .nil)) ?_
  exact Gives.mki ⟨b13, b11, rfl, rfl⟩
theorem newbad_pt (w0 : World) (F : List Atom) (room : Int) (hr : room < 1 ∨ 4096 < room) :
    CallK Tryd.prog 6 [.int .i64 room] w0 (F) (Gives w0 fun v F2 => v = .tuple #[.pointer none, .int .i64 60] ∧ F2 = F) := by
  refine c_enter Tryd.func6 rfl rfl rfl ?_
  refine g_seq ?_
  refine g_region ?_
  refine l_assign rfl rfl ?_
  refine l_assign rfl rfl ?_
  refine l_nil ?_
  refine g_seq ?_
  refine g_seq ?_
  refine g_region ?_
  refine l_move rfl rfl ?_
  refine l_lss rfl rfl rfl ?_
  refine l_move rfl rfl ?_
  refine l_split 6 rfl ?_ ?_
  · intro hbr
    have hbr := of_decide_eq_true hbr
    refine l_guard_no rfl rfl rfl ?_
    refine l_guard_no rfl rfl rfl ?_
    refine l_pick_t rfl rfl rfl ?_
    refine l_nil ?_
    refine g_cond_t rfl ?_
    refine g_seq ?_
    refine g_region ?_
    refine l_assign rfl rfl ?_
    refine l_assign rfl rfl ?_
    refine l_nil ?_
    refine g_ret Tryd.func6 rfl (.tmp rfl (.tmp rfl .nil)) ?_
    exact Gives.mki ⟨rfl, rfl⟩
  intro hbr
  have hbr := of_decide_eq_false hbr
  refine l_guard_yes rfl rfl ?_
  refine l_move rfl rfl ?_
  refine l_guard_yes rfl rfl ?_
  refine l_gtr rfl rfl rfl ?_
  refine l_pick_f rfl rfl rfl ?_
  refine l_nil ?_
  refine g_cond rfl ?_ ?_
  · intro hbr
    have hbr := of_decide_eq_true hbr
    refine g_seq ?_
    refine g_region ?_
    refine l_assign rfl rfl ?_
    refine l_assign rfl rfl ?_
    refine l_nil ?_
    refine g_ret Tryd.func6 rfl (.tmp rfl (.tmp rfl .nil)) ?_
    exact Gives.mki ⟨rfl, rfl⟩
  · intro hbr
    have hbr := of_decide_eq_false hbr
    (exfalso; omega)
theorem len_pt (w0 : World) (F : List Atom) (sb m : Nat) (room : Int) (kv : List ((Int × Int) × Value)) (xs : List NdQ) (hS : ShOkQ kv xs) :
    CallK Tryd.prog 11 [.pointer (some ⟨sb, 0, none⟩)] w0 (Blk sb (.cells [Value.int .i64 room, .map (some m), .pointer (fstPQ (xs) none), .pointer (lstPQ (xs) none)].toArray 55 (0, 0)) :: SegQ 102 none (xs) none :: MapG kvP m kv :: F) (Gives w0 fun v F2 => v = .int .i64 (xs.length : Int) ∧ F2 = Blk sb (.cells [Value.int .i64 room, .map (some m), .pointer (fstPQ (xs) none), .pointer (lstPQ (xs) none)].toArray 55 (0, 0)) :: SegQ 102 none (xs) none :: MapG kvP m kv :: F) := by
  refine c_enter Tryd.func11 rfl rfl rfl ?_
  refine g_seq ?_
  refine g_region ?_
  refine l_assign rfl rfl ?_
  refine l_nil ?_
  refine g_seq ?_
  refine g_seq ?_
  refine g_region ?_
  refine l_move rfl rfl ?_
  refine l_eqpn rfl Tryd.underlying29 rfl rfl ?_
  refine l_nil ?_
  refine g_cond_f rfl ?_
  refine g_skip ?_
  refine g_seq ?_
  refine g_region ?_
  refine l_move rfl rfl ?_
  refine l_nilCheck rfl rfl ?_
  refine l_fieldAddr rfl fa_55_1 rfl ?_
  refine l_ld rfl Tryd.isAgg52 rfl rfl ?_
  refine l_lenG (kval := kvP) rfl Tryd.underlying52 rfl (by first | exact mem_getO 0 rfl | exact mem_getO 1 rfl | exact mem_getO 2 rfl | exact mem_getO 3 rfl | exact mem_getO 4 rfl | exact mem_getO 5 rfl | exact mem_getO 6 rfl | exact mem_getO 7 rfl | exact mem_getO 8 rfl | exact mem_getO 9 rfl | exact mem_getO 10 rfl | exact mem_getO 11 rfl) ?_
  refine l_assign rfl rfl ?_
  refine l_nil ?_
  refine g_ret Tryd.func11 rfl (.tmp rfl .nil) ?_
  exact Gives.mki ⟨by rw [hS.len]; rfl, rfl⟩
end Go.Proofs.YtjfibfbknfeflaaDoor.Fw
