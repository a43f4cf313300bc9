import Derived.Test.YtjfibfbknfeflaaDoorDRows
namespace Go.Proofs.YtjfibfbknfeflaaDoor.Fw
open Go Go.Proofs
set_option linter.unusedVariables false
set_option linter.unusedSimpArgs false
set_option maxRecDepth 10000
theorem fa_89_1 (a : Addr) (w : World) : (Instr.fieldAt 89 (.pointer (some a)) 1).run Tryd.prog w = .ok (.pointer (some (a.add 1))) w := by
  simp [Instr.fieldAt, Tryd.runUnderlying89, Instr.sureAddr, fieldPlace, Tryd.sizeOf86, Sem.run_bind, Sem.run_pure]
theorem fa_92_1 (a : Addr) (w : World) : (Instr.fieldAt 92 (.pointer (some a)) 1).run Tryd.prog w = .ok (.pointer (some (a.add 1))) w := by
  simp [Instr.fieldAt, Tryd.runUnderlying92, Instr.sureAddr, fieldPlace, Tryd.sizeOf3, Sem.run_bind, Sem.run_pure]
theorem fa_89_0 (a : Addr) (w : World) : (Instr.fieldAt 89 (.pointer (some a)) 0).run Tryd.prog w = .ok (.pointer (some (a.add 0))) w := by
  simp [Instr.fieldAt, Tryd.runUnderlying89, Instr.sureAddr, fieldPlace, Tryd.sizeOf3, Sem.run_bind, Sem.run_pure]
theorem bd_92_0_1 (a0_0 : Int) (a1_0 : Int) (w : World) : (Instr.build 92 #[(0, .int .i64 a0_0), (1, .int .i64 a1_0)]).run Tryd.prog w = .ok (.agg #[.int .i64 a0_0, .int .i64 a1_0, .pointer none, .pointer none]) w := by kernel_rfl
theorem fa_92_0 (a : Addr) (w : World) : (Instr.fieldAt 92 (.pointer (some a)) 0).run Tryd.prog w = .ok (.pointer (some (a.add 0))) w := by
  simp [Instr.fieldAt, Tryd.runUnderlying92, Instr.sureAddr, fieldPlace, Tryd.sizeOf3, Sem.run_bind, Sem.run_pure]
theorem bd_89_0_1 (a0_0 : Int) (a1_0 : Option Nat) (w : World) : (Instr.build 89 #[(0, .int .i64 a0_0), (1, .map a1_0)]).run Tryd.prog w = .ok (.agg #[.int .i64 a0_0, .map a1_0, .pointer none, .pointer none]) w := by kernel_rfl
theorem fa_79_1 (a : Addr) (w : World) : (Instr.fieldAt 79 (.pointer (some a)) 1).run Tryd.prog w = .ok (.pointer (some (a.add 1))) w := by
  simp [Instr.fieldAt, Tryd.runUnderlying79, Instr.sureAddr, fieldPlace, Tryd.sizeOf76, Sem.run_bind, Sem.run_pure]
theorem fa_106_1 (a : Addr) (w : World) : (Instr.fieldAt 106 (.pointer (some a)) 1).run Tryd.prog w = .ok (.pointer (some (a.add 1))) w := by
  simp [Instr.fieldAt, Tryd.runUnderlying106, Instr.sureAddr, fieldPlace, Tryd.sizeOf9, Sem.run_bind, Sem.run_pure]
theorem fa_79_0 (a : Addr) (w : World) : (Instr.fieldAt 79 (.pointer (some a)) 0).run Tryd.prog w = .ok (.pointer (some (a.add 0))) w := by
  simp [Instr.fieldAt, Tryd.runUnderlying79, Instr.sureAddr, fieldPlace, Tryd.sizeOf3, Sem.run_bind, Sem.run_pure]
theorem bd_106_0_1 (a0_0 : Int) (a1_0 : ByteArray) (w : World) : (Instr.build 106 #[(0, .int .i64 a0_0), (1, .string a1_0)]).run Tryd.prog w = .ok (.agg #[.int .i64 a0_0, .string a1_0, .pointer none, .pointer none]) w := by kernel_rfl
theorem fa_106_0 (a : Addr) (w : World) : (Instr.fieldAt 106 (.pointer (some a)) 0).run Tryd.prog w = .ok (.pointer (some (a.add 0))) w := by
  simp [Instr.fieldAt, Tryd.runUnderlying106, Instr.sureAddr, fieldPlace, Tryd.sizeOf3, Sem.run_bind, Sem.run_pure]
theorem bd_79_0_1 (a0_0 : Int) (a1_0 : Option Nat) (w : World) : (Instr.build 79 #[(0, .int .i64 a0_0), (1, .map a1_0)]).run Tryd.prog w = .ok (.agg #[.int .i64 a0_0, .map a1_0, .pointer none, .pointer none]) w := by kernel_rfl
theorem peek_yes_ii (w0 : World) (F : List Atom) (sb m : Nat) (room : Int) (kv : List (Int × Value)) (l1 l2 : List Nd) (x : Nd) (hS : ShOk kv (l1 ++ x :: l2)) :
    CallK Tryd.prog 48 [.pointer (some ⟨sb, 0, none⟩), .int .i64 x.k] w0 (Blk sb (.cells [Value.int .i64 room, .map (some m), .pointer (fstP (l1 ++ x :: l2) none), .pointer (lstP (l1 ++ x :: l2) none)].toArray 89 (0, 0)) :: Seg 92 none (l1 ++ x :: l2) none :: MapI m kv :: F) (Gives w0 fun v F2 => v = .tuple #[x.v, .bool true] ∧ F2 = Blk sb (.cells [Value.int .i64 room, .map (some m), .pointer (fstP (l1 ++ x :: l2) none), .pointer (lstP (l1 ++ x :: l2) none)].toArray 89 (0, 0)) :: Seg 92 none (l1 ++ x :: l2) none :: MapI m kv :: F) := by
  refine c_enter Tryd.func48 rfl rfl rfl ?_
  refine g_seq ?_
  refine g_region ?_
  refine l_assign rfl rfl ?_
  refine l_assign rfl rfl ?_
  refine l_nil ?_
  refine g_seq ?_
  refine g_region ?_
  refine l_assign rfl rfl ?_
  refine l_nil ?_
  refine g_seq ?_
  refine g_seq ?_
  refine g_region ?_
  refine l_move rfl rfl ?_
  refine l_eqpn rfl Tryd.underlying59 rfl rfl ?_
  refine l_nil ?_
  refine g_cond_f rfl ?_
  refine g_skip ?_
  refine g_seq ?_
  refine g_region ?_
  refine l_move rfl rfl ?_
  refine l_nilCheck rfl rfl ?_
  refine l_fieldAddr rfl fa_89_1 rfl ?_
  refine l_ld rfl Tryd.isAgg86 rfl rfl ?_
  refine l_move rfl rfl ?_
  obtain ⟨i, hfi, hS2⟩ := hS.some
  refine l_look_yes (v := .pointer (some ⟨x.b, 0, none⟩)) hfi rfl Tryd.underlying86 Tryd.underlying3 Tryd.zeroValue87 rfl rfl (by first | exact mem_getO 0 rfl | exact mem_getO 1 rfl | exact mem_getO 2 rfl | exact mem_getO 3 rfl | exact mem_getO 4 rfl | exact mem_getO 5 rfl | exact mem_getO 6 rfl | exact mem_getO 7 rfl) ?_
  refine l_move rfl rfl ?_
  refine l_extract rfl rfl rfl ?_
  refine l_extract (v := .bool true) rfl rfl rfl ?_
  refine l_assign rfl rfl ?_
  refine l_assign rfl rfl ?_
  refine l_nil ?_
  refine g_seq ?_
  refine g_seq ?_
  refine g_region ?_
  refine l_move rfl rfl ?_
  refine l_not rfl rfl ?_
  refine l_nil ?_
  refine g_cond_f rfl ?_
  refine g_skip ?_
  refine g_seq ?_
  refine g_region ?_
  refine l_move rfl rfl ?_
  refine l_nilCheck rfl rfl ?_
  refine l_fieldAddr rfl fa_92_1 rfl ?_
  refine l_loadc (v := x.v) rfl Tryd.isAgg3 rfl (seg_cell (show Seg 92 none (l1 ++ x :: l2) none ∈ _ from (by first | exact mem_getO 0 rfl | exact mem_getO 1 rfl | exact mem_getO 2 rfl | exact mem_getO 3 rfl | exact mem_getO 4 rfl | exact mem_getO 5 rfl | exact mem_getO 6 rfl | exact mem_getO 7 rfl)) (o := 1) rfl) ?_
  refine l_assign rfl rfl ?_
  refine l_assign rfl rfl ?_
  refine l_nil ?_
  refine g_ret Tryd.func48 rfl (.tmp rfl (.tmp rfl .nil)) ?_
  exact Gives.mki ⟨rfl, rfl⟩
theorem peek_no_ii (w0 : World) (F : List Atom) (sb m : Nat) (room : Int) (kv : List (Int × Value)) (xs : List Nd) (hS : ShOk kv xs) (k : Int) (hk : ∀ x ∈ xs, x.k ≠ k) :
    CallK Tryd.prog 48 [.pointer (some ⟨sb, 0, none⟩), .int .i64 k] w0 (Blk sb (.cells [Value.int .i64 room, .map (some m), .pointer (fstP (xs) none), .pointer (lstP (xs) none)].toArray 89 (0, 0)) :: Seg 92 none (xs) none :: MapI m kv :: F) (Gives w0 fun v F2 => v = .tuple #[.int .i64 0, .bool false] ∧ F2 = Blk sb (.cells [Value.int .i64 room, .map (some m), .pointer (fstP (xs) none), .pointer (lstP (xs) none)].toArray 89 (0, 0)) :: Seg 92 none (xs) none :: MapI m kv :: F) := by
  refine c_enter Tryd.func48 rfl rfl rfl ?_
  refine g_seq ?_
  refine g_region ?_
  refine l_assign rfl rfl ?_
  refine l_assign rfl rfl ?_
  refine l_nil ?_
  refine g_seq ?_
  refine g_region ?_
  refine l_assign rfl rfl ?_
  refine l_nil ?_
  refine g_seq ?_
  refine g_seq ?_
  refine g_region ?_
  refine l_move rfl rfl ?_
  refine l_eqpn rfl Tryd.underlying59 rfl rfl ?_
  refine l_nil ?_
  refine g_cond_f rfl ?_
  refine g_skip ?_
  refine g_seq ?_
  refine g_region ?_
  refine l_move rfl rfl ?_
  refine l_nilCheck rfl rfl ?_
  refine l_fieldAddr rfl fa_89_1 rfl ?_
  refine l_ld rfl Tryd.isAgg86 rfl rfl ?_
  refine l_move rfl rfl ?_
  refine l_look_no (hS.none hk) rfl Tryd.underlying86 Tryd.underlying3 Tryd.zeroValue87 rfl rfl (by first | exact mem_getO 0 rfl | exact mem_getO 1 rfl | exact mem_getO 2 rfl | exact mem_getO 3 rfl | exact mem_getO 4 rfl | exact mem_getO 5 rfl | exact mem_getO 6 rfl | exact mem_getO 7 rfl) ?_
  refine l_move rfl rfl ?_
  refine l_extract rfl rfl rfl ?_
  refine l_extract (v := .bool false) rfl rfl rfl ?_
  refine l_assign rfl rfl ?_
  refine l_assign rfl rfl ?_
  refine l_nil ?_
  refine g_seq ?_
  refine g_seq ?_
  refine g_region ?_
  refine l_move rfl rfl ?_
  refine l_not rfl rfl ?_
  refine l_nil ?_
  refine g_cond_t rfl ?_
  refine g_seq ?_
  refine g_region ?_
  refine l_move rfl rfl ?_
  refine l_assign rfl rfl ?_
  refine l_assign rfl rfl ?_
  refine l_nil ?_
  refine g_ret Tryd.func48 rfl (.tmp rfl (.tmp rfl .nil)) ?_
  exact Gives.mki ⟨rfl, rfl⟩
theorem peek_nil_ii (w0 : World) (F : List Atom) (k : Int) :
    CallK Tryd.prog 48 [.pointer none, .int .i64 k] w0 (F) (Gives w0 fun v F2 => v = .tuple #[.int .i64 0, .bool false] ∧ F2 = F) := by
  refine c_enter Tryd.func48 rfl rfl rfl ?_
  refine g_seq ?_
  refine g_region ?_
  refine l_assign rfl rfl ?_
  refine l_assign rfl rfl ?_
  refine l_nil ?_
  refine g_seq ?_
  refine g_region ?_
  refine l_assign rfl rfl ?_
  refine l_nil ?_
  refine g_seq ?_
  refine g_seq ?_
  refine g_region ?_
  refine l_move rfl rfl ?_
  refine l_eqpn rfl Tryd.underlying59 rfl rfl ?_
  refine l_nil ?_
  refine g_cond_t rfl ?_
  refine g_seq ?_
  refine g_region ?_
  refine l_move rfl rfl ?_
  refine l_assign rfl rfl ?_
  refine l_assign rfl rfl ?_
  refine l_nil ?_
  refine g_ret Tryd.func48 rfl (.tmp rfl (.tmp rfl .nil)) ?_
  exact Gives.mki ⟨rfl, rfl⟩
theorem get_yes_ii (w0 : World) (F : List Atom) (sb m : Nat) (room : Int) (kv : List (Int × Value)) (l1 l2 : List Nd) (x : Nd) (hS : ShOk kv (l1 ++ x :: l2)) :
    CallK Tryd.prog 22 [.pointer (some ⟨sb, 0, none⟩), .int .i64 x.k] w0 (Blk sb (.cells [Value.int .i64 room, .map (some m), .pointer (fstP (l1 ++ x :: l2) none), .pointer (lstP (l1 ++ x :: l2) none)].toArray 89 (0, 0)) :: Seg 92 none (l1 ++ x :: l2) none :: MapI m kv :: F) (Gives w0 fun v F2 => v = .tuple #[x.v, .bool true] ∧ F2 = Blk sb (.cells [Value.int .i64 room, .map (some m), .pointer (fstP (l1 ++ l2 ++ [x]) none), .pointer (lstP (l1 ++ l2 ++ [x]) none)].toArray 89 (0, 0)) :: Seg 92 none (l1 ++ l2 ++ [x]) none :: MapI m kv :: F) := by
  refine c_enter Tryd.func22 rfl rfl rfl ?_
  refine g_seq ?_
  refine g_region ?_
  refine l_assign rfl rfl ?_
  refine l_assign rfl rfl ?_
  refine l_nil ?_
  refine g_seq ?_
  refine g_region ?_
  refine l_move rfl rfl ?_
  refine l_move rfl rfl ?_
  refine l_call rfl Tryd.call48 rfl (peek_yes_ii _ _ sb m room kv l1 l2 x hS) ?_; rintro _ _ ⟨rfl, rfl⟩
  refine l_move rfl rfl ?_
  refine l_extract rfl rfl rfl ?_
  refine l_extract (v := .bool true) rfl rfl rfl ?_
  refine l_assign rfl rfl ?_
  refine l_assign rfl rfl ?_
  refine l_nil ?_
  refine g_seq ?_
  refine g_seq ?_
  refine g_region ?_
  refine l_move rfl rfl ?_
  refine l_nil ?_
  refine g_cond_t rfl ?_
  refine g_seq ?_
  refine g_region ?_
  refine l_move rfl rfl ?_
  refine l_nilCheck rfl rfl ?_
  refine l_fieldAddr rfl fa_89_1 rfl ?_
  refine l_ld rfl Tryd.isAgg86 rfl rfl ?_
  refine l_move rfl rfl ?_
  obtain ⟨i, hfi, hS2⟩ := hS.some
  refine l_look1 (v := .pointer (some ⟨x.b, 0, none⟩)) hfi rfl Tryd.underlying86 Tryd.underlying3 Tryd.zeroValue87 rfl rfl (by first | exact mem_getO 0 rfl | exact mem_getO 1 rfl | exact mem_getO 2 rfl | exact mem_getO 3 rfl | exact mem_getO 4 rfl | exact mem_getO 5 rfl | exact mem_getO 6 rfl | exact mem_getO 7 rfl) ?_
  refine l_assign rfl rfl ?_
  refine l_nil ?_
  refine g_seq ?_
  refine g_region ?_
  refine l_move rfl rfl ?_
  refine l_move rfl rfl ?_
  refine l_call rfl Tryd.call45 rfl (unlink_ii _ _ sb m room l1 l2 x) ?_; rintro _ _ ⟨rfl, rfl⟩
  refine l_nil ?_
  refine g_region ?_
  refine l_move rfl rfl ?_
  refine l_move rfl rfl ?_
  refine l_call rfl Tryd.call46 rfl (append_ii _ _ sb m room (l1 ++ l2) x) ?_; rintro _ _ ⟨rfl, rfl⟩
  refine l_nil ?_
  refine g_seq ?_
  refine g_region ?_
  refine l_move rfl rfl ?_
  refine l_move rfl rfl ?_
  refine l_assign rfl rfl ?_
  refine l_assign rfl rfl ?_
  refine l_nil ?_
  refine g_ret Tryd.func22 rfl (.tmp rfl (.tmp rfl .nil)) ?_
  exact Gives.mki ⟨rfl, rfl⟩
theorem get_no_ii (w0 : World) (F : List Atom) (sb m : Nat) (room : Int) (kv : List (Int × Value)) (xs : List Nd) (hS : ShOk kv xs) (k : Int) (hk : ∀ x ∈ xs, x.k ≠ k) :
    CallK Tryd.prog 22 [.pointer (some ⟨sb, 0, none⟩), .int .i64 k] w0 (Blk sb (.cells [Value.int .i64 room, .map (some m), .pointer (fstP (xs) none), .pointer (lstP (xs) none)].toArray 89 (0, 0)) :: Seg 92 none (xs) none :: MapI m kv :: F) (Gives w0 fun v F2 => v = .tuple #[.int .i64 0, .bool false] ∧ F2 = Blk sb (.cells [Value.int .i64 room, .map (some m), .pointer (fstP (xs) none), .pointer (lstP (xs) none)].toArray 89 (0, 0)) :: Seg 92 none (xs) none :: MapI m kv :: F) := by
  refine c_enter Tryd.func22 rfl rfl rfl ?_
  refine g_seq ?_
  refine g_region ?_
  refine l_assign rfl rfl ?_
  refine l_assign rfl rfl ?_
  refine l_nil ?_
  refine g_seq ?_
  refine g_region ?_
  refine l_move rfl rfl ?_
  refine l_move rfl rfl ?_
  refine l_call rfl Tryd.call48 rfl (peek_no_ii _ _ sb m room kv xs hS k hk) ?_; rintro _ _ ⟨rfl, rfl⟩
  refine l_move rfl rfl ?_
  refine l_extract rfl rfl rfl ?_
  refine l_extract (v := .bool false) rfl rfl rfl ?_
  refine l_assign rfl rfl ?_
  refine l_assign rfl rfl ?_
  refine l_nil ?_
  refine g_seq ?_
  refine g_seq ?_
  refine g_region ?_
  refine l_move rfl rfl ?_
  refine l_nil ?_
  refine g_cond_f rfl ?_
  refine g_skip ?_
  refine g_seq ?_
  refine g_region ?_
  refine l_move rfl rfl ?_
  refine l_move rfl rfl ?_
  refine l_assign rfl rfl ?_
  refine l_assign rfl rfl ?_
  refine l_nil ?_
  refine g_ret Tryd.func22 rfl (.tmp rfl (.tmp rfl .nil)) ?_
  exact Gives.mki ⟨rfl, rfl⟩
theorem get_nil_ii (w0 : World) (F : List Atom) (k : Int) :
    CallK Tryd.prog 22 [.pointer none, .int .i64 k] w0 (F) (Gives w0 fun v F2 => v = .tuple #[.int .i64 0, .bool false] ∧ F2 = F) := by
  refine c_enter Tryd.func22 rfl rfl rfl ?_
  refine g_seq ?_
  refine g_region ?_
  refine l_assign rfl rfl ?_
  refine l_assign rfl rfl ?_
  refine l_nil ?_
  refine g_seq ?_
  refine g_region ?_
  refine l_move rfl rfl ?_
  refine l_move rfl rfl ?_
  refine l_call rfl Tryd.call48 rfl (peek_nil_ii _ _ k) ?_; rintro _ _ ⟨rfl, rfl⟩
  refine l_move rfl rfl ?_
  refine l_extract rfl rfl rfl ?_
  refine l_extract (v := .bool false) rfl rfl rfl ?_
  refine l_assign rfl rfl ?_
  refine l_assign rfl rfl ?_
  refine l_nil ?_
  refine g_seq ?_
  refine g_seq ?_
  refine g_region ?_
  refine l_move rfl rfl ?_
  refine l_nil ?_
  refine g_cond_f rfl ?_
  refine g_skip ?_
  refine g_seq ?_
  refine g_region ?_
  refine l_move rfl rfl ?_
  refine l_move rfl rfl ?_
  refine l_assign rfl rfl ?_
  refine l_assign rfl rfl ?_
  refine l_nil ?_
  refine g_ret Tryd.func22 rfl (.tmp rfl (.tmp rfl .nil)) ?_
  exact Gives.mki ⟨rfl, rfl⟩
theorem drop_yes_ii (w0 : World) (F : List Atom) (sb m : Nat) (room : Int) (kv : List (Int × Value)) (l1 l2 : List Nd) (x : Nd) (hS : ShOk kv (l1 ++ x :: l2)) :
    CallK Tryd.prog 47 [.pointer (some ⟨sb, 0, none⟩), .int .i64 x.k] w0 (Blk sb (.cells [Value.int .i64 room, .map (some m), .pointer (fstP (l1 ++ x :: l2) none), .pointer (lstP (l1 ++ x :: l2) none)].toArray 89 (0, 0)) :: Seg 92 none (l1 ++ x :: l2) none :: MapI m kv :: F) (Gives w0 fun v F2 => ∃ kv', v = .bool true ∧ ShOk kv' (l1 ++ l2) ∧ F2 = Blk sb (.cells [Value.int .i64 room, .map (some m), .pointer (fstP (l1 ++ l2) none), .pointer (lstP (l1 ++ l2) none)].toArray 89 (0, 0)) :: Seg 92 none (l1 ++ l2) none :: MapI m kv' :: F) := by
  refine c_enter Tryd.func47 rfl rfl rfl ?_
  refine g_seq ?_
  refine g_region ?_
  refine l_assign rfl rfl ?_
  refine l_nil ?_
  refine g_seq ?_
  refine g_seq ?_
  refine g_region ?_
  refine l_move rfl rfl ?_
  refine l_eqpn rfl Tryd.underlying59 rfl rfl ?_
  refine l_nil ?_
  refine g_cond_f rfl ?_
  refine g_skip ?_
  refine g_seq ?_
  refine g_region ?_
  refine l_move rfl rfl ?_
  refine l_nilCheck rfl rfl ?_
  refine l_fieldAddr rfl fa_89_1 rfl ?_
  refine l_ld rfl Tryd.isAgg86 rfl rfl ?_
  refine l_move rfl rfl ?_
  obtain ⟨i, hfi, hS2⟩ := hS.some
  refine l_look_yes (v := .pointer (some ⟨x.b, 0, none⟩)) hfi rfl Tryd.underlying86 Tryd.underlying3 Tryd.zeroValue87 rfl rfl (by first | exact mem_getO 0 rfl | exact mem_getO 1 rfl | exact mem_getO 2 rfl | exact mem_getO 3 rfl | exact mem_getO 4 rfl | exact mem_getO 5 rfl | exact mem_getO 6 rfl | exact mem_getO 7 rfl) ?_
  refine l_move rfl rfl ?_
  refine l_extract rfl rfl rfl ?_
  refine l_extract (v := .bool true) rfl rfl rfl ?_
  refine l_assign rfl rfl ?_
  refine l_assign rfl rfl ?_
  refine l_nil ?_
  refine g_seq ?_
  refine g_seq ?_
  refine g_region ?_
  refine l_move rfl rfl ?_
  refine l_nil ?_
  refine g_cond_t rfl ?_
  refine g_seq ?_
  refine g_region ?_
  refine l_move rfl rfl ?_
  refine l_move rfl rfl ?_
  refine l_call rfl Tryd.call45 rfl (unlink_ii _ _ sb m room l1 l2 x) ?_; rintro _ _ ⟨rfl, rfl⟩
  refine l_nil ?_
  refine g_region ?_
  refine l_move rfl rfl ?_
  refine l_nilCheck rfl rfl ?_
  refine l_fieldAddr rfl fa_89_1 rfl ?_
  refine l_ld rfl Tryd.isAgg86 rfl rfl ?_
  refine l_move rfl rfl ?_
  refine gl_heap (F' := MapI m kv :: Blk sb (.cells [Value.int .i64 room, .map (some m), .pointer (fstP (l1 ++ l2) none), .pointer (lstP (l1 ++ l2) none)].toArray 89 (0, 0)) :: Seg 92 none (l1 ++ l2) none :: F) (fun w hw => SPI.holds hw) ?_
  refine l_mapDel hfi Tryd.underlying86 Tryd.underlying3 rfl rfl ?_
  refine l_nil ?_
  refine g_seq ?_
  refine g_region ?_
  refine l_move rfl rfl ?_
  refine l_assign rfl rfl ?_
  refine l_nil ?_
  refine g_ret Tryd.func47 rfl (.tmp rfl .nil) ?_
  exact Gives.mki ⟨_, rfl, hS2, rfl⟩
theorem drop_no_ii (w0 : World) (F : List Atom) (sb m : Nat) (room : Int) (kv : List (Int × Value)) (xs : List Nd) (hS : ShOk kv xs) (k : Int) (hk : ∀ x ∈ xs, x.k ≠ k) :
    CallK Tryd.prog 47 [.pointer (some ⟨sb, 0, none⟩), .int .i64 k] w0 (Blk sb (.cells [Value.int .i64 room, .map (some m), .pointer (fstP (xs) none), .pointer (lstP (xs) none)].toArray 89 (0, 0)) :: Seg 92 none (xs) none :: MapI m kv :: F) (Gives w0 fun v F2 => v = .bool false ∧ F2 = Blk sb (.cells [Value.int .i64 room, .map (some m), .pointer (fstP (xs) none), .pointer (lstP (xs) none)].toArray 89 (0, 0)) :: Seg 92 none (xs) none :: MapI m kv :: F) := by
  refine c_enter Tryd.func47 rfl rfl rfl ?_
  refine g_seq ?_
  refine g_region ?_
  refine l_assign rfl rfl ?_
  refine l_nil ?_
  refine g_seq ?_
  refine g_seq ?_
  refine g_region ?_
  refine l_move rfl rfl ?_
  refine l_eqpn rfl Tryd.underlying59 rfl rfl ?_
  refine l_nil ?_
  refine g_cond_f rfl ?_
  refine g_skip ?_
  refine g_seq ?_
  refine g_region ?_
  refine l_move rfl rfl ?_
  refine l_nilCheck rfl rfl ?_
  refine l_fieldAddr rfl fa_89_1 rfl ?_
  refine l_ld rfl Tryd.isAgg86 rfl rfl ?_
  refine l_move rfl rfl ?_
  refine l_look_no (hS.none hk) rfl Tryd.underlying86 Tryd.underlying3 Tryd.zeroValue87 rfl rfl (by first | exact mem_getO 0 rfl | exact mem_getO 1 rfl | exact mem_getO 2 rfl | exact mem_getO 3 rfl | exact mem_getO 4 rfl | exact mem_getO 5 rfl | exact mem_getO 6 rfl | exact mem_getO 7 rfl) ?_
  refine l_move rfl rfl ?_
  refine l_extract rfl rfl rfl ?_
  refine l_extract (v := .bool false) rfl rfl rfl ?_
  refine l_assign rfl rfl ?_
  refine l_assign rfl rfl ?_
  refine l_nil ?_
  refine g_seq ?_
  refine g_seq ?_
  refine g_region ?_
  refine l_move rfl rfl ?_
  refine l_nil ?_
  refine g_cond_f rfl ?_
  refine g_skip ?_
  refine g_seq ?_
  refine g_region ?_
  refine l_move rfl rfl ?_
  refine l_assign rfl rfl ?_
  refine l_nil ?_
  refine g_ret Tryd.func47 rfl (.tmp rfl .nil) ?_
  exact Gives.mki ⟨rfl, rfl⟩
theorem drop_nil_ii (w0 : World) (F : List Atom) (k : Int) :
    CallK Tryd.prog 47 [.pointer none, .int .i64 k] w0 (F) (Gives w0 fun v F2 => v = .bool false ∧ F2 = F) := by
  refine c_enter Tryd.func47 rfl rfl rfl ?_
  refine g_seq ?_
  refine g_region ?_
  refine l_assign rfl rfl ?_
  refine l_nil ?_
  refine g_seq ?_
  refine g_seq ?_
  refine g_region ?_
  refine l_move rfl rfl ?_
  refine l_eqpn rfl Tryd.underlying59 rfl rfl ?_
  refine l_nil ?_
  refine g_cond_t rfl ?_
  refine g_seq ?_
  refine g_region ?_
  refine l_assign rfl rfl ?_
  refine l_nil ?_
  refine g_ret Tryd.func47 rfl (.tmp rfl .nil) ?_
  exact Gives.mki ⟨rfl, rfl⟩
theorem put_yes_ii (w0 : World) (F : List Atom) (sb m : Nat) (room : Int) (kv : List (Int × Value)) (l1 l2 : List Nd) (xb : Nat) (k : Int) (v0 : Int) (v1 : Int) (hS : ShOk kv (l1 ++ (Nd.mk xb k (.int .i64 v0)) :: l2)) :
    CallK Tryd.prog 21 [.pointer (some ⟨sb, 0, none⟩), .int .i64 k, .int .i64 v1] w0 (Blk sb (.cells [Value.int .i64 room, .map (some m), .pointer (fstP (l1 ++ (Nd.mk xb k (.int .i64 v0)) :: l2) none), .pointer (lstP (l1 ++ (Nd.mk xb k (.int .i64 v0)) :: l2) none)].toArray 89 (0, 0)) :: Seg 92 none (l1 ++ (Nd.mk xb k (.int .i64 v0)) :: l2) none :: MapI m kv :: F) (Gives w0 fun v F2 => v = .tuple #[.int .i64 0, .bool false] ∧ F2 = Blk sb (.cells [Value.int .i64 room, .map (some m), .pointer (fstP (l1 ++ l2 ++ [(Nd.mk xb k (.int .i64 v1))]) none), .pointer (lstP (l1 ++ l2 ++ [(Nd.mk xb k (.int .i64 v1))]) none)].toArray 89 (0, 0)) :: Seg 92 none (l1 ++ l2 ++ [(Nd.mk xb k (.int .i64 v1))]) none :: MapI m kv :: F) := by
  refine c_enter Tryd.func21 rfl rfl rfl ?_
  refine g_seq ?_
  refine g_region ?_
  refine l_assign rfl rfl ?_
  refine l_assign rfl rfl ?_
  refine l_nil ?_
  refine g_seq ?_
  refine g_region ?_
  refine l_assign rfl rfl ?_
  refine l_nil ?_
  refine g_seq ?_
  refine g_seq ?_
  refine g_region ?_
  refine l_move rfl rfl ?_
  refine l_eqpn rfl Tryd.underlying59 rfl rfl ?_
  refine l_nil ?_
  refine g_cond_f rfl ?_
  refine g_skip ?_
  refine g_seq ?_
  refine g_seq ?_
  refine g_region ?_
  refine l_move rfl rfl ?_
  refine l_nilCheck rfl rfl ?_
  refine l_fieldAddr rfl fa_89_1 rfl ?_
  refine l_ld rfl Tryd.isAgg86 rfl rfl ?_
  refine l_move rfl rfl ?_
  obtain ⟨i, hfi, _⟩ := hS.some
  refine l_look_yes (v := .pointer (some ⟨xb, 0, none⟩)) hfi rfl Tryd.underlying86 Tryd.underlying3 Tryd.zeroValue87 rfl rfl (by first | exact mem_getO 0 rfl | exact mem_getO 1 rfl | exact mem_getO 2 rfl | exact mem_getO 3 rfl | exact mem_getO 4 rfl | exact mem_getO 5 rfl | exact mem_getO 6 rfl | exact mem_getO 7 rfl) ?_
  refine l_move rfl rfl ?_
  refine l_extract rfl rfl rfl ?_
  refine l_extract (v := .bool true) rfl rfl rfl ?_
  refine l_assign rfl rfl ?_
  refine l_assign rfl rfl ?_
  refine l_nil ?_
  refine g_seq ?_
  refine g_region ?_
  refine l_move rfl rfl ?_
  refine l_nil ?_
  refine g_cond_t rfl ?_
  refine g_seq ?_
  refine g_region ?_
  have e1 : fstP (l1 ++ (Nd.mk xb k (.int .i64 v0)) :: l2) none = fstP (l1 ++ (Nd.mk xb k (.int .i64 v1)) :: l2) none := by rw [fstP_app, fstP_app]; rfl
  have e2 : lstP (l1 ++ (Nd.mk xb k (.int .i64 v0)) :: l2) none = lstP (l1 ++ (Nd.mk xb k (.int .i64 v1)) :: l2) none := by rw [lstP_app, lstP_app]; rfl
  rw [e1, e2]
  refine gl_heap (F' := Seg 92 none l1 (Nd.p (Nd.mk xb k (.int .i64 v1))) :: Blk xb (.cells [Value.int .i64 k, .int .i64 v0, .pointer (lstP l1 none), .pointer (fstP l2 none)].toArray 92 (0, 0)) :: Seg 92 (Nd.p (Nd.mk xb k (.int .i64 v1))) l2 none :: Blk sb (.cells [Value.int .i64 room, .map (some m), .pointer (fstP (l1 ++ (Nd.mk xb k (.int .i64 v1)) :: l2) none), .pointer (lstP (l1 ++ (Nd.mk xb k (.int .i64 v1)) :: l2) none)].toArray 89 (0, 0)) :: MapI m kv :: F) (fun w hw => seg_at (hw.perm (List.Perm.swap ..))) ?_
  refine l_move rfl rfl ?_
  refine l_move rfl rfl ?_
  refine l_nilCheck rfl rfl ?_
  refine l_fieldAddr rfl fa_92_1 rfl ?_
  first | refine l_st Tryd.sizeOf3 rfl rfl rfl rfl ?_ | refine l_stw Tryd.sizeOf3 rfl rfl (by omega) ?_
  refine l_nil ?_
  refine g_seq ?_
  refine g_region ?_
  refine gl_heap (F' := Blk sb (.cells [Value.int .i64 room, .map (some m), .pointer (fstP (l1 ++ (Nd.mk xb k (.int .i64 v1)) :: l2) none), .pointer (lstP (l1 ++ (Nd.mk xb k (.int .i64 v1)) :: l2) none)].toArray 89 (0, 0)) :: Seg 92 none (l1 ++ (Nd.mk xb k (.int .i64 v1)) :: l2) none :: MapI m kv :: F) (fun w hw => (seg_to (x := (Nd.mk xb k (.int .i64 v1))) rfl rfl hw).perm (List.Perm.swap ..)) ?_
  refine l_move rfl rfl ?_
  refine l_move rfl rfl ?_
  refine l_call rfl Tryd.call45 rfl (unlink_ii _ _ sb m room l1 l2 (Nd.mk xb k (.int .i64 v1))) ?_; rintro _ _ ⟨rfl, rfl⟩
  refine l_nil ?_
  refine g_seq ?_
  refine g_region ?_
  refine l_move rfl rfl ?_
  refine l_move rfl rfl ?_
  refine l_call rfl Tryd.call46 rfl (append_ii _ _ sb m room (l1 ++ l2) (Nd.mk xb k (.int .i64 v1))) ?_; rintro _ _ ⟨rfl, rfl⟩
  refine l_nil ?_
  refine g_seq ?_
  refine g_region ?_
  refine l_move rfl rfl ?_
  refine l_assign rfl rfl ?_
  refine l_assign rfl rfl ?_
  refine l_nil ?_
  refine g_ret Tryd.func21 rfl (.tmp rfl (.tmp rfl .nil)) ?_
  exact Gives.mki ⟨rfl, rfl⟩
theorem put_new_ii (w0 : World) (F : List Atom) (sb m : Nat) (room : Int) (kv : List (Int × Value)) (xs : List Nd) (k : Int) (v1 : Int) (hS : ShOk kv xs) (hk : ∀ x ∈ xs, x.k ≠ k) (hr : (xs.length : Int) ≠ room) :
    CallK Tryd.prog 21 [.pointer (some ⟨sb, 0, none⟩), .int .i64 k, .int .i64 v1] w0 (Blk sb (.cells [Value.int .i64 room, .map (some m), .pointer (fstP (xs) none), .pointer (lstP (xs) none)].toArray 89 (0, 0)) :: Seg 92 none (xs) none :: MapI m kv :: F) (Gives w0 fun v F2 => ∃ b kv', v = .tuple #[.int .i64 0, .bool false] ∧ ShOk kv' (xs ++ [Nd.mk b k (.int .i64 v1)]) ∧ F2 = Blk sb (.cells [Value.int .i64 room, .map (some m), .pointer (fstP (xs ++ [Nd.mk b k (.int .i64 v1)]) none), .pointer (lstP (xs ++ [Nd.mk b k (.int .i64 v1)]) none)].toArray 89 (0, 0)) :: Seg 92 none (xs ++ [Nd.mk b k (.int .i64 v1)]) none :: MapI m kv' :: F) := by
  have hlen := hS.len
  refine c_enter Tryd.func21 rfl rfl rfl ?_
  refine g_seq ?_
  refine g_region ?_
  refine l_assign rfl rfl ?_
  refine l_assign rfl rfl ?_
  refine l_nil ?_
  refine g_seq ?_
  refine g_region ?_
  refine l_assign rfl rfl ?_
  refine l_nil ?_
  refine g_seq ?_
  refine g_seq ?_
  refine g_region ?_
  refine l_move rfl rfl ?_
  refine l_eqpn rfl Tryd.underlying59 rfl rfl ?_
  refine l_nil ?_
  refine g_cond_f rfl ?_
  refine g_skip ?_
  refine g_seq ?_
  refine g_seq ?_
  refine g_region ?_
  refine l_move rfl rfl ?_
  refine l_nilCheck rfl rfl ?_
  refine l_fieldAddr rfl fa_89_1 rfl ?_
  refine l_ld rfl Tryd.isAgg86 rfl rfl ?_
  refine l_move rfl rfl ?_
  refine l_look_no (hS.none hk) rfl Tryd.underlying86 Tryd.underlying3 Tryd.zeroValue87 rfl rfl (by first | exact mem_getO 0 rfl | exact mem_getO 1 rfl | exact mem_getO 2 rfl | exact mem_getO 3 rfl | exact mem_getO 4 rfl | exact mem_getO 5 rfl | exact mem_getO 6 rfl | exact mem_getO 7 rfl) ?_
  refine l_move rfl rfl ?_
  refine l_extract rfl rfl rfl ?_
  refine l_extract (v := .bool false) rfl rfl rfl ?_
  refine l_assign rfl rfl ?_
  refine l_assign rfl rfl ?_
  refine l_nil ?_
  refine g_seq ?_
  refine g_region ?_
  refine l_move rfl rfl ?_
  refine l_nil ?_
  refine g_cond_f rfl ?_
  refine g_skip ?_
  refine g_seq ?_
  refine gp_start mo (by kernel_rfl) (by kernel_rfl) ?_
  refine gp_quiet 0 rfl rfl rfl rfl rfl rfl (q_move rfl) ?_
  refine gp_quiet 1 rfl rfl rfl rfl rfl rfl (q_move rfl) ?_
  refine gp_quiet 2 rfl rfl rfl rfl rfl rfl (q_nilCheck rfl) ?_
  refine gp_quiet 3 rfl rfl rfl rfl rfl rfl (q_fieldAddr fa_89_1 rfl) ?_
  refine gp_quiet 4 rfl rfl rfl rfl rfl rfl (q_ld Tryd.isAgg86 rfl rfl) ?_
  refine gp_quiet 5 rfl rfl rfl rfl rfl rfl (q_lenm Tryd.underlying86 rfl (by first | exact mem_getO 0 rfl | exact mem_getO 1 rfl | exact mem_getO 2 rfl | exact mem_getO 3 rfl | exact mem_getO 4 rfl | exact mem_getO 5 rfl | exact mem_getO 6 rfl | exact mem_getO 7 rfl)) ?_
  refine gp_quiet 6 rfl rfl rfl rfl rfl rfl (q_move rfl) ?_
  refine gp_quiet 7 rfl rfl rfl rfl rfl rfl (q_nilCheck rfl) ?_
  refine gp_quiet 8 rfl rfl rfl rfl rfl rfl (q_fieldAddr fa_89_0 rfl) ?_
  first | refine gp_quiet 9 rfl rfl rfl rfl rfl rfl (q_ld Tryd.isAgg3 rfl rfl) ?_ | refine gp_quiet 9 rfl rfl rfl rfl rfl rfl (q_ldw Tryd.isAgg3 rfl (by omega)) ?_
  refine gp_quiet 10 rfl rfl rfl rfl rfl rfl (q_eql rfl rfl) ?_
  refine gp_quiet 11 rfl rfl rfl rfl rfl rfl (q_assign rfl) ?_
  refine gp_quiet 12 rfl rfl rfl rfl rfl rfl (q_assign rfl) ?_
  refine gp_end rfl rfl ?_
  refine g_seq ?_
  refine g_seq ?_
  refine g_region ?_
  refine l_move rfl rfl ?_
  refine l_nil ?_
  refine g_cond rfl ?_ ?_
  · intro hbr
    have hbr := of_decide_eq_true hbr
    (exfalso; omega)
  intro hbr
  have hbr := of_decide_eq_false hbr
  refine g_skip ?_
  refine g_seq ?_
  refine g_region ?_
  refine l_move rfl rfl ?_
  refine l_move rfl rfl ?_
  refine l_build rfl rfl (fun w => bd_92_0_1 _ _ w) ?_
  refine l_boxs rfl rfl ?_; intro b63
  refine l_assign rfl rfl ?_
  refine l_nil ?_
  refine g_seq ?_
  refine g_region ?_
  refine l_move rfl rfl ?_
  refine l_nilCheck rfl rfl ?_
  refine l_fieldAddr rfl fa_89_1 rfl ?_
  refine l_ld rfl Tryd.isAgg86 rfl rfl ?_
  refine l_move rfl rfl ?_
  refine l_move rfl rfl ?_
  refine gl_heap (F' := MapI m kv :: Blk b63 (.cells [Value.int .i64 k, .int .i64 v1, .pointer none, .pointer none].toArray 92 (0, 0)) :: Blk sb (.cells [Value.int .i64 room, .map (some m), .pointer (fstP (xs) none), .pointer (lstP (xs) none)].toArray 89 (0, 0)) :: Seg 92 none (xs) none :: F) (fun w hw => SPI.holds hw) ?_
  refine l_mapNew (hS.none hk) Tryd.underlying86 Tryd.underlying3 rfl rfl rfl ?_
  refine l_nil ?_
  refine g_seq ?_
  refine g_region ?_
  refine gl_heap (F' := Blk sb (.cells [Value.int .i64 room, .map (some m), .pointer (fstP (xs) none), .pointer (lstP (xs) none)].toArray 89 (0, 0)) :: Seg 92 none (xs) none :: Blk (Nd.mk b63 k (.int .i64 v1)).b (.cells (ndC (Nd.mk b63 k (.int .i64 v1)) none none).toArray 92 (0, 0)) :: MapI m (kv ++ [(k, Value.pointer (some ⟨b63, 0, none⟩))]) :: F) (fun w hw => (SPI.holds hw : Holds w0 (Blk sb (.cells [Value.int .i64 room, .map (some m), .pointer (fstP (xs) none), .pointer (lstP (xs) none)].toArray 89 (0, 0)) :: Seg 92 none (xs) none :: Blk b63 (.cells [Value.int .i64 k, .int .i64 v1, .pointer none, .pointer none].toArray 92 (0, 0)) :: MapI m (kv ++ [(k, Value.pointer (some ⟨b63, 0, none⟩))]) :: F) w)) ?_
  refine l_move rfl rfl ?_
  refine l_move rfl rfl ?_
  refine l_call rfl Tryd.call46 rfl (append_ii _ _ sb m room xs (Nd.mk b63 k (.int .i64 v1))) ?_; rintro _ _ ⟨rfl, rfl⟩
  refine l_nil ?_
  refine g_seq ?_
  refine g_region ?_
  refine l_move rfl rfl ?_
  refine l_move rfl rfl ?_
  refine l_assign rfl rfl ?_
  refine l_assign rfl rfl ?_
  refine l_nil ?_
  refine g_ret Tryd.func21 rfl (.tmp rfl (.tmp rfl .nil)) ?_
  exact Gives.mki ⟨b63, kv ++ [(k, Value.pointer (some ⟨b63, 0, none⟩))], by rw [decide_eq_false (show ¬ (kv.length : Int) = room by omega)]; rfl, hS.snoc (x := (Nd.mk b63 k (.int .i64 v1))) hk, rfl⟩
theorem put_full_ii (w0 : World) (F : List Atom) (sb m : Nat) (room : Int) (kv : List (Int × Value)) (x0 : Nd) (xs : List Nd) (k : Int) (v1 : Int) (hS : ShOk kv (x0 :: xs)) (hk : ∀ x ∈ x0 :: xs, x.k ≠ k) (hr : ((x0 :: xs).length : Int) = room) :
    CallK Tryd.prog 21 [.pointer (some ⟨sb, 0, none⟩), .int .i64 k, .int .i64 v1] w0 (Blk sb (.cells [Value.int .i64 room, .map (some m), .pointer (fstP (x0 :: xs) none), .pointer (lstP (x0 :: xs) none)].toArray 89 (0, 0)) :: Seg 92 none (x0 :: xs) none :: MapI m kv :: F) (Gives w0 fun v F2 => ∃ b kv', v = .tuple #[.int .i64 x0.k, .bool true] ∧ ShOk kv' (xs ++ [Nd.mk b k (.int .i64 v1)]) ∧ F2 = Blk sb (.cells [Value.int .i64 room, .map (some m), .pointer (fstP (xs ++ [Nd.mk b k (.int .i64 v1)]) none), .pointer (lstP (xs ++ [Nd.mk b k (.int .i64 v1)]) none)].toArray 89 (0, 0)) :: Seg 92 none (xs ++ [Nd.mk b k (.int .i64 v1)]) none :: MapI m kv' :: F) := by
  have hlen := hS.len
  have hk2 : ∀ x ∈ xs, x.k ≠ k := fun x hx => hk x (List.mem_cons_of_mem _ hx)
  refine c_enter Tryd.func21 rfl rfl rfl ?_
  refine g_seq ?_
  refine g_region ?_
  refine l_assign rfl rfl ?_
  refine l_assign rfl rfl ?_
  refine l_nil ?_
  refine g_seq ?_
  refine g_region ?_
  refine l_assign rfl rfl ?_
  refine l_nil ?_
  refine g_seq ?_
  refine g_seq ?_
  refine g_region ?_
  refine l_move rfl rfl ?_
  refine l_eqpn rfl Tryd.underlying59 rfl rfl ?_
  refine l_nil ?_
  refine g_cond_f rfl ?_
  refine g_skip ?_
  refine g_seq ?_
  refine g_seq ?_
  refine g_region ?_
  refine l_move rfl rfl ?_
  refine l_nilCheck rfl rfl ?_
  refine l_fieldAddr rfl fa_89_1 rfl ?_
  refine l_ld rfl Tryd.isAgg86 rfl rfl ?_
  refine l_move rfl rfl ?_
  refine l_look_no (hS.none hk) rfl Tryd.underlying86 Tryd.underlying3 Tryd.zeroValue87 rfl rfl (by first | exact mem_getO 0 rfl | exact mem_getO 1 rfl | exact mem_getO 2 rfl | exact mem_getO 3 rfl | exact mem_getO 4 rfl | exact mem_getO 5 rfl | exact mem_getO 6 rfl | exact mem_getO 7 rfl) ?_
  refine l_move rfl rfl ?_
  refine l_extract rfl rfl rfl ?_
  refine l_extract (v := .bool false) rfl rfl rfl ?_
  refine l_assign rfl rfl ?_
  refine l_assign rfl rfl ?_
  refine l_nil ?_
  refine g_seq ?_
  refine g_region ?_
  refine l_move rfl rfl ?_
  refine l_nil ?_
  refine g_cond_f rfl ?_
  refine g_skip ?_
  refine g_seq ?_
  refine gp_start mo (by kernel_rfl) (by kernel_rfl) ?_
  refine gp_quiet 0 rfl rfl rfl rfl rfl rfl (q_move rfl) ?_
  refine gp_quiet 1 rfl rfl rfl rfl rfl rfl (q_move rfl) ?_
  refine gp_quiet 2 rfl rfl rfl rfl rfl rfl (q_nilCheck rfl) ?_
  refine gp_quiet 3 rfl rfl rfl rfl rfl rfl (q_fieldAddr fa_89_1 rfl) ?_
  refine gp_quiet 4 rfl rfl rfl rfl rfl rfl (q_ld Tryd.isAgg86 rfl rfl) ?_
  refine gp_quiet 5 rfl rfl rfl rfl rfl rfl (q_lenm Tryd.underlying86 rfl (by first | exact mem_getO 0 rfl | exact mem_getO 1 rfl | exact mem_getO 2 rfl | exact mem_getO 3 rfl | exact mem_getO 4 rfl | exact mem_getO 5 rfl | exact mem_getO 6 rfl | exact mem_getO 7 rfl)) ?_
  refine gp_quiet 6 rfl rfl rfl rfl rfl rfl (q_move rfl) ?_
  refine gp_quiet 7 rfl rfl rfl rfl rfl rfl (q_nilCheck rfl) ?_
  refine gp_quiet 8 rfl rfl rfl rfl rfl rfl (q_fieldAddr fa_89_0 rfl) ?_
  first | refine gp_quiet 9 rfl rfl rfl rfl rfl rfl (q_ld Tryd.isAgg3 rfl rfl) ?_ | refine gp_quiet 9 rfl rfl rfl rfl rfl rfl (q_ldw Tryd.isAgg3 rfl (by omega)) ?_
  refine gp_quiet 10 rfl rfl rfl rfl rfl rfl (q_eql rfl rfl) ?_
  refine gp_quiet 11 rfl rfl rfl rfl rfl rfl (q_assign rfl) ?_
  refine gp_quiet 12 rfl rfl rfl rfl rfl rfl (q_assign rfl) ?_
  refine gp_end rfl rfl ?_
  refine g_seq ?_
  refine g_seq ?_
  refine g_region ?_
  refine l_move rfl rfl ?_
  refine l_nil ?_
  refine g_cond rfl ?_ ?_
  · intro hbr
    have hbr := of_decide_eq_true hbr
    refine g_seq ?_
    refine g_region ?_
    refine l_move rfl rfl ?_
    refine l_nilCheck rfl rfl ?_
    refine l_fieldAddr rfl fa_89_2 rfl ?_
    refine l_ld rfl Tryd.isAgg87 rfl rfl ?_
    refine l_nilCheck rfl rfl ?_
    refine l_fieldAddr rfl fa_92_0 rfl ?_
    refine l_loadc (v := .int .i64 x0.k) rfl Tryd.isAgg3 rfl (seg_cell (l1 := []) (l2 := xs) (x := x0) (show Seg 92 none (x0 :: xs) none ∈ _ from (by first | exact mem_getO 0 rfl | exact mem_getO 1 rfl | exact mem_getO 2 rfl | exact mem_getO 3 rfl | exact mem_getO 4 rfl | exact mem_getO 5 rfl | exact mem_getO 6 rfl | exact mem_getO 7 rfl)) (o := 0) rfl) ?_
    refine l_assign rfl rfl ?_
    refine l_nil ?_
    refine g_region ?_
    refine l_move rfl rfl ?_
    refine l_move rfl rfl ?_
    refine l_call rfl Tryd.call47 rfl (drop_yes_ii _ _ sb m room kv [] xs x0 hS) ?_; rintro _ _ ⟨kv2, rfl, hS2, rfl⟩
    rw [List.nil_append] at hS2 ⊢
    refine l_nil ?_
    refine g_seq ?_
    refine g_region ?_
    refine l_move rfl rfl ?_
    refine l_move rfl rfl ?_
    refine l_build rfl rfl (fun w => bd_92_0_1 _ _ w) ?_
    refine l_boxs rfl rfl ?_; intro b63
    refine l_assign rfl rfl ?_
    refine l_nil ?_
    refine g_seq ?_
    refine g_region ?_
    refine l_move rfl rfl ?_
    refine l_nilCheck rfl rfl ?_
    refine l_fieldAddr rfl fa_89_1 rfl ?_
    refine l_ld rfl Tryd.isAgg86 rfl rfl ?_
    refine l_move rfl rfl ?_
    refine l_move rfl rfl ?_
    refine gl_heap (F' := MapI m kv2 :: Blk b63 (.cells [Value.int .i64 k, .int .i64 v1, .pointer none, .pointer none].toArray 92 (0, 0)) :: Blk sb (.cells [Value.int .i64 room, .map (some m), .pointer (fstP (xs) none), .pointer (lstP (xs) none)].toArray 89 (0, 0)) :: Seg 92 none (xs) none :: F) (fun w hw => SPI.holds hw) ?_
    refine l_mapNew (hS2.none hk2) Tryd.underlying86 Tryd.underlying3 rfl rfl rfl ?_
    refine l_nil ?_
    refine g_seq ?_
    refine g_region ?_
    refine gl_heap (F' := Blk sb (.cells [Value.int .i64 room, .map (some m), .pointer (fstP (xs) none), .pointer (lstP (xs) none)].toArray 89 (0, 0)) :: Seg 92 none (xs) none :: Blk (Nd.mk b63 k (.int .i64 v1)).b (.cells (ndC (Nd.mk b63 k (.int .i64 v1)) none none).toArray 92 (0, 0)) :: MapI m (kv2 ++ [(k, Value.pointer (some ⟨b63, 0, none⟩))]) :: F) (fun w hw => (SPI.holds hw : Holds w0 (Blk sb (.cells [Value.int .i64 room, .map (some m), .pointer (fstP (xs) none), .pointer (lstP (xs) none)].toArray 89 (0, 0)) :: Seg 92 none (xs) none :: Blk b63 (.cells [Value.int .i64 k, .int .i64 v1, .pointer none, .pointer none].toArray 92 (0, 0)) :: MapI m (kv2 ++ [(k, Value.pointer (some ⟨b63, 0, none⟩))]) :: F) w)) ?_
    refine l_move rfl rfl ?_
    refine l_move rfl rfl ?_
    refine l_call rfl Tryd.call46 rfl (append_ii _ _ sb m room xs (Nd.mk b63 k (.int .i64 v1))) ?_; rintro _ _ ⟨rfl, rfl⟩
    refine l_nil ?_
    refine g_seq ?_
    refine g_region ?_
    refine l_move rfl rfl ?_
    refine l_move rfl rfl ?_
    refine l_assign rfl rfl ?_
    refine l_assign rfl rfl ?_
    refine l_nil ?_
    refine g_ret Tryd.func21 rfl (.tmp rfl (.tmp rfl .nil)) ?_
    exact Gives.mki ⟨b63, kv2 ++ [(k, Value.pointer (some ⟨b63, 0, none⟩))], by rw [decide_eq_true (show (kv.length : Int) = room by omega)]; rfl, hS2.snoc (x := (Nd.mk b63 k (.int .i64 v1))) hk2, rfl⟩
  · intro hbr
    have hbr := of_decide_eq_false hbr
    (exfalso; omega)
theorem put_nil_ii (w0 : World) (F : List Atom) (k : Int) (v1 : Int) :
    CallK Tryd.prog 21 [.pointer none, .int .i64 k, .int .i64 v1] w0 (F) (Gives w0 fun v F2 => v = .tuple #[.int .i64 0, .bool false] ∧ F2 = F) := by
  refine c_enter Tryd.func21 rfl rfl rfl ?_
  refine g_seq ?_
  refine g_region ?_
  refine l_assign rfl rfl ?_
  refine l_assign rfl rfl ?_
  refine l_nil ?_
  refine g_seq ?_
  refine g_region ?_
  refine l_assign rfl rfl ?_
  refine l_nil ?_
  refine g_seq ?_
  refine g_seq ?_
  refine g_region ?_
  refine l_move rfl rfl ?_
  refine l_eqpn rfl Tryd.underlying59 rfl rfl ?_
  refine l_nil ?_
  refine g_cond_t rfl ?_
  refine g_seq ?_
  refine g_region ?_
  refine l_move rfl rfl ?_
  refine l_assign rfl rfl ?_
  refine l_assign rfl rfl ?_
  refine l_nil ?_
  refine g_ret Tryd.func21 rfl (.tmp rfl (.tmp rfl .nil)) ?_
  exact Gives.mki ⟨rfl, rfl⟩
theorem new_ii (w0 : World) (F : List Atom) (room : Int) (r1 : 1 ≤ room) (r2 : room ≤ 4096) :
    CallK Tryd.prog 20 [.int .i64 room] w0 (F) (Gives w0 fun v F2 => ∃ sb m, v = .tuple #[.pointer (some ⟨sb, 0, none⟩), .int .i64 0] ∧ F2 = Blk sb (.cells [Value.int .i64 room, .map (some m), .pointer (fstP ([]) none), .pointer (lstP ([]) none)].toArray 89 (0, 0)) :: Seg 92 none ([]) none :: MapI m [] :: F) := by
  refine c_enter Tryd.func20 rfl rfl rfl ?_
  refine g_seq ?_
  refine g_region ?_
  refine l_assign rfl rfl ?_
  refine l_assign rfl rfl ?_
  refine l_nil ?_
  refine g_seq ?_
  refine g_seq ?_
  refine g_region ?_
  refine l_move rfl rfl ?_
  refine l_lss rfl rfl rfl ?_
  refine l_move rfl rfl ?_
  refine l_split 6 rfl ?_ ?_
  · intro hbr
    have hbr := of_decide_eq_true hbr
    (exfalso; omega)
  intro hbr
  have hbr := of_decide_eq_false hbr
  refine l_guard_yes rfl rfl ?_
  refine l_move rfl rfl ?_
  refine l_guard_yes rfl rfl ?_
  refine l_gtr rfl rfl rfl ?_
  refine l_pick_f rfl rfl rfl ?_
  refine l_nil ?_
  refine g_cond rfl ?_ ?_
  · intro hbr
    have hbr := of_decide_eq_true hbr
    (exfalso; omega)
  intro hbr
  have hbr := of_decide_eq_false hbr
  refine g_skip ?_
  refine g_seq ?_
  refine g_region ?_
  refine l_move rfl rfl ?_
  refine l_makeMap rfl ?_; intro b11
  refine l_build rfl rfl (fun w => bd_89_0_1 _ _ w) ?_
  refine l_boxs rfl rfl ?_; intro b13
  refine gl_heap (F' := Blk b13 (.cells [Value.int .i64 room, .map (some b11), .pointer (fstP ([]) none), .pointer (lstP ([]) none)].toArray 89 (0, 0)) :: Seg 92 none ([]) none :: MapI b11 [] :: F) (fun w hw => (seg_nil (T := 92) (p := none) (n := none) hw).perm (List.Perm.swap ..)) ?_
  refine l_assign rfl rfl ?_
  refine l_assign rfl rfl ?_
  refine l_nil ?_
  refine g_ret Tryd.func20 rfl (.tmp rfl (.tmp rfl .nil)) ?_
  exact Gives.mki ⟨b13, b11, rfl, rfl⟩
theorem newbad_ii (w0 : World) (F : List Atom) (room : Int) (hr : room < 1 ∨ 4096 < room) :
    CallK Tryd.prog 20 [.int .i64 room] w0 (F) (Gives w0 fun v F2 => v = .tuple #[.pointer none, .int .i64 60] ∧ F2 = F) := by
  refine c_enter Tryd.func20 rfl rfl rfl ?_
  refine g_seq ?_
  refine g_region ?_
  refine l_assign rfl rfl ?_
  refine l_assign rfl rfl ?_
  refine l_nil ?_
  refine g_seq ?_
  refine g_seq ?_
  refine g_region ?_
  refine l_move rfl rfl ?_
  refine l_lss rfl rfl rfl ?_
  refine l_move rfl rfl ?_
  refine l_split 6 rfl ?_ ?_
  · intro hbr
    have hbr := of_decide_eq_true hbr
    refine l_guard_no rfl rfl rfl ?_
    refine l_guard_no rfl rfl rfl ?_
    refine l_pick_t rfl rfl rfl ?_
    refine l_nil ?_
    refine g_cond_t rfl ?_
    refine g_seq ?_
    refine g_region ?_
    refine l_assign rfl rfl ?_
    refine l_assign rfl rfl ?_
    refine l_nil ?_
    refine g_ret Tryd.func20 rfl (.tmp rfl (.tmp rfl .nil)) ?_
    exact Gives.mki ⟨rfl, rfl⟩
  intro hbr
  have hbr := of_decide_eq_false hbr
  refine l_guard_yes rfl rfl ?_
  refine l_move rfl rfl ?_
  refine l_guard_yes rfl rfl ?_
  refine l_gtr rfl rfl rfl ?_
  refine l_pick_f rfl rfl rfl ?_
  refine l_nil ?_
  refine g_cond rfl ?_ ?_
  · intro hbr
    have hbr := of_decide_eq_true hbr
    refine g_seq ?_
    refine g_region ?_
    refine l_assign rfl rfl ?_
    refine l_assign rfl rfl ?_
    refine l_nil ?_
    refine g_ret Tryd.func20 rfl (.tmp rfl (.tmp rfl .nil)) ?_
    exact Gives.mki ⟨rfl, rfl⟩
  · intro hbr
    have hbr := of_decide_eq_false hbr
    (exfalso; omega)
theorem len_ii (w0 : World) (F : List Atom) (sb m : Nat) (room : Int) (kv : List (Int × Value)) (xs : List Nd) (hS : ShOk kv xs) :
    CallK Tryd.prog 23 [.pointer (some ⟨sb, 0, none⟩)] w0 (Blk sb (.cells [Value.int .i64 room, .map (some m), .pointer (fstP (xs) none), .pointer (lstP (xs) none)].toArray 89 (0, 0)) :: Seg 92 none (xs) none :: MapI m kv :: F) (Gives w0 fun v F2 => v = .int .i64 (xs.length : Int) ∧ F2 = Blk sb (.cells [Value.int .i64 room, .map (some m), .pointer (fstP (xs) none), .pointer (lstP (xs) none)].toArray 89 (0, 0)) :: Seg 92 none (xs) none :: MapI m kv :: F) := by
  refine c_enter Tryd.func23 rfl rfl rfl ?_
  refine g_seq ?_
  refine g_region ?_
  refine l_assign rfl rfl ?_
  refine l_nil ?_
  refine g_seq ?_
  refine g_seq ?_
  refine g_region ?_
  refine l_move rfl rfl ?_
  refine l_eqpn rfl Tryd.underlying59 rfl rfl ?_
  refine l_nil ?_
  refine g_cond_f rfl ?_
  refine g_skip ?_
  refine g_seq ?_
  refine g_region ?_
  refine l_move rfl rfl ?_
  refine l_nilCheck rfl rfl ?_
  refine l_fieldAddr rfl fa_89_1 rfl ?_
  refine l_ld rfl Tryd.isAgg86 rfl rfl ?_
  refine l_lenm rfl Tryd.underlying86 rfl (by first | exact mem_getO 0 rfl | exact mem_getO 1 rfl | exact mem_getO 2 rfl | exact mem_getO 3 rfl | exact mem_getO 4 rfl | exact mem_getO 5 rfl | exact mem_getO 6 rfl | exact mem_getO 7 rfl) ?_
  refine l_assign rfl rfl ?_
  refine l_nil ?_
  refine g_ret Tryd.func23 rfl (.tmp rfl .nil) ?_
  exact Gives.mki ⟨by rw [hS.len]; rfl, rfl⟩
theorem lennil_ii (w0 : World) (F : List Atom)  :
    CallK Tryd.prog 23 [.pointer none] w0 (F) (Gives w0 fun v F2 => v = .int .i64 0 ∧ F2 = F) := by
  refine c_enter Tryd.func23 rfl rfl rfl ?_
  refine g_seq ?_
  refine g_region ?_
  refine l_assign rfl rfl ?_
  refine l_nil ?_
  refine g_seq ?_
  refine g_seq ?_
  refine g_region ?_
  refine l_move rfl rfl ?_
  refine l_eqpn rfl Tryd.underlying59 rfl rfl ?_
  refine l_nil ?_
  refine g_cond_t rfl ?_
  refine g_seq ?_
  refine g_region ?_
  refine l_assign rfl rfl ?_
  refine l_nil ?_
  refine g_ret Tryd.func23 rfl (.tmp rfl .nil) ?_
  exact Gives.mki ⟨rfl, rfl⟩
theorem peek_yes_is (w0 : World) (F : List Atom) (sb m : Nat) (room : Int) (kv : List (Int × Value)) (l1 l2 : List Nd) (x : Nd) (hS : ShOk kv (l1 ++ x :: l2)) :
    CallK Tryd.prog 41 [.pointer (some ⟨sb, 0, none⟩), .int .i64 x.k] w0 (Blk sb (.cells [Value.int .i64 room, .map (some m), .pointer (fstP (l1 ++ x :: l2) none), .pointer (lstP (l1 ++ x :: l2) none)].toArray 79 (0, 0)) :: Seg 106 none (l1 ++ x :: l2) none :: MapI m kv :: F) (Gives w0 fun v F2 => v = .tuple #[x.v, .bool true] ∧ F2 = Blk sb (.cells [Value.int .i64 room, .map (some m), .pointer (fstP (l1 ++ x :: l2) none), .pointer (lstP (l1 ++ x :: l2) none)].toArray 79 (0, 0)) :: Seg 106 none (l1 ++ x :: l2) none :: MapI m kv :: F) := by
  refine c_enter Tryd.func41 rfl rfl rfl ?_
  refine g_seq ?_
  refine g_region ?_
  refine l_assign rfl rfl ?_
  refine l_assign rfl rfl ?_
  refine l_nil ?_
  refine g_seq ?_
  refine g_region ?_
  refine l_assign rfl rfl ?_
  refine l_nil ?_
  refine g_seq ?_
  refine g_seq ?_
  refine g_region ?_
  refine l_move rfl rfl ?_
  refine l_eqpn rfl Tryd.underlying42 rfl rfl ?_
  refine l_nil ?_
  refine g_cond_f rfl ?_
  refine g_skip ?_
  refine g_seq ?_
  refine g_region ?_
  refine l_move rfl rfl ?_
  refine l_nilCheck rfl rfl ?_
  refine l_fieldAddr rfl fa_79_1 rfl ?_
  refine l_ld rfl Tryd.isAgg76 rfl rfl ?_
  refine l_move rfl rfl ?_
  obtain ⟨i, hfi, hS2⟩ := hS.some
  refine l_look_yes (v := .pointer (some ⟨x.b, 0, none⟩)) hfi rfl Tryd.underlying76 Tryd.underlying3 Tryd.zeroValue77 rfl rfl (by first | exact mem_getO 0 rfl | exact mem_getO 1 rfl | exact mem_getO 2 rfl | exact mem_getO 3 rfl | exact mem_getO 4 rfl | exact mem_getO 5 rfl | exact mem_getO 6 rfl | exact mem_getO 7 rfl) ?_
  refine l_move rfl rfl ?_
  refine l_extract rfl rfl rfl ?_
  refine l_extract (v := .bool true) rfl rfl rfl ?_
  refine l_assign rfl rfl ?_
  refine l_assign rfl rfl ?_
  refine l_nil ?_
  refine g_seq ?_
  refine g_seq ?_
  refine g_region ?_
  refine l_move rfl rfl ?_
  refine l_not rfl rfl ?_
  refine l_nil ?_
  refine g_cond_f rfl ?_
  refine g_skip ?_
  refine g_seq ?_
  refine g_region ?_
  refine l_move rfl rfl ?_
  refine l_nilCheck rfl rfl ?_
  refine l_fieldAddr rfl fa_106_1 rfl ?_
  refine l_loadc (v := x.v) rfl Tryd.isAgg9 rfl (seg_cell (show Seg 106 none (l1 ++ x :: l2) none ∈ _ from (by first | exact mem_getO 0 rfl | exact mem_getO 1 rfl | exact mem_getO 2 rfl | exact mem_getO 3 rfl | exact mem_getO 4 rfl | exact mem_getO 5 rfl | exact mem_getO 6 rfl | exact mem_getO 7 rfl)) (o := 1) rfl) ?_
  refine l_assign rfl rfl ?_
  refine l_assign rfl rfl ?_
  refine l_nil ?_
  refine g_ret Tryd.func41 rfl (.tmp rfl (.tmp rfl .nil)) ?_
  exact Gives.mki ⟨rfl, rfl⟩
theorem peek_no_is (w0 : World) (F : List Atom) (sb m : Nat) (room : Int) (kv : List (Int × Value)) (xs : List Nd) (hS : ShOk kv xs) (k : Int) (hk : ∀ x ∈ xs, x.k ≠ k) :
    CallK Tryd.prog 41 [.pointer (some ⟨sb, 0, none⟩), .int .i64 k] w0 (Blk sb (.cells [Value.int .i64 room, .map (some m), .pointer (fstP (xs) none), .pointer (lstP (xs) none)].toArray 79 (0, 0)) :: Seg 106 none (xs) none :: MapI m kv :: F) (Gives w0 fun v F2 => v = .tuple #[.string ⟨#[]⟩, .bool false] ∧ F2 = Blk sb (.cells [Value.int .i64 room, .map (some m), .pointer (fstP (xs) none), .pointer (lstP (xs) none)].toArray 79 (0, 0)) :: Seg 106 none (xs) none :: MapI m kv :: F) := by
  refine c_enter Tryd.func41 rfl rfl rfl ?_
  refine g_seq ?_
  refine g_region ?_
  refine l_assign rfl rfl ?_
  refine l_assign rfl rfl ?_
  refine l_nil ?_
  refine g_seq ?_
  refine g_region ?_
  refine l_assign rfl rfl ?_
  refine l_nil ?_
  refine g_seq ?_
  refine g_seq ?_
  refine g_region ?_
  refine l_move rfl rfl ?_
  refine l_eqpn rfl Tryd.underlying42 rfl rfl ?_
  refine l_nil ?_
  refine g_cond_f rfl ?_
  refine g_skip ?_
  refine g_seq ?_
  refine g_region ?_
  refine l_move rfl rfl ?_
  refine l_nilCheck rfl rfl ?_
  refine l_fieldAddr rfl fa_79_1 rfl ?_
  refine l_ld rfl Tryd.isAgg76 rfl rfl ?_
  refine l_move rfl rfl ?_
  refine l_look_no (hS.none hk) rfl Tryd.underlying76 Tryd.underlying3 Tryd.zeroValue77 rfl rfl (by first | exact mem_getO 0 rfl | exact mem_getO 1 rfl | exact mem_getO 2 rfl | exact mem_getO 3 rfl | exact mem_getO 4 rfl | exact mem_getO 5 rfl | exact mem_getO 6 rfl | exact mem_getO 7 rfl) ?_
  refine l_move rfl rfl ?_
  refine l_extract rfl rfl rfl ?_
  refine l_extract (v := .bool false) rfl rfl rfl ?_
  refine l_assign rfl rfl ?_
  refine l_assign rfl rfl ?_
  refine l_nil ?_
  refine g_seq ?_
  refine g_seq ?_
  refine g_region ?_
  refine l_move rfl rfl ?_
  refine l_not rfl rfl ?_
  refine l_nil ?_
  refine g_cond_t rfl ?_
  refine g_seq ?_
  refine g_region ?_
  refine l_move rfl rfl ?_
  refine l_assign rfl rfl ?_
  refine l_assign rfl rfl ?_
  refine l_nil ?_
  refine g_ret Tryd.func41 rfl (.tmp rfl (.tmp rfl .nil)) ?_
  exact Gives.mki ⟨rfl, rfl⟩
theorem peek_nil_is (w0 : World) (F : List Atom) (k : Int) :
    CallK Tryd.prog 41 [.pointer none, .int .i64 k] w0 (F) (Gives w0 fun v F2 => v = .tuple #[.string ⟨#[]⟩, .bool false] ∧ F2 = F) := by
  refine c_enter Tryd.func41 rfl rfl rfl ?_
  refine g_seq ?_
  refine g_region ?_
  refine l_assign rfl rfl ?_
  refine l_assign rfl rfl ?_
  refine l_nil ?_
  refine g_seq ?_
  refine g_region ?_
  refine l_assign rfl rfl ?_
  refine l_nil ?_
  refine g_seq ?_
  refine g_seq ?_
  refine g_region ?_
  refine l_move rfl rfl ?_
  refine l_eqpn rfl Tryd.underlying42 rfl rfl ?_
  refine l_nil ?_
  refine g_cond_t rfl ?_
  refine g_seq ?_
  refine g_region ?_
  refine l_move rfl rfl ?_
  refine l_assign rfl rfl ?_
  refine l_assign rfl rfl ?_
  refine l_nil ?_
  refine g_ret Tryd.func41 rfl (.tmp rfl (.tmp rfl .nil)) ?_
  exact Gives.mki ⟨rfl, rfl⟩
theorem get_yes_is (w0 : World) (F : List Atom) (sb m : Nat) (room : Int) (kv : List (Int × Value)) (l1 l2 : List Nd) (x : Nd) (hS : ShOk kv (l1 ++ x :: l2)) :
    CallK Tryd.prog 40 [.pointer (some ⟨sb, 0, none⟩), .int .i64 x.k] w0 (Blk sb (.cells [Value.int .i64 room, .map (some m), .pointer (fstP (l1 ++ x :: l2) none), .pointer (lstP (l1 ++ x :: l2) none)].toArray 79 (0, 0)) :: Seg 106 none (l1 ++ x :: l2) none :: MapI m kv :: F) (Gives w0 fun v F2 => v = .tuple #[x.v, .bool true] ∧ F2 = Blk sb (.cells [Value.int .i64 room, .map (some m), .pointer (fstP (l1 ++ l2 ++ [x]) none), .pointer (lstP (l1 ++ l2 ++ [x]) none)].toArray 79 (0, 0)) :: Seg 106 none (l1 ++ l2 ++ [x]) none :: MapI m kv :: F) := by
  refine c_enter Tryd.func40 rfl rfl rfl ?_
  refine g_seq ?_
  refine g_region ?_
  refine l_assign rfl rfl ?_
  refine l_assign rfl rfl ?_
  refine l_nil ?_
  refine g_seq ?_
  refine g_region ?_
  refine l_move rfl rfl ?_
  refine l_move rfl rfl ?_
  refine l_call rfl Tryd.call41 rfl (peek_yes_is _ _ sb m room kv l1 l2 x hS) ?_; rintro _ _ ⟨rfl, rfl⟩
  refine l_move rfl rfl ?_
  refine l_extract rfl rfl rfl ?_
  refine l_extract (v := .bool true) rfl rfl rfl ?_
  refine l_assign rfl rfl ?_
  refine l_assign rfl rfl ?_
  refine l_nil ?_
  refine g_seq ?_
  refine g_seq ?_
  refine g_region ?_
  refine l_move rfl rfl ?_
  refine l_nil ?_
  refine g_cond_t rfl ?_
  refine g_seq ?_
  refine g_region ?_
  refine l_move rfl rfl ?_
  refine l_nilCheck rfl rfl ?_
  refine l_fieldAddr rfl fa_79_1 rfl ?_
  refine l_ld rfl Tryd.isAgg76 rfl rfl ?_
  refine l_move rfl rfl ?_
  obtain ⟨i, hfi, hS2⟩ := hS.some
  refine l_look1 (v := .pointer (some ⟨x.b, 0, none⟩)) hfi rfl Tryd.underlying76 Tryd.underlying3 Tryd.zeroValue77 rfl rfl (by first | exact mem_getO 0 rfl | exact mem_getO 1 rfl | exact mem_getO 2 rfl | exact mem_getO 3 rfl | exact mem_getO 4 rfl | exact mem_getO 5 rfl | exact mem_getO 6 rfl | exact mem_getO 7 rfl) ?_
  refine l_assign rfl rfl ?_
  refine l_nil ?_
  refine g_seq ?_
  refine g_region ?_
  refine l_move rfl rfl ?_
  refine l_move rfl rfl ?_
  refine l_call rfl Tryd.call56 rfl (unlink_is _ _ sb m room l1 l2 x) ?_; rintro _ _ ⟨rfl, rfl⟩
  refine l_nil ?_
  refine g_region ?_
  refine l_move rfl rfl ?_
  refine l_move rfl rfl ?_
  refine l_call rfl Tryd.call57 rfl (append_is _ _ sb m room (l1 ++ l2) x) ?_; rintro _ _ ⟨rfl, rfl⟩
  refine l_nil ?_
  refine g_seq ?_
  refine g_region ?_
  refine l_move rfl rfl ?_
  refine l_move rfl rfl ?_
  refine l_assign rfl rfl ?_
  refine l_assign rfl rfl ?_
  refine l_nil ?_
  refine g_ret Tryd.func40 rfl (.tmp rfl (.tmp rfl .nil)) ?_
  exact Gives.mki ⟨rfl, rfl⟩
theorem get_no_is (w0 : World) (F : List Atom) (sb m : Nat) (room : Int) (kv : List (Int × Value)) (xs : List Nd) (hS : ShOk kv xs) (k : Int) (hk : ∀ x ∈ xs, x.k ≠ k) :
    CallK Tryd.prog 40 [.pointer (some ⟨sb, 0, none⟩), .int .i64 k] w0 (Blk sb (.cells [Value.int .i64 room, .map (some m), .pointer (fstP (xs) none), .pointer (lstP (xs) none)].toArray 79 (0, 0)) :: Seg 106 none (xs) none :: MapI m kv :: F) (Gives w0 fun v F2 => v = .tuple #[.string ⟨#[]⟩, .bool false] ∧ F2 = Blk sb (.cells [Value.int .i64 room, .map (some m), .pointer (fstP (xs) none), .pointer (lstP (xs) none)].toArray 79 (0, 0)) :: Seg 106 none (xs) none :: MapI m kv :: F) := by
  refine c_enter Tryd.func40 rfl rfl rfl ?_
  refine g_seq ?_
  refine g_region ?_
  refine l_assign rfl rfl ?_
  refine l_assign rfl rfl ?_
  refine l_nil ?_
  refine g_seq ?_
  refine g_region ?_
  refine l_move rfl rfl ?_
  refine l_move rfl rfl ?_
  refine l_call rfl Tryd.call41 rfl (peek_no_is _ _ sb m room kv xs hS k hk) ?_; rintro _ _ ⟨rfl, rfl⟩
  refine l_move rfl rfl ?_
  refine l_extract rfl rfl rfl ?_
  refine l_extract (v := .bool false) rfl rfl rfl ?_
  refine l_assign rfl rfl ?_
  refine l_assign rfl rfl ?_
  refine l_nil ?_
  refine g_seq ?_
  refine g_seq ?_
  refine g_region ?_
  refine l_move rfl rfl ?_
  refine l_nil ?_
  refine g_cond_f rfl ?_
  refine g_skip ?_
  refine g_seq ?_
  refine g_region ?_
  refine l_move rfl rfl ?_
  refine l_move rfl rfl ?_
  refine l_assign rfl rfl ?_
  refine l_assign rfl rfl ?_
  refine l_nil ?_
  refine g_ret Tryd.func40 rfl (.tmp rfl (.tmp rfl .nil)) ?_
  exact Gives.mki ⟨rfl, rfl⟩
theorem get_nil_is (w0 : World) (F : List Atom) (k : Int) :
    CallK Tryd.prog 40 [.pointer none, .int .i64 k] w0 (F) (Gives w0 fun v F2 => v = .tuple #[.string ⟨#[]⟩, .bool false] ∧ F2 = F) := by
  refine c_enter Tryd.func40 rfl rfl rfl ?_
  refine g_seq ?_
  refine g_region ?_
  refine l_assign rfl rfl ?_
  refine l_assign rfl rfl ?_
  refine l_nil ?_
  refine g_seq ?_
  refine g_region ?_
  refine l_move rfl rfl ?_
  refine l_move rfl rfl ?_
  refine l_call rfl Tryd.call41 rfl (peek_nil_is _ _ k) ?_; rintro _ _ ⟨rfl, rfl⟩
  refine l_move rfl rfl ?_
  refine l_extract rfl rfl rfl ?_
  refine l_extract (v := .bool false) rfl rfl rfl ?_
  refine l_assign rfl rfl ?_
  refine l_assign rfl rfl ?_
  refine l_nil ?_
  refine g_seq ?_
  refine g_seq ?_
  refine g_region ?_
  refine l_move rfl rfl ?_
  refine l_nil ?_
  refine g_cond_f rfl ?_
  refine g_skip ?_
  refine g_seq ?_
  refine g_region ?_
  refine l_move rfl rfl ?_
  refine l_move rfl rfl ?_
  refine l_assign rfl rfl ?_
  refine l_assign rfl rfl ?_
  refine l_nil ?_
  refine g_ret Tryd.func40 rfl (.tmp rfl (.tmp rfl .nil)) ?_
  exact Gives.mki ⟨rfl, rfl⟩
theorem drop_yes_is (w0 : World) (F : List Atom) (sb m : Nat) (room : Int) (kv : List (Int × Value)) (l1 l2 : List Nd) (x : Nd) (hS : ShOk kv (l1 ++ x :: l2)) :
    CallK Tryd.prog 42 [.pointer (some ⟨sb, 0, none⟩), .int .i64 x.k] w0 (Blk sb (.cells [Value.int .i64 room, .map (some m), .pointer (fstP (l1 ++ x :: l2) none), .pointer (lstP (l1 ++ x :: l2) none)].toArray 79 (0, 0)) :: Seg 106 none (l1 ++ x :: l2) none :: MapI m kv :: F) (Gives w0 fun v F2 => ∃ kv', v = .bool true ∧ ShOk kv' (l1 ++ l2) ∧ F2 = Blk sb (.cells [Value.int .i64 room, .map (some m), .pointer (fstP (l1 ++ l2) none), .pointer (lstP (l1 ++ l2) none)].toArray 79 (0, 0)) :: Seg 106 none (l1 ++ l2) none :: MapI m kv' :: F) := by
  refine c_enter Tryd.func42 rfl rfl rfl ?_
  refine g_seq ?_
  refine g_region ?_
  refine l_assign rfl rfl ?_
  refine l_nil ?_
  refine g_seq ?_
  refine g_seq ?_
  refine g_region ?_
  refine l_move rfl rfl ?_
  refine l_eqpn rfl Tryd.underlying42 rfl rfl ?_
  refine l_nil ?_
  refine g_cond_f rfl ?_
  refine g_skip ?_
  refine g_seq ?_
  refine g_region ?_
  refine l_move rfl rfl ?_
  refine l_nilCheck rfl rfl ?_
  refine l_fieldAddr rfl fa_79_1 rfl ?_
  refine l_ld rfl Tryd.isAgg76 rfl rfl ?_
  refine l_move rfl rfl ?_
  obtain ⟨i, hfi, hS2⟩ := hS.some
  refine l_look_yes (v := .pointer (some ⟨x.b, 0, none⟩)) hfi rfl Tryd.underlying76 Tryd.underlying3 Tryd.zeroValue77 rfl rfl (by first | exact mem_getO 0 rfl | exact mem_getO 1 rfl | exact mem_getO 2 rfl | exact mem_getO 3 rfl | exact mem_getO 4 rfl | exact mem_getO 5 rfl | exact mem_getO 6 rfl | exact mem_getO 7 rfl) ?_
  refine l_move rfl rfl ?_
  refine l_extract rfl rfl rfl ?_
  refine l_extract (v := .bool true) rfl rfl rfl ?_
  refine l_assign rfl rfl ?_
  refine l_assign rfl rfl ?_
  refine l_nil ?_
  refine g_seq ?_
  refine g_seq ?_
  refine g_region ?_
  refine l_move rfl rfl ?_
  refine l_nil ?_
  refine g_cond_t rfl ?_
  refine g_seq ?_
  refine g_region ?_
  refine l_move rfl rfl ?_
  refine l_move rfl rfl ?_
  refine l_call rfl Tryd.call56 rfl (unlink_is _ _ sb m room l1 l2 x) ?_; rintro _ _ ⟨rfl, rfl⟩
  refine l_nil ?_
  refine g_region ?_
  refine l_move rfl rfl ?_
  refine l_nilCheck rfl rfl ?_
  refine l_fieldAddr rfl fa_79_1 rfl ?_
  refine l_ld rfl Tryd.isAgg76 rfl rfl ?_
  refine l_move rfl rfl ?_
  refine gl_heap (F' := MapI m kv :: Blk sb (.cells [Value.int .i64 room, .map (some m), .pointer (fstP (l1 ++ l2) none), .pointer (lstP (l1 ++ l2) none)].toArray 79 (0, 0)) :: Seg 106 none (l1 ++ l2) none :: F) (fun w hw => SPI.holds hw) ?_
  refine l_mapDel hfi Tryd.underlying76 Tryd.underlying3 rfl rfl ?_
  refine l_nil ?_
  refine g_seq ?_
  refine g_region ?_
  refine l_move rfl rfl ?_
  refine l_assign rfl rfl ?_
  refine l_nil ?_
  refine g_ret Tryd.func42 rfl (.tmp rfl .nil) ?_
  exact Gives.mki ⟨_, rfl, hS2, rfl⟩
theorem drop_no_is (w0 : World) (F : List Atom) (sb m : Nat) (room : Int) (kv : List (Int × Value)) (xs : List Nd) (hS : ShOk kv xs) (k : Int) (hk : ∀ x ∈ xs, x.k ≠ k) :
    CallK Tryd.prog 42 [.pointer (some ⟨sb, 0, none⟩), .int .i64 k] w0 (Blk sb (.cells [Value.int .i64 room, .map (some m), .pointer (fstP (xs) none), .pointer (lstP (xs) none)].toArray 79 (0, 0)) :: Seg 106 none (xs) none :: MapI m kv :: F) (Gives w0 fun v F2 => v = .bool false ∧ F2 = Blk sb (.cells [Value.int .i64 room, .map (some m), .pointer (fstP (xs) none), .pointer (lstP (xs) none)].toArray 79 (0, 0)) :: Seg 106 none (xs) none :: MapI m kv :: F) := by
  refine c_enter Tryd.func42 rfl rfl rfl ?_
  refine g_seq ?_
  refine g_region ?_
  refine l_assign rfl rfl ?_
  refine l_nil ?_
  refine g_seq ?_
  refine g_seq ?_
  refine g_region ?_
  refine l_move rfl rfl ?_
  refine l_eqpn rfl Tryd.underlying42 rfl rfl ?_
  refine l_nil ?_
  refine g_cond_f rfl ?_
  refine g_skip ?_
  refine g_seq ?_
  refine g_region ?_
  refine l_move rfl rfl ?_
  refine l_nilCheck rfl rfl ?_
  refine l_fieldAddr rfl fa_79_1 rfl ?_
  refine l_ld rfl Tryd.isAgg76 rfl rfl ?_
  refine l_move rfl rfl ?_
  refine l_look_no (hS.none hk) rfl Tryd.underlying76 Tryd.underlying3 Tryd.zeroValue77 rfl rfl (by first | exact mem_getO 0 rfl | exact mem_getO 1 rfl | exact mem_getO 2 rfl | exact mem_getO 3 rfl | exact mem_getO 4 rfl | exact mem_getO 5 rfl | exact mem_getO 6 rfl | exact mem_getO 7 rfl) ?_
  refine l_move rfl rfl ?_
  refine l_extract rfl rfl rfl ?_
  refine l_extract (v := .bool false) rfl rfl rfl ?_
  refine l_assign rfl rfl ?_
  refine l_assign rfl rfl ?_
  refine l_nil ?_
  refine g_seq ?_
  refine g_seq ?_
  refine g_region ?_
  refine l_move rfl rfl ?_
  refine l_nil ?_
  refine g_cond_f rfl ?_
  refine g_skip ?_
  refine g_seq ?_
  refine g_region ?_
  refine l_move rfl rfl ?_
  refine l_assign rfl rfl ?_
  refine l_nil ?_
  refine g_ret Tryd.func42 rfl (.tmp rfl .nil) ?_
  exact Gives.mki ⟨rfl, rfl⟩
theorem drop_nil_is (w0 : World) (F : List Atom) (k : Int) :
    CallK Tryd.prog 42 [.pointer none, .int .i64 k] w0 (F) (Gives w0 fun v F2 => v = .bool false ∧ F2 = F) := by
  refine c_enter Tryd.func42 rfl rfl rfl ?_
  refine g_seq ?_
  refine g_region ?_
  refine l_assign rfl rfl ?_
  refine l_nil ?_
  refine g_seq ?_
  refine g_seq ?_
  refine g_region ?_
  refine l_move rfl rfl ?_
  refine l_eqpn rfl Tryd.underlying42 rfl rfl ?_
  refine l_nil ?_
  refine g_cond_t rfl ?_
  refine g_seq ?_
  refine g_region ?_
  refine l_assign rfl rfl ?_
  refine l_nil ?_
  refine g_ret Tryd.func42 rfl (.tmp rfl .nil) ?_
  exact Gives.mki ⟨rfl, rfl⟩
theorem put_yes_is (w0 : World) (F : List Atom) (sb m : Nat) (room : Int) (kv : List (Int × Value)) (l1 l2 : List Nd) (xb : Nat) (k : Int) (v0 : ByteArray) (v1 : ByteArray) (hS : ShOk kv (l1 ++ (Nd.mk xb k (.string v0)) :: l2)) :
    CallK Tryd.prog 39 [.pointer (some ⟨sb, 0, none⟩), .int .i64 k, .string v1] w0 (Blk sb (.cells [Value.int .i64 room, .map (some m), .pointer (fstP (l1 ++ (Nd.mk xb k (.string v0)) :: l2) none), .pointer (lstP (l1 ++ (Nd.mk xb k (.string v0)) :: l2) none)].toArray 79 (0, 0)) :: Seg 106 none (l1 ++ (Nd.mk xb k (.string v0)) :: l2) none :: MapI m kv :: F) (Gives w0 fun v F2 => v = .tuple #[.int .i64 0, .bool false] ∧ F2 = Blk sb (.cells [Value.int .i64 room, .map (some m), .pointer (fstP (l1 ++ l2 ++ [(Nd.mk xb k (.string v1))]) none), .pointer (lstP (l1 ++ l2 ++ [(Nd.mk xb k (.string v1))]) none)].toArray 79 (0, 0)) :: Seg 106 none (l1 ++ l2 ++ [(Nd.mk xb k (.string v1))]) none :: MapI m kv :: F) := by
  refine c_enter Tryd.func39 rfl rfl rfl ?_
  refine g_seq ?_
  refine g_region ?_
  refine l_assign rfl rfl ?_
  refine l_assign rfl rfl ?_
  refine l_nil ?_
  refine g_seq ?_
  refine g_region ?_
  refine l_assign rfl rfl ?_
  refine l_nil ?_
  refine g_seq ?_
  refine g_seq ?_
  refine g_region ?_
  refine l_move rfl rfl ?_
  refine l_eqpn rfl Tryd.underlying42 rfl rfl ?_
  refine l_nil ?_
  refine g_cond_f rfl ?_
  refine g_skip ?_
  refine g_seq ?_
  refine g_seq ?_
  refine g_region ?_
  refine l_move rfl rfl ?_
  refine l_nilCheck rfl rfl ?_
  refine l_fieldAddr rfl fa_79_1 rfl ?_
  refine l_ld rfl Tryd.isAgg76 rfl rfl ?_
  refine l_move rfl rfl ?_
  obtain ⟨i, hfi, _⟩ := hS.some
  refine l_look_yes (v := .pointer (some ⟨xb, 0, none⟩)) hfi rfl Tryd.underlying76 Tryd.underlying3 Tryd.zeroValue77 rfl rfl (by first | exact mem_getO 0 rfl | exact mem_getO 1 rfl | exact mem_getO 2 rfl | exact mem_getO 3 rfl | exact mem_getO 4 rfl | exact mem_getO 5 rfl | exact mem_getO 6 rfl | exact mem_getO 7 rfl) ?_
  refine l_move rfl rfl ?_
  refine l_extract rfl rfl rfl ?_
  refine l_extract (v := .bool true) rfl rfl rfl ?_
  refine l_assign rfl rfl ?_
  refine l_assign rfl rfl ?_
  refine l_nil ?_
  refine g_seq ?_
  refine g_region ?_
  refine l_move rfl rfl ?_
  refine l_nil ?_
  refine g_cond_t rfl ?_
  refine g_seq ?_
  refine g_region ?_
  have e1 : fstP (l1 ++ (Nd.mk xb k (.string v0)) :: l2) none = fstP (l1 ++ (Nd.mk xb k (.string v1)) :: l2) none := by rw [fstP_app, fstP_app]; rfl
  have e2 : lstP (l1 ++ (Nd.mk xb k (.string v0)) :: l2) none = lstP (l1 ++ (Nd.mk xb k (.string v1)) :: l2) none := by rw [lstP_app, lstP_app]; rfl
  rw [e1, e2]
  refine gl_heap (F' := Seg 106 none l1 (Nd.p (Nd.mk xb k (.string v1))) :: Blk xb (.cells [Value.int .i64 k, .string v0, .pointer (lstP l1 none), .pointer (fstP l2 none)].toArray 106 (0, 0)) :: Seg 106 (Nd.p (Nd.mk xb k (.string v1))) l2 none :: Blk sb (.cells [Value.int .i64 room, .map (some m), .pointer (fstP (l1 ++ (Nd.mk xb k (.string v1)) :: l2) none), .pointer (lstP (l1 ++ (Nd.mk xb k (.string v1)) :: l2) none)].toArray 79 (0, 0)) :: MapI m kv :: F) (fun w hw => seg_at (hw.perm (List.Perm.swap ..))) ?_
  refine l_move rfl rfl ?_
  refine l_move rfl rfl ?_
  refine l_nilCheck rfl rfl ?_
  refine l_fieldAddr rfl fa_106_1 rfl ?_
  refine l_st Tryd.sizeOf9 rfl rfl rfl rfl ?_
  refine l_nil ?_
  refine g_seq ?_
  refine g_region ?_
  refine gl_heap (F' := Blk sb (.cells [Value.int .i64 room, .map (some m), .pointer (fstP (l1 ++ (Nd.mk xb k (.string v1)) :: l2) none), .pointer (lstP (l1 ++ (Nd.mk xb k (.string v1)) :: l2) none)].toArray 79 (0, 0)) :: Seg 106 none (l1 ++ (Nd.mk xb k (.string v1)) :: l2) none :: MapI m kv :: F) (fun w hw => (seg_to (x := (Nd.mk xb k (.string v1))) rfl rfl hw).perm (List.Perm.swap ..)) ?_
  refine l_move rfl rfl ?_
  refine l_move rfl rfl ?_
  refine l_call rfl Tryd.call56 rfl (unlink_is _ _ sb m room l1 l2 (Nd.mk xb k (.string v1))) ?_; rintro _ _ ⟨rfl, rfl⟩
  refine l_nil ?_
  refine g_seq ?_
  refine g_region ?_
  refine l_move rfl rfl ?_
  refine l_move rfl rfl ?_
  refine l_call rfl Tryd.call57 rfl (append_is _ _ sb m room (l1 ++ l2) (Nd.mk xb k (.string v1))) ?_; rintro _ _ ⟨rfl, rfl⟩
  refine l_nil ?_
  refine g_seq ?_
  refine g_region ?_
  refine l_move rfl rfl ?_
  refine l_assign rfl rfl ?_
  refine l_assign rfl rfl ?_
  refine l_nil ?_
  refine g_ret Tryd.func39 rfl (.tmp rfl (.tmp rfl .nil)) ?_
  exact Gives.mki ⟨rfl, rfl⟩
theorem put_new_is (w0 : World) (F : List Atom) (sb m : Nat) (room : Int) (kv : List (Int × Value)) (xs : List Nd) (k : Int) (v1 : ByteArray) (hS : ShOk kv xs) (hk : ∀ x ∈ xs, x.k ≠ k) (hr : (xs.length : Int) ≠ room) :
    CallK Tryd.prog 39 [.pointer (some ⟨sb, 0, none⟩), .int .i64 k, .string v1] w0 (Blk sb (.cells [Value.int .i64 room, .map (some m), .pointer (fstP (xs) none), .pointer (lstP (xs) none)].toArray 79 (0, 0)) :: Seg 106 none (xs) none :: MapI m kv :: F) (Gives w0 fun v F2 => ∃ b kv', v = .tuple #[.int .i64 0, .bool false] ∧ ShOk kv' (xs ++ [Nd.mk b k (.string v1)]) ∧ F2 = Blk sb (.cells [Value.int .i64 room, .map (some m), .pointer (fstP (xs ++ [Nd.mk b k (.string v1)]) none), .pointer (lstP (xs ++ [Nd.mk b k (.string v1)]) none)].toArray 79 (0, 0)) :: Seg 106 none (xs ++ [Nd.mk b k (.string v1)]) none :: MapI m kv' :: F) := by
  have hlen := hS.len
  refine c_enter Tryd.func39 rfl rfl rfl ?_
  refine g_seq ?_
  refine g_region ?_
  refine l_assign rfl rfl ?_
  refine l_assign rfl rfl ?_
  refine l_nil ?_
  refine g_seq ?_
  refine g_region ?_
  refine l_assign rfl rfl ?_
  refine l_nil ?_
  refine g_seq ?_
  refine g_seq ?_
  refine g_region ?_
  refine l_move rfl rfl ?_
  refine l_eqpn rfl Tryd.underlying42 rfl rfl ?_
  refine l_nil ?_
  refine g_cond_f rfl ?_
  refine g_skip ?_
  refine g_seq ?_
  refine g_seq ?_
  refine g_region ?_
  refine l_move rfl rfl ?_
  refine l_nilCheck rfl rfl ?_
  refine l_fieldAddr rfl fa_79_1 rfl ?_
  refine l_ld rfl Tryd.isAgg76 rfl rfl ?_
  refine l_move rfl rfl ?_
  refine l_look_no (hS.none hk) rfl Tryd.underlying76 Tryd.underlying3 Tryd.zeroValue77 rfl rfl (by first | exact mem_getO 0 rfl | exact mem_getO 1 rfl | exact mem_getO 2 rfl | exact mem_getO 3 rfl | exact mem_getO 4 rfl | exact mem_getO 5 rfl | exact mem_getO 6 rfl | exact mem_getO 7 rfl) ?_
  refine l_move rfl rfl ?_
  refine l_extract rfl rfl rfl ?_
  refine l_extract (v := .bool false) rfl rfl rfl ?_
  refine l_assign rfl rfl ?_
  refine l_assign rfl rfl ?_
  refine l_nil ?_
  refine g_seq ?_
  refine g_region ?_
  refine l_move rfl rfl ?_
  refine l_nil ?_
  refine g_cond_f rfl ?_
  refine g_skip ?_
  refine g_seq ?_
  refine gp_start mo (by kernel_rfl) (by kernel_rfl) ?_
  refine gp_quiet 0 rfl rfl rfl rfl rfl rfl (q_move rfl) ?_
  refine gp_quiet 1 rfl rfl rfl rfl rfl rfl (q_move rfl) ?_
  refine gp_quiet 2 rfl rfl rfl rfl rfl rfl (q_nilCheck rfl) ?_
  refine gp_quiet 3 rfl rfl rfl rfl rfl rfl (q_fieldAddr fa_79_1 rfl) ?_
  refine gp_quiet 4 rfl rfl rfl rfl rfl rfl (q_ld Tryd.isAgg76 rfl rfl) ?_
  refine gp_quiet 5 rfl rfl rfl rfl rfl rfl (q_lenm Tryd.underlying76 rfl (by first | exact mem_getO 0 rfl | exact mem_getO 1 rfl | exact mem_getO 2 rfl | exact mem_getO 3 rfl | exact mem_getO 4 rfl | exact mem_getO 5 rfl | exact mem_getO 6 rfl | exact mem_getO 7 rfl)) ?_
  refine gp_quiet 6 rfl rfl rfl rfl rfl rfl (q_move rfl) ?_
  refine gp_quiet 7 rfl rfl rfl rfl rfl rfl (q_nilCheck rfl) ?_
  refine gp_quiet 8 rfl rfl rfl rfl rfl rfl (q_fieldAddr fa_79_0 rfl) ?_
  first | refine gp_quiet 9 rfl rfl rfl rfl rfl rfl (q_ld Tryd.isAgg3 rfl rfl) ?_ | refine gp_quiet 9 rfl rfl rfl rfl rfl rfl (q_ldw Tryd.isAgg3 rfl (by omega)) ?_
  refine gp_quiet 10 rfl rfl rfl rfl rfl rfl (q_eql rfl rfl) ?_
  refine gp_quiet 11 rfl rfl rfl rfl rfl rfl (q_assign rfl) ?_
  refine gp_quiet 12 rfl rfl rfl rfl rfl rfl (q_assign rfl) ?_
  refine gp_end rfl rfl ?_
  refine g_seq ?_
  refine g_seq ?_
  refine g_region ?_
  refine l_move rfl rfl ?_
  refine l_nil ?_
  refine g_cond rfl ?_ ?_
  · intro hbr
    have hbr := of_decide_eq_true hbr
    (exfalso; omega)
  intro hbr
  have hbr := of_decide_eq_false hbr
  refine g_skip ?_
  refine g_seq ?_
  refine g_region ?_
  refine l_move rfl rfl ?_
  refine l_move rfl rfl ?_
  refine l_build rfl rfl (fun w => bd_106_0_1 _ _ w) ?_
  refine l_boxs rfl rfl ?_; intro b63
  refine l_assign rfl rfl ?_
  refine l_nil ?_
  refine g_seq ?_
  refine g_region ?_
  refine l_move rfl rfl ?_
  refine l_nilCheck rfl rfl ?_
  refine l_fieldAddr rfl fa_79_1 rfl ?_
  refine l_ld rfl Tryd.isAgg76 rfl rfl ?_
  refine l_move rfl rfl ?_
  refine l_move rfl rfl ?_
  refine gl_heap (F' := MapI m kv :: Blk b63 (.cells [Value.int .i64 k, .string v1, .pointer none, .pointer none].toArray 106 (0, 0)) :: Blk sb (.cells [Value.int .i64 room, .map (some m), .pointer (fstP (xs) none), .pointer (lstP (xs) none)].toArray 79 (0, 0)) :: Seg 106 none (xs) none :: F) (fun w hw => SPI.holds hw) ?_
  refine l_mapNew (hS.none hk) Tryd.underlying76 Tryd.underlying3 rfl rfl rfl ?_
  refine l_nil ?_
  refine g_seq ?_
  refine g_region ?_
  refine gl_heap (F' := Blk sb (.cells [Value.int .i64 room, .map (some m), .pointer (fstP (xs) none), .pointer (lstP (xs) none)].toArray 79 (0, 0)) :: Seg 106 none (xs) none :: Blk (Nd.mk b63 k (.string v1)).b (.cells (ndC (Nd.mk b63 k (.string v1)) none none).toArray 106 (0, 0)) :: MapI m (kv ++ [(k, Value.pointer (some ⟨b63, 0, none⟩))]) :: F) (fun w hw => (SPI.holds hw : Holds w0 (Blk sb (.cells [Value.int .i64 room, .map (some m), .pointer (fstP (xs) none), .pointer (lstP (xs) none)].toArray 79 (0, 0)) :: Seg 106 none (xs) none :: Blk b63 (.cells [Value.int .i64 k, .string v1, .pointer none, .pointer none].toArray 106 (0, 0)) :: MapI m (kv ++ [(k, Value.pointer (some ⟨b63, 0, none⟩))]) :: F) w)) ?_
  refine l_move rfl rfl ?_
  refine l_move rfl rfl ?_
  refine l_call rfl Tryd.call57 rfl (append_is _ _ sb m room xs (Nd.mk b63 k (.string v1))) ?_; rintro _ _ ⟨rfl, rfl⟩
  refine l_nil ?_
  refine g_seq ?_
  refine g_region ?_
  refine l_move rfl rfl ?_
  refine l_move rfl rfl ?_
  refine l_assign rfl rfl ?_
  refine l_assign rfl rfl ?_
  refine l_nil ?_
  refine g_ret Tryd.func39 rfl (.tmp rfl (.tmp rfl .nil)) ?_
  exact Gives.mki ⟨b63, kv ++ [(k, Value.pointer (some ⟨b63, 0, none⟩))], by rw [decide_eq_false (show ¬ (kv.length : Int) = room by omega)]; rfl, hS.snoc (x := (Nd.mk b63 k (.string v1))) hk, rfl⟩
theorem put_full_is (w0 : World) (F : List Atom) (sb m : Nat) (room : Int) (kv : List (Int × Value)) (x0 : Nd) (xs : List Nd) (k : Int) (v1 : ByteArray) (hS : ShOk kv (x0 :: xs)) (hk : ∀ x ∈ x0 :: xs, x.k ≠ k) (hr : ((x0 :: xs).length : Int) = room) :
    CallK Tryd.prog 39 [.pointer (some ⟨sb, 0, none⟩), .int .i64 k, .string v1] w0 (Blk sb (.cells [Value.int .i64 room, .map (some m), .pointer (fstP (x0 :: xs) none), .pointer (lstP (x0 :: xs) none)].toArray 79 (0, 0)) :: Seg 106 none (x0 :: xs) none :: MapI m kv :: F) (Gives w0 fun v F2 => ∃ b kv', v = .tuple #[.int .i64 x0.k, .bool true] ∧ ShOk kv' (xs ++ [Nd.mk b k (.string v1)]) ∧ F2 = Blk sb (.cells [Value.int .i64 room, .map (some m), .pointer (fstP (xs ++ [Nd.mk b k (.string v1)]) none), .pointer (lstP (xs ++ [Nd.mk b k (.string v1)]) none)].toArray 79 (0, 0)) :: Seg 106 none (xs ++ [Nd.mk b k (.string v1)]) none :: MapI m kv' :: F) := by
  have hlen := hS.len
  have hk2 : ∀ x ∈ xs, x.k ≠ k := fun x hx => hk x (List.mem_cons_of_mem _ hx)
  refine c_enter Tryd.func39 rfl rfl rfl ?_
  refine g_seq ?_
  refine g_region ?_
  refine l_assign rfl rfl ?_
  refine l_assign rfl rfl ?_
  refine l_nil ?_
  refine g_seq ?_
  refine g_region ?_
  refine l_assign rfl rfl ?_
  refine l_nil ?_
  refine g_seq ?_
  refine g_seq ?_
  refine g_region ?_
  refine l_move rfl rfl ?_
  refine l_eqpn rfl Tryd.underlying42 rfl rfl ?_
  refine l_nil ?_
  refine g_cond_f rfl ?_
  refine g_skip ?_
  refine g_seq ?_
  refine g_seq ?_
  refine g_region ?_
  refine l_move rfl rfl ?_
  refine l_nilCheck rfl rfl ?_
  refine l_fieldAddr rfl fa_79_1 rfl ?_
  refine l_ld rfl Tryd.isAgg76 rfl rfl ?_
  refine l_move rfl rfl ?_
  refine l_look_no (hS.none hk) rfl Tryd.underlying76 Tryd.underlying3 Tryd.zeroValue77 rfl rfl (by first | exact mem_getO 0 rfl | exact mem_getO 1 rfl | exact mem_getO 2 rfl | exact mem_getO 3 rfl | exact mem_getO 4 rfl | exact mem_getO 5 rfl | exact mem_getO 6 rfl | exact mem_getO 7 rfl) ?_
  refine l_move rfl rfl ?_
  refine l_extract rfl rfl rfl ?_
  refine l_extract (v := .bool false) rfl rfl rfl ?_
  refine l_assign rfl rfl ?_
  refine l_assign rfl rfl ?_
  refine l_nil ?_
  refine g_seq ?_
  refine g_region ?_
  refine l_move rfl rfl ?_
  refine l_nil ?_
  refine g_cond_f rfl ?_
  refine g_skip ?_
  refine g_seq ?_
  refine gp_start mo (by kernel_rfl) (by kernel_rfl) ?_
  refine gp_quiet 0 rfl rfl rfl rfl rfl rfl (q_move rfl) ?_
  refine gp_quiet 1 rfl rfl rfl rfl rfl rfl (q_move rfl) ?_
  refine gp_quiet 2 rfl rfl rfl rfl rfl rfl (q_nilCheck rfl) ?_
  refine gp_quiet 3 rfl rfl rfl rfl rfl rfl (q_fieldAddr fa_79_1 rfl) ?_
  refine gp_quiet 4 rfl rfl rfl rfl rfl rfl (q_ld Tryd.isAgg76 rfl rfl) ?_
  refine gp_quiet 5 rfl rfl rfl rfl rfl rfl (q_lenm Tryd.underlying76 rfl (by first | exact mem_getO 0 rfl | exact mem_getO 1 rfl | exact mem_getO 2 rfl | exact mem_getO 3 rfl | exact mem_getO 4 rfl | exact mem_getO 5 rfl | exact mem_getO 6 rfl | exact mem_getO 7 rfl)) ?_
  refine gp_quiet 6 rfl rfl rfl rfl rfl rfl (q_move rfl) ?_
  refine gp_quiet 7 rfl rfl rfl rfl rfl rfl (q_nilCheck rfl) ?_
  refine gp_quiet 8 rfl rfl rfl rfl rfl rfl (q_fieldAddr fa_79_0 rfl) ?_
  first | refine gp_quiet 9 rfl rfl rfl rfl rfl rfl (q_ld Tryd.isAgg3 rfl rfl) ?_ | refine gp_quiet 9 rfl rfl rfl rfl rfl rfl (q_ldw Tryd.isAgg3 rfl (by omega)) ?_
  refine gp_quiet 10 rfl rfl rfl rfl rfl rfl (q_eql rfl rfl) ?_
  refine gp_quiet 11 rfl rfl rfl rfl rfl rfl (q_assign rfl) ?_
  refine gp_quiet 12 rfl rfl rfl rfl rfl rfl (q_assign rfl) ?_
  refine gp_end rfl rfl ?_
  refine g_seq ?_
  refine g_seq ?_
  refine g_region ?_
  refine l_move rfl rfl ?_
  refine l_nil ?_
  refine g_cond rfl ?_ ?_
  · intro hbr
    have hbr := of_decide_eq_true hbr
    refine g_seq ?_
    refine g_region ?_
    refine l_move rfl rfl ?_
    refine l_nilCheck rfl rfl ?_
    refine l_fieldAddr rfl fa_79_2 rfl ?_
    refine l_ld rfl Tryd.isAgg77 rfl rfl ?_
    refine l_nilCheck rfl rfl ?_
    refine l_fieldAddr rfl fa_106_0 rfl ?_
    refine l_loadc (v := .int .i64 x0.k) rfl Tryd.isAgg3 rfl (seg_cell (l1 := []) (l2 := xs) (x := x0) (show Seg 106 none (x0 :: xs) none ∈ _ from (by first | exact mem_getO 0 rfl | exact mem_getO 1 rfl | exact mem_getO 2 rfl | exact mem_getO 3 rfl | exact mem_getO 4 rfl | exact mem_getO 5 rfl | exact mem_getO 6 rfl | exact mem_getO 7 rfl)) (o := 0) rfl) ?_
    refine l_assign rfl rfl ?_
    refine l_nil ?_
    refine g_region ?_
    refine l_move rfl rfl ?_
    refine l_move rfl rfl ?_
    refine l_call rfl Tryd.call42 rfl (drop_yes_is _ _ sb m room kv [] xs x0 hS) ?_; rintro _ _ ⟨kv2, rfl, hS2, rfl⟩
    rw [List.nil_append] at hS2 ⊢
    refine l_nil ?_
    refine g_seq ?_
    refine g_region ?_
    refine l_move rfl rfl ?_
    refine l_move rfl rfl ?_
    refine l_build rfl rfl (fun w => bd_106_0_1 _ _ w) ?_
    refine l_boxs rfl rfl ?_; intro b63
    refine l_assign rfl rfl ?_
    refine l_nil ?_
    refine g_seq ?_
    refine g_region ?_
    refine l_move rfl rfl ?_
    refine l_nilCheck rfl rfl ?_
    refine l_fieldAddr rfl fa_79_1 rfl ?_
    refine l_ld rfl Tryd.isAgg76 rfl rfl ?_
    refine l_move rfl rfl ?_
    refine l_move rfl rfl ?_
    refine gl_heap (F' := MapI m kv2 :: Blk b63 (.cells [Value.int .i64 k, .string v1, .pointer none, .pointer none].toArray 106 (0, 0)) :: Blk sb (.cells [Value.int .i64 room, .map (some m), .pointer (fstP (xs) none), .pointer (lstP (xs) none)].toArray 79 (0, 0)) :: Seg 106 none (xs) none :: F) (fun w hw => SPI.holds hw) ?_
    refine l_mapNew (hS2.none hk2) Tryd.underlying76 Tryd.underlying3 rfl rfl rfl ?_
    refine l_nil ?_
    refine g_seq ?_
    refine g_region ?_
    refine gl_heap (F' := Blk sb (.cells [Value.int .i64 room, .map (some m), .pointer (fstP (xs) none), .pointer (lstP (xs) none)].toArray 79 (0, 0)) :: Seg 106 none (xs) none :: Blk (Nd.mk b63 k (.string v1)).b (.cells (ndC (Nd.mk b63 k (.string v1)) none none).toArray 106 (0, 0)) :: MapI m (kv2 ++ [(k, Value.pointer (some ⟨b63, 0, none⟩))]) :: F) (fun w hw => (SPI.holds hw : Holds w0 (Blk sb (.cells [Value.int .i64 room, .map (some m), .pointer (fstP (xs) none), .pointer (lstP (xs) none)].toArray 79 (0, 0)) :: Seg 106 none (xs) none :: Blk b63 (.cells [Value.int .i64 k, .string v1, .pointer none, .pointer none].toArray 106 (0, 0)) :: MapI m (kv2 ++ [(k, Value.pointer (some ⟨b63, 0, none⟩))]) :: F) w)) ?_
    refine l_move rfl rfl ?_
    refine l_move rfl rfl ?_
    refine l_call rfl Tryd.call57 rfl (append_is _ _ sb m room xs (Nd.mk b63 k (.string v1))) ?_; rintro _ _ ⟨rfl, rfl⟩
    refine l_nil ?_
    refine g_seq ?_
    refine g_region ?_
    refine l_move rfl rfl ?_
    refine l_move rfl rfl ?_
    refine l_assign rfl rfl ?_
    refine l_assign rfl rfl ?_
    refine l_nil ?_
    refine g_ret Tryd.func39 rfl (.tmp rfl (.tmp rfl .nil)) ?_
    exact Gives.mki ⟨b63, kv2 ++ [(k, Value.pointer (some ⟨b63, 0, none⟩))], by rw [decide_eq_true (show (kv.length : Int) = room by omega)]; rfl, hS2.snoc (x := (Nd.mk b63 k (.string v1))) hk2, rfl⟩
  · intro hbr
    have hbr := of_decide_eq_false hbr
    (exfalso; omega)
theorem put_nil_is (w0 : World) (F : List Atom) (k : Int) (v1 : ByteArray) :
    CallK Tryd.prog 39 [.pointer none, .int .i64 k, .string v1] w0 (F) (Gives w0 fun v F2 => v = .tuple #[.int .i64 0, .bool false] ∧ F2 = F) := by
  refine c_enter Tryd.func39 rfl rfl rfl ?_
  refine g_seq ?_
  refine g_region ?_
  refine l_assign rfl rfl ?_
  refine l_assign rfl rfl ?_
  refine l_nil ?_
  refine g_seq ?_
  refine g_region ?_
  refine l_assign rfl rfl ?_
  refine l_nil ?_
  refine g_seq ?_
  refine g_seq ?_
  refine g_region ?_
  refine l_move rfl rfl ?_
  refine l_eqpn rfl Tryd.underlying42 rfl rfl ?_
  refine l_nil ?_
  refine g_cond_t rfl ?_
  refine g_seq ?_
  refine g_region ?_
  refine l_move rfl rfl ?_
  refine l_assign rfl rfl ?_
  refine l_assign rfl rfl ?_
  refine l_nil ?_
  refine g_ret Tryd.func39 rfl (.tmp rfl (.tmp rfl .nil)) ?_
  exact Gives.mki ⟨rfl, rfl⟩
theorem new_is (w0 : World) (F : List Atom) (room : Int) (r1 : 1 ≤ room) (r2 : room ≤ 4096) :
    CallK Tryd.prog 14 [.int .i64 room] w0 (F) (Gives w0 fun v F2 => ∃ sb m, v = .tuple #[.pointer (some ⟨sb, 0, none⟩), .int .i64 0] ∧ F2 = Blk sb (.cells [Value.int .i64 room, .map (some m), .pointer (fstP ([]) none), .pointer (lstP ([]) none)].toArray 79 (0, 0)) :: Seg 106 none ([]) none :: MapI m [] :: F) := by
  refine c_enter Tryd.func14 rfl rfl rfl ?_
  refine g_seq ?_
  refine g_region ?_
  refine l_assign rfl rfl ?_
  refine l_assign rfl rfl ?_
  refine l_nil ?_
  refine g_seq ?_
  refine g_seq ?_
  refine g_region ?_
  refine l_move rfl rfl ?_
  refine l_lss rfl rfl rfl ?_
  refine l_move rfl rfl ?_
  refine l_split 6 rfl ?_ ?_
  · intro hbr
    have hbr := of_decide_eq_true hbr
    (exfalso; omega)
  intro hbr
  have hbr := of_decide_eq_false hbr
  refine l_guard_yes rfl rfl ?_
  refine l_move rfl rfl ?_
  refine l_guard_yes rfl rfl ?_
  refine l_gtr rfl rfl rfl ?_
  refine l_pick_f rfl rfl rfl ?_
  refine l_nil ?_
  refine g_cond rfl ?_ ?_
  · intro hbr
    have hbr := of_decide_eq_true hbr
    (exfalso; omega)
  intro hbr
  have hbr := of_decide_eq_false hbr
  refine g_skip ?_
  refine g_seq ?_
  refine g_region ?_
  refine l_move rfl rfl ?_
  refine l_makeMap rfl ?_; intro b11
  refine l_build rfl rfl (fun w => bd_79_0_1 _ _ w) ?_
  refine l_boxs rfl rfl ?_; intro b13
  refine gl_heap (F' := Blk b13 (.cells [Value.int .i64 room, .map (some b11), .pointer (fstP ([]) none), .pointer (lstP ([]) none)].toArray 79 (0, 0)) :: Seg 106 none ([]) none :: MapI b11 [] :: F) (fun w hw => (seg_nil (T := 106) (p := none) (n := none) hw).perm (List.Perm.swap ..)) ?_
  refine l_assign rfl rfl ?_
  refine l_assign rfl rfl ?_
  refine l_nil ?_
  refine g_ret Tryd.func14 rfl (.tmp rfl (.tmp rfl .nil)) ?_
  exact Gives.mki ⟨b13, b11, rfl, rfl⟩
theorem newbad_is (w0 : World) (F : List Atom) (room : Int) (hr : room < 1 ∨ 4096 < room) :
    CallK Tryd.prog 14 [.int .i64 room] w0 (F) (Gives w0 fun v F2 => v = .tuple #[.pointer none, .int .i64 60] ∧ F2 = F) := by
  refine c_enter Tryd.func14 rfl rfl rfl ?_
  refine g_seq ?_
  refine g_region ?_
  refine l_assign rfl rfl ?_
  refine l_assign rfl rfl ?_
  refine l_nil ?_
  refine g_seq ?_
  refine g_seq ?_
  refine g_region ?_
  refine l_move rfl rfl ?_
  refine l_lss rfl rfl rfl ?_
  refine l_move rfl rfl ?_
  refine l_split 6 rfl ?_ ?_
  · intro hbr
    have hbr := of_decide_eq_true hbr
    refine l_guard_no rfl rfl rfl ?_
    refine l_guard_no rfl rfl rfl ?_
    refine l_pick_t rfl rfl rfl ?_
    refine l_nil ?_
    refine g_cond_t rfl ?_
    refine g_seq ?_
    refine g_region ?_
    refine l_assign rfl rfl ?_
    refine l_assign rfl rfl ?_
    refine l_nil ?_
    refine g_ret Tryd.func14 rfl (.tmp rfl (.tmp rfl .nil)) ?_
    exact Gives.mki ⟨rfl, rfl⟩
  intro hbr
  have hbr := of_decide_eq_false hbr
  refine l_guard_yes rfl rfl ?_
  refine l_move rfl rfl ?_
  refine l_guard_yes rfl rfl ?_
  refine l_gtr rfl rfl rfl ?_
  refine l_pick_f rfl rfl rfl ?_
  refine l_nil ?_
  refine g_cond rfl ?_ ?_
  · intro hbr
    have hbr := of_decide_eq_true hbr
    refine g_seq ?_
    refine g_region ?_
    refine l_assign rfl rfl ?_
    refine l_assign rfl rfl ?_
    refine l_nil ?_
    refine g_ret Tryd.func14 rfl (.tmp rfl (.tmp rfl .nil)) ?_
    exact Gives.mki ⟨rfl, rfl⟩
  · intro hbr
    have hbr := of_decide_eq_false hbr
    (exfalso; omega)
theorem len_is (w0 : World) (F : List Atom) (sb m : Nat) (room : Int) (kv : List (Int × Value)) (xs : List Nd) (hS : ShOk kv xs) :
    CallK Tryd.prog 17 [.pointer (some ⟨sb, 0, none⟩)] w0 (Blk sb (.cells [Value.int .i64 room, .map (some m), .pointer (fstP (xs) none), .pointer (lstP (xs) none)].toArray 79 (0, 0)) :: Seg 106 none (xs) none :: MapI m kv :: F) (Gives w0 fun v F2 => v = .int .i64 (xs.length : Int) ∧ F2 = Blk sb (.cells [Value.int .i64 room, .map (some m), .pointer (fstP (xs) none), .pointer (lstP (xs) none)].toArray 79 (0, 0)) :: Seg 106 none (xs) none :: MapI m kv :: F) := by
  refine c_enter Tryd.func17 rfl rfl rfl ?_
  refine g_seq ?_
  refine g_region ?_
  refine l_assign rfl rfl ?_
  refine l_nil ?_
  refine g_seq ?_
  refine g_seq ?_
  refine g_region ?_
  refine l_move rfl rfl ?_
  refine l_eqpn rfl Tryd.underlying42 rfl rfl ?_
  refine l_nil ?_
  refine g_cond_f rfl ?_
  refine g_skip ?_
  refine g_seq ?_
  refine g_region ?_
  refine l_move rfl rfl ?_
  refine l_nilCheck rfl rfl ?_
  refine l_fieldAddr rfl fa_79_1 rfl ?_
  refine l_ld rfl Tryd.isAgg76 rfl rfl ?_
  refine l_lenm rfl Tryd.underlying76 rfl (by first | exact mem_getO 0 rfl | exact mem_getO 1 rfl | exact mem_getO 2 rfl | exact mem_getO 3 rfl | exact mem_getO 4 rfl | exact mem_getO 5 rfl | exact mem_getO 6 rfl | exact mem_getO 7 rfl) ?_
  refine l_assign rfl rfl ?_
  refine l_nil ?_
  refine g_ret Tryd.func17 rfl (.tmp rfl .nil) ?_
  exact Gives.mki ⟨by rw [hS.len]; rfl, rfl⟩
theorem lennil_is (w0 : World) (F : List Atom)  :
    CallK Tryd.prog 17 [.pointer none] w0 (F) (Gives w0 fun v F2 => v = .int .i64 0 ∧ F2 = F) := by
  refine c_enter Tryd.func17 rfl rfl rfl ?_
  refine g_seq ?_
  refine g_region ?_
  refine l_assign rfl rfl ?_
  refine l_nil ?_
  refine g_seq ?_
  refine g_seq ?_
  refine g_region ?_
  refine l_move rfl rfl ?_
  refine l_eqpn rfl Tryd.underlying42 rfl rfl ?_
  refine l_nil ?_
  refine g_cond_t rfl ?_
  refine g_seq ?_
  refine g_region ?_
  refine l_assign rfl rfl ?_
  refine l_nil ?_
  refine g_ret Tryd.func17 rfl (.tmp rfl .nil) ?_
  exact Gives.mki ⟨rfl, rfl⟩
end Go.Proofs.YtjfibfbknfeflaaDoor.Fw
