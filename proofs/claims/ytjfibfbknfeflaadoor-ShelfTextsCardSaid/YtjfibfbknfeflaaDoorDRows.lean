import Derived.Test.YtjfibfbknfeflaaDoorDBase
namespace Go.Proofs.YtjfibfbknfeflaaDoor.Fw
open Go Go.Proofs
set_option linter.unusedVariables false
set_option linter.unusedSimpArgs false
set_option maxRecDepth 10000
theorem fa_92_2 (a : Addr) (w : World) : (Instr.fieldAt 92 (.pointer (some a)) 2).run Tryd.prog w = .ok (.pointer (some (a.add 2))) w := by
  simp [Instr.fieldAt, Tryd.runUnderlying92, Instr.sureAddr, fieldPlace, Tryd.sizeOf87, Sem.run_bind, Sem.run_pure]
theorem fa_92_3 (a : Addr) (w : World) : (Instr.fieldAt 92 (.pointer (some a)) 3).run Tryd.prog w = .ok (.pointer (some (a.add 3))) w := by
  simp [Instr.fieldAt, Tryd.runUnderlying92, Instr.sureAddr, fieldPlace, Tryd.sizeOf87, Sem.run_bind, Sem.run_pure]
theorem fa_89_2 (a : Addr) (w : World) : (Instr.fieldAt 89 (.pointer (some a)) 2).run Tryd.prog w = .ok (.pointer (some (a.add 2))) w := by
  simp [Instr.fieldAt, Tryd.runUnderlying89, Instr.sureAddr, fieldPlace, Tryd.sizeOf87, Sem.run_bind, Sem.run_pure]
theorem fa_89_3 (a : Addr) (w : World) : (Instr.fieldAt 89 (.pointer (some a)) 3).run Tryd.prog w = .ok (.pointer (some (a.add 3))) w := by
  simp [Instr.fieldAt, Tryd.runUnderlying89, Instr.sureAddr, fieldPlace, Tryd.sizeOf87, Sem.run_bind, Sem.run_pure]
theorem mo : Tryd.prog.follows .mixedOrders = true := by kernel_rfl
theorem fa_106_2 (a : Addr) (w : World) : (Instr.fieldAt 106 (.pointer (some a)) 2).run Tryd.prog w = .ok (.pointer (some (a.add 2))) w := by
  simp [Instr.fieldAt, Tryd.runUnderlying106, Instr.sureAddr, fieldPlace, Tryd.sizeOf77, Sem.run_bind, Sem.run_pure]
theorem fa_106_3 (a : Addr) (w : World) : (Instr.fieldAt 106 (.pointer (some a)) 3).run Tryd.prog w = .ok (.pointer (some (a.add 3))) w := by
  simp [Instr.fieldAt, Tryd.runUnderlying106, Instr.sureAddr, fieldPlace, Tryd.sizeOf77, Sem.run_bind, Sem.run_pure]
theorem fa_79_2 (a : Addr) (w : World) : (Instr.fieldAt 79 (.pointer (some a)) 2).run Tryd.prog w = .ok (.pointer (some (a.add 2))) w := by
  simp [Instr.fieldAt, Tryd.runUnderlying79, Instr.sureAddr, fieldPlace, Tryd.sizeOf77, Sem.run_bind, Sem.run_pure]
theorem fa_79_3 (a : Addr) (w : World) : (Instr.fieldAt 79 (.pointer (some a)) 3).run Tryd.prog w = .ok (.pointer (some (a.add 3))) w := by
  simp [Instr.fieldAt, Tryd.runUnderlying79, Instr.sureAddr, fieldPlace, Tryd.sizeOf77, Sem.run_bind, Sem.run_pure]
theorem unl_a_ii (w0 : World) (F : List Atom) (sb m : Nat) (room : Int) (xb : Nat) (xk : Int) (xv : Value) (yb : Nat) (yk : Int) (yv : Value) (zb : Nat) (zk : Int) (zv : Value) (fi la p n : Option Addr) :
    CallK Tryd.prog 45 [.pointer (some ⟨sb, 0, none⟩), .pointer (some ⟨xb, 0, none⟩)] w0 (Blk sb (.cells [Value.int .i64 room, .map (some m), .pointer (some ⟨xb, 0, none⟩), .pointer (some ⟨xb, 0, none⟩)].toArray 89 (0, 0)) :: Blk xb (.cells [Value.int .i64 xk, xv, .pointer none, .pointer none].toArray 92 (0, 0)) :: F) (Gives w0 fun v F2 => v = .tuple #[] ∧ F2 = Blk sb (.cells [Value.int .i64 room, .map (some m), .pointer none, .pointer none].toArray 89 (0, 0)) :: Blk xb (.cells [Value.int .i64 xk, xv, .pointer none, .pointer none].toArray 92 (0, 0)) :: F) := by
  refine c_enter Tryd.func45 rfl rfl rfl ?_
  refine g_seq ?_
  refine g_seq ?_
  refine g_region ?_
  refine l_move rfl rfl ?_
  refine l_nilCheck rfl rfl ?_
  refine l_fieldAddr rfl fa_92_2 rfl ?_
  refine l_ld rfl Tryd.isAgg87 rfl rfl ?_
  refine l_eqpn rfl Tryd.underlying87 rfl rfl ?_
  refine l_nil ?_
  refine g_cond_t rfl ?_
  refine g_region ?_
  refine l_move rfl rfl ?_
  refine l_move rfl rfl ?_
  refine l_nilCheck rfl rfl ?_
  refine l_fieldAddr rfl fa_92_3 rfl ?_
  refine l_ld rfl Tryd.isAgg87 rfl rfl ?_
  refine l_nilCheck rfl rfl ?_
  refine l_fieldAddr rfl fa_89_2 rfl ?_
  refine l_st Tryd.sizeOf87 rfl rfl rfl rfl ?_
  refine l_nil ?_
  refine g_seq ?_
  refine g_seq ?_
  refine g_region ?_
  refine l_move rfl rfl ?_
  refine l_nilCheck rfl rfl ?_
  refine l_fieldAddr rfl fa_92_3 rfl ?_
  refine l_ld rfl Tryd.isAgg87 rfl rfl ?_
  refine l_eqpn rfl Tryd.underlying87 rfl rfl ?_
  refine l_nil ?_
  refine g_cond_t rfl ?_
  refine g_region ?_
  refine l_move rfl rfl ?_
  refine l_move rfl rfl ?_
  refine l_nilCheck rfl rfl ?_
  refine l_fieldAddr rfl fa_92_2 rfl ?_
  refine l_ld rfl Tryd.isAgg87 rfl rfl ?_
  refine l_nilCheck rfl rfl ?_
  refine l_fieldAddr rfl fa_89_3 rfl ?_
  refine l_st Tryd.sizeOf87 rfl rfl rfl rfl ?_
  refine l_nil ?_
  refine g_region ?_
  refine l_move rfl rfl ?_
  refine l_move rfl rfl ?_
  refine l_nilCheck rfl rfl ?_
  refine l_fieldAddr rfl fa_92_2 rfl ?_
  refine l_st Tryd.sizeOf87 rfl rfl rfl rfl ?_
  refine l_nilCheck rfl rfl ?_
  refine l_fieldAddr rfl fa_92_3 rfl ?_
  refine l_st Tryd.sizeOf87 rfl rfl rfl rfl ?_
  refine l_nil ?_
  refine g_end Tryd.func45 rfl .nil ?_
  exact Gives.mki ⟨rfl, rfl⟩
theorem unl_b_ii (w0 : World) (F : List Atom) (sb m : Nat) (room : Int) (xb : Nat) (xk : Int) (xv : Value) (yb : Nat) (yk : Int) (yv : Value) (zb : Nat) (zk : Int) (zv : Value) (fi la p n : Option Addr) :
    CallK Tryd.prog 45 [.pointer (some ⟨sb, 0, none⟩), .pointer (some ⟨xb, 0, none⟩)] w0 (Blk sb (.cells [Value.int .i64 room, .map (some m), .pointer (some ⟨xb, 0, none⟩), .pointer la].toArray 89 (0, 0)) :: Blk xb (.cells [Value.int .i64 xk, xv, .pointer none, .pointer (some ⟨zb, 0, none⟩)].toArray 92 (0, 0)) :: Blk zb (.cells [Value.int .i64 zk, zv, .pointer (some ⟨xb, 0, none⟩), .pointer n].toArray 92 (0, 0)) :: F) (Gives w0 fun v F2 => v = .tuple #[] ∧ F2 = Blk sb (.cells [Value.int .i64 room, .map (some m), .pointer (some ⟨zb, 0, none⟩), .pointer la].toArray 89 (0, 0)) :: Blk xb (.cells [Value.int .i64 xk, xv, .pointer none, .pointer none].toArray 92 (0, 0)) :: Blk zb (.cells [Value.int .i64 zk, zv, .pointer none, .pointer n].toArray 92 (0, 0)) :: F) := by
  refine c_enter Tryd.func45 rfl rfl rfl ?_
  refine g_seq ?_
  refine g_seq ?_
  refine g_region ?_
  refine l_move rfl rfl ?_
  refine l_nilCheck rfl rfl ?_
  refine l_fieldAddr rfl fa_92_2 rfl ?_
  refine l_ld rfl Tryd.isAgg87 rfl rfl ?_
  refine l_eqpn rfl Tryd.underlying87 rfl rfl ?_
  refine l_nil ?_
  refine g_cond_t rfl ?_
  refine g_region ?_
  refine l_move rfl rfl ?_
  refine l_move rfl rfl ?_
  refine l_nilCheck rfl rfl ?_
  refine l_fieldAddr rfl fa_92_3 rfl ?_
  refine l_ld rfl Tryd.isAgg87 rfl rfl ?_
  refine l_nilCheck rfl rfl ?_
  refine l_fieldAddr rfl fa_89_2 rfl ?_
  refine l_st Tryd.sizeOf87 rfl rfl rfl rfl ?_
  refine l_nil ?_
  refine g_seq ?_
  refine g_seq ?_
  refine g_region ?_
  refine l_move rfl rfl ?_
  refine l_nilCheck rfl rfl ?_
  refine l_fieldAddr rfl fa_92_3 rfl ?_
  refine l_ld rfl Tryd.isAgg87 rfl rfl ?_
  refine l_eqpn rfl Tryd.underlying87 rfl rfl ?_
  refine l_nil ?_
  refine g_cond_f rfl ?_
  refine gp_start mo (by kernel_rfl) (by kernel_rfl) ?_
  refine gp_quiet 0 rfl rfl rfl rfl rfl rfl (q_move rfl) ?_
  refine gp_quiet 1 rfl rfl rfl rfl rfl rfl (q_nilCheck rfl) ?_
  refine gp_quiet 2 rfl rfl rfl rfl rfl rfl (q_fieldAddr fa_92_3 rfl) ?_
  refine gp_quiet 3 rfl rfl rfl rfl rfl rfl (q_ld Tryd.isAgg87 rfl rfl) ?_
  refine gp_quiet 4 rfl rfl rfl rfl rfl rfl (q_move rfl) ?_
  refine gp_quiet 5 rfl rfl rfl rfl rfl rfl (q_nilCheck rfl) ?_
  refine gp_quiet 6 rfl rfl rfl rfl rfl rfl (q_fieldAddr fa_92_2 rfl) ?_
  refine gp_quiet 7 rfl rfl rfl rfl rfl rfl (q_ld Tryd.isAgg87 rfl rfl) ?_
  refine gp_quiet 8 rfl rfl rfl rfl rfl rfl (q_nilCheck rfl) ?_
  refine gp_quiet 9 rfl rfl rfl rfl rfl rfl (q_fieldAddr fa_92_2 rfl) ?_
  refine gp_effa 10 [0, 1, 2, 3, 4, 5, 6, 7, 9] [8] rfl rfl rfl rfl rfl rfl rfl (does_st Tryd.sizeOf87 rfl rfl rfl rfl) ?_
  rintro _ _ ⟨rfl, rfl⟩
  refine ⟨?_, ?_⟩
  · refine .cons rfl rfl rfl rfl rfl (q_nilCheck rfl) ?_
    exact .nil
  refine gp_end rfl rfl ?_
  refine g_region ?_
  refine l_move rfl rfl ?_
  refine l_move rfl rfl ?_
  refine l_nilCheck rfl rfl ?_
  refine l_fieldAddr rfl fa_92_2 rfl ?_
  refine l_st Tryd.sizeOf87 rfl rfl rfl rfl ?_
  refine l_nilCheck rfl rfl ?_
  refine l_fieldAddr rfl fa_92_3 rfl ?_
  refine l_st Tryd.sizeOf87 rfl rfl rfl rfl ?_
  refine l_nil ?_
  refine g_end Tryd.func45 rfl .nil ?_
  exact Gives.mki ⟨rfl, rfl⟩
theorem unl_c_ii (w0 : World) (F : List Atom) (sb m : Nat) (room : Int) (xb : Nat) (xk : Int) (xv : Value) (yb : Nat) (yk : Int) (yv : Value) (zb : Nat) (zk : Int) (zv : Value) (fi la p n : Option Addr) :
    CallK Tryd.prog 45 [.pointer (some ⟨sb, 0, none⟩), .pointer (some ⟨xb, 0, none⟩)] w0 (Blk sb (.cells [Value.int .i64 room, .map (some m), .pointer fi, .pointer (some ⟨xb, 0, none⟩)].toArray 89 (0, 0)) :: Blk yb (.cells [Value.int .i64 yk, yv, .pointer p, .pointer (some ⟨xb, 0, none⟩)].toArray 92 (0, 0)) :: Blk xb (.cells [Value.int .i64 xk, xv, .pointer (some ⟨yb, 0, none⟩), .pointer none].toArray 92 (0, 0)) :: F) (Gives w0 fun v F2 => v = .tuple #[] ∧ F2 = Blk sb (.cells [Value.int .i64 room, .map (some m), .pointer fi, .pointer (some ⟨yb, 0, none⟩)].toArray 89 (0, 0)) :: Blk yb (.cells [Value.int .i64 yk, yv, .pointer p, .pointer none].toArray 92 (0, 0)) :: Blk xb (.cells [Value.int .i64 xk, xv, .pointer none, .pointer none].toArray 92 (0, 0)) :: F) := by
  refine c_enter Tryd.func45 rfl rfl rfl ?_
  refine g_seq ?_
  refine g_seq ?_
  refine g_region ?_
  refine l_move rfl rfl ?_
  refine l_nilCheck rfl rfl ?_
  refine l_fieldAddr rfl fa_92_2 rfl ?_
  refine l_ld rfl Tryd.isAgg87 rfl rfl ?_
  refine l_eqpn rfl Tryd.underlying87 rfl rfl ?_
  refine l_nil ?_
  refine g_cond_f rfl ?_
  refine gp_start mo (by kernel_rfl) (by kernel_rfl) ?_
  refine gp_quiet 0 rfl rfl rfl rfl rfl rfl (q_move rfl) ?_
  refine gp_quiet 1 rfl rfl rfl rfl rfl rfl (q_nilCheck rfl) ?_
  refine gp_quiet 2 rfl rfl rfl rfl rfl rfl (q_fieldAddr fa_92_2 rfl) ?_
  refine gp_quiet 3 rfl rfl rfl rfl rfl rfl (q_ld Tryd.isAgg87 rfl rfl) ?_
  refine gp_quiet 4 rfl rfl rfl rfl rfl rfl (q_move rfl) ?_
  refine gp_quiet 5 rfl rfl rfl rfl rfl rfl (q_nilCheck rfl) ?_
  refine gp_quiet 6 rfl rfl rfl rfl rfl rfl (q_fieldAddr fa_92_3 rfl) ?_
  refine gp_quiet 7 rfl rfl rfl rfl rfl rfl (q_ld Tryd.isAgg87 rfl rfl) ?_
  refine gp_quiet 8 rfl rfl rfl rfl rfl rfl (q_nilCheck rfl) ?_
  refine gp_quiet 9 rfl rfl rfl rfl rfl rfl (q_fieldAddr fa_92_3 rfl) ?_
  refine gp_effa 10 [0, 1, 2, 3, 4, 5, 6, 7, 9] [8] rfl rfl rfl rfl rfl rfl rfl (does_st Tryd.sizeOf87 rfl rfl rfl rfl) ?_
  rintro _ _ ⟨rfl, rfl⟩
  refine ⟨?_, ?_⟩
  · refine .cons rfl rfl rfl rfl rfl (q_nilCheck rfl) ?_
    exact .nil
  refine gp_end rfl rfl ?_
  refine g_seq ?_
  refine g_seq ?_
  refine g_region ?_
  refine l_move rfl rfl ?_
  refine l_nilCheck rfl rfl ?_
  refine l_fieldAddr rfl fa_92_3 rfl ?_
  refine l_ld rfl Tryd.isAgg87 rfl rfl ?_
  refine l_eqpn rfl Tryd.underlying87 rfl rfl ?_
  refine l_nil ?_
  refine g_cond_t rfl ?_
  refine g_region ?_
  refine l_move rfl rfl ?_
  refine l_move rfl rfl ?_
  refine l_nilCheck rfl rfl ?_
  refine l_fieldAddr rfl fa_92_2 rfl ?_
  refine l_ld rfl Tryd.isAgg87 rfl rfl ?_
  refine l_nilCheck rfl rfl ?_
  refine l_fieldAddr rfl fa_89_3 rfl ?_
  refine l_st Tryd.sizeOf87 rfl rfl rfl rfl ?_
  refine l_nil ?_
  refine g_region ?_
  refine l_move rfl rfl ?_
  refine l_move rfl rfl ?_
  refine l_nilCheck rfl rfl ?_
  refine l_fieldAddr rfl fa_92_2 rfl ?_
  refine l_st Tryd.sizeOf87 rfl rfl rfl rfl ?_
  refine l_nilCheck rfl rfl ?_
  refine l_fieldAddr rfl fa_92_3 rfl ?_
  refine l_st Tryd.sizeOf87 rfl rfl rfl rfl ?_
  refine l_nil ?_
  refine g_end Tryd.func45 rfl .nil ?_
  exact Gives.mki ⟨rfl, rfl⟩
theorem unl_d_ii (w0 : World) (F : List Atom) (sb m : Nat) (room : Int) (xb : Nat) (xk : Int) (xv : Value) (yb : Nat) (yk : Int) (yv : Value) (zb : Nat) (zk : Int) (zv : Value) (fi la p n : Option Addr) :
    CallK Tryd.prog 45 [.pointer (some ⟨sb, 0, none⟩), .pointer (some ⟨xb, 0, none⟩)] w0 (Blk sb (.cells [Value.int .i64 room, .map (some m), .pointer fi, .pointer la].toArray 89 (0, 0)) :: Blk yb (.cells [Value.int .i64 yk, yv, .pointer p, .pointer (some ⟨xb, 0, none⟩)].toArray 92 (0, 0)) :: Blk xb (.cells [Value.int .i64 xk, xv, .pointer (some ⟨yb, 0, none⟩), .pointer (some ⟨zb, 0, none⟩)].toArray 92 (0, 0)) :: Blk zb (.cells [Value.int .i64 zk, zv, .pointer (some ⟨xb, 0, none⟩), .pointer n].toArray 92 (0, 0)) :: F) (Gives w0 fun v F2 => v = .tuple #[] ∧ F2 = Blk sb (.cells [Value.int .i64 room, .map (some m), .pointer fi, .pointer la].toArray 89 (0, 0)) :: Blk yb (.cells [Value.int .i64 yk, yv, .pointer p, .pointer (some ⟨zb, 0, none⟩)].toArray 92 (0, 0)) :: Blk xb (.cells [Value.int .i64 xk, xv, .pointer none, .pointer none].toArray 92 (0, 0)) :: Blk zb (.cells [Value.int .i64 zk, zv, .pointer (some ⟨yb, 0, none⟩), .pointer n].toArray 92 (0, 0)) :: F) := by
  refine c_enter Tryd.func45 rfl rfl rfl ?_
  refine g_seq ?_
  refine g_seq ?_
  refine g_region ?_
  refine l_move rfl rfl ?_
  refine l_nilCheck rfl rfl ?_
  refine l_fieldAddr rfl fa_92_2 rfl ?_
  refine l_ld rfl Tryd.isAgg87 rfl rfl ?_
  refine l_eqpn rfl Tryd.underlying87 rfl rfl ?_
  refine l_nil ?_
  refine g_cond_f rfl ?_
  refine gp_start mo (by kernel_rfl) (by kernel_rfl) ?_
  refine gp_quiet 0 rfl rfl rfl rfl rfl rfl (q_move rfl) ?_
  refine gp_quiet 1 rfl rfl rfl rfl rfl rfl (q_nilCheck rfl) ?_
  refine gp_quiet 2 rfl rfl rfl rfl rfl rfl (q_fieldAddr fa_92_2 rfl) ?_
  refine gp_quiet 3 rfl rfl rfl rfl rfl rfl (q_ld Tryd.isAgg87 rfl rfl) ?_
  refine gp_quiet 4 rfl rfl rfl rfl rfl rfl (q_move rfl) ?_
  refine gp_quiet 5 rfl rfl rfl rfl rfl rfl (q_nilCheck rfl) ?_
  refine gp_quiet 6 rfl rfl rfl rfl rfl rfl (q_fieldAddr fa_92_3 rfl) ?_
  refine gp_quiet 7 rfl rfl rfl rfl rfl rfl (q_ld Tryd.isAgg87 rfl rfl) ?_
  refine gp_quiet 8 rfl rfl rfl rfl rfl rfl (q_nilCheck rfl) ?_
  refine gp_quiet 9 rfl rfl rfl rfl rfl rfl (q_fieldAddr fa_92_3 rfl) ?_
  refine gp_effa 10 [0, 1, 2, 3, 4, 5, 6, 7, 9] [8] rfl rfl rfl rfl rfl rfl rfl (does_st Tryd.sizeOf87 rfl rfl rfl rfl) ?_
  rintro _ _ ⟨rfl, rfl⟩
  refine ⟨?_, ?_⟩
  · refine .cons rfl rfl rfl rfl rfl (q_nilCheck rfl) ?_
    exact .nil
  refine gp_end rfl rfl ?_
  refine g_seq ?_
  refine g_seq ?_
  refine g_region ?_
  refine l_move rfl rfl ?_
  refine l_nilCheck rfl rfl ?_
  refine l_fieldAddr rfl fa_92_3 rfl ?_
  refine l_ld rfl Tryd.isAgg87 rfl rfl ?_
  refine l_eqpn rfl Tryd.underlying87 rfl rfl ?_
  refine l_nil ?_
  refine g_cond_f rfl ?_
  refine gp_start mo (by kernel_rfl) (by kernel_rfl) ?_
  refine gp_quiet 0 rfl rfl rfl rfl rfl rfl (q_move rfl) ?_
  refine gp_quiet 1 rfl rfl rfl rfl rfl rfl (q_nilCheck rfl) ?_
  refine gp_quiet 2 rfl rfl rfl rfl rfl rfl (q_fieldAddr fa_92_3 rfl) ?_
  refine gp_quiet 3 rfl rfl rfl rfl rfl rfl (q_ld Tryd.isAgg87 rfl rfl) ?_
  refine gp_quiet 4 rfl rfl rfl rfl rfl rfl (q_move rfl) ?_
  refine gp_quiet 5 rfl rfl rfl rfl rfl rfl (q_nilCheck rfl) ?_
  refine gp_quiet 6 rfl rfl rfl rfl rfl rfl (q_fieldAddr fa_92_2 rfl) ?_
  refine gp_quiet 7 rfl rfl rfl rfl rfl rfl (q_ld Tryd.isAgg87 rfl rfl) ?_
  refine gp_quiet 8 rfl rfl rfl rfl rfl rfl (q_nilCheck rfl) ?_
  refine gp_quiet 9 rfl rfl rfl rfl rfl rfl (q_fieldAddr fa_92_2 rfl) ?_
  refine gp_effa 10 [0, 1, 2, 3, 4, 5, 6, 7, 9] [8] rfl rfl rfl rfl rfl rfl rfl (does_st Tryd.sizeOf87 rfl rfl rfl rfl) ?_
  rintro _ _ ⟨rfl, rfl⟩
  refine ⟨?_, ?_⟩
  · refine .cons rfl rfl rfl rfl rfl (q_nilCheck rfl) ?_
    exact .nil
  refine gp_end rfl rfl ?_
  refine g_region ?_
  refine l_move rfl rfl ?_
  refine l_move rfl rfl ?_
  refine l_nilCheck rfl rfl ?_
  refine l_fieldAddr rfl fa_92_2 rfl ?_
  refine l_st Tryd.sizeOf87 rfl rfl rfl rfl ?_
  refine l_nilCheck rfl rfl ?_
  refine l_fieldAddr rfl fa_92_3 rfl ?_
  refine l_st Tryd.sizeOf87 rfl rfl rfl rfl ?_
  refine l_nil ?_
  refine g_end Tryd.func45 rfl .nil ?_
  exact Gives.mki ⟨rfl, rfl⟩
theorem app_0_ii (w0 : World) (F : List Atom) (sb m : Nat) (room : Int) (xb : Nat) (xk : Int) (xv : Value) (yb : Nat) (yk : Int) (yv : Value) (zb : Nat) (zk : Int) (zv : Value) (fi la p n : Option Addr) :
    CallK Tryd.prog 46 [.pointer (some ⟨sb, 0, none⟩), .pointer (some ⟨xb, 0, none⟩)] w0 (Blk sb (.cells [Value.int .i64 room, .map (some m), .pointer none, .pointer none].toArray 89 (0, 0)) :: Blk xb (.cells [Value.int .i64 xk, xv, .pointer none, .pointer none].toArray 92 (0, 0)) :: F) (Gives w0 fun v F2 => v = .tuple #[] ∧ F2 = Blk sb (.cells [Value.int .i64 room, .map (some m), .pointer (some ⟨xb, 0, none⟩), .pointer (some ⟨xb, 0, none⟩)].toArray 89 (0, 0)) :: Blk xb (.cells [Value.int .i64 xk, xv, .pointer none, .pointer none].toArray 92 (0, 0)) :: F) := by
  refine c_enter Tryd.func46 rfl rfl rfl ?_
  refine g_seq ?_
  refine g_region ?_
  refine l_move rfl rfl ?_
  refine l_move rfl rfl ?_
  refine l_nilCheck rfl rfl ?_
  refine l_fieldAddr rfl fa_89_3 rfl ?_
  refine l_ld rfl Tryd.isAgg87 rfl rfl ?_
  refine l_nilCheck rfl rfl ?_
  refine l_fieldAddr rfl fa_92_2 rfl ?_
  refine l_st Tryd.sizeOf87 rfl rfl rfl rfl ?_
  refine l_nil ?_
  refine g_seq ?_
  refine g_seq ?_
  refine g_region ?_
  refine l_move rfl rfl ?_
  refine l_nilCheck rfl rfl ?_
  refine l_fieldAddr rfl fa_89_3 rfl ?_
  refine l_ld rfl Tryd.isAgg87 rfl rfl ?_
  refine l_eqpn rfl Tryd.underlying87 rfl rfl ?_
  refine l_nil ?_
  refine g_cond_t rfl ?_
  refine g_region ?_
  refine l_move rfl rfl ?_
  refine l_move rfl rfl ?_
  refine l_nilCheck rfl rfl ?_
  refine l_fieldAddr rfl fa_89_2 rfl ?_
  refine l_st Tryd.sizeOf87 rfl rfl rfl rfl ?_
  refine l_nil ?_
  refine g_region ?_
  refine l_move rfl rfl ?_
  refine l_move rfl rfl ?_
  refine l_nilCheck rfl rfl ?_
  refine l_fieldAddr rfl fa_89_3 rfl ?_
  refine l_st Tryd.sizeOf87 rfl rfl rfl rfl ?_
  refine l_nil ?_
  refine g_end Tryd.func46 rfl .nil ?_
  exact Gives.mki ⟨rfl, rfl⟩
theorem app_1_ii (w0 : World) (F : List Atom) (sb m : Nat) (room : Int) (xb : Nat) (xk : Int) (xv : Value) (yb : Nat) (yk : Int) (yv : Value) (zb : Nat) (zk : Int) (zv : Value) (fi la p n : Option Addr) :
    CallK Tryd.prog 46 [.pointer (some ⟨sb, 0, none⟩), .pointer (some ⟨xb, 0, none⟩)] w0 (Blk sb (.cells [Value.int .i64 room, .map (some m), .pointer fi, .pointer (some ⟨yb, 0, none⟩)].toArray 89 (0, 0)) :: Blk yb (.cells [Value.int .i64 yk, yv, .pointer p, .pointer none].toArray 92 (0, 0)) :: Blk xb (.cells [Value.int .i64 xk, xv, .pointer none, .pointer none].toArray 92 (0, 0)) :: F) (Gives w0 fun v F2 => v = .tuple #[] ∧ F2 = Blk sb (.cells [Value.int .i64 room, .map (some m), .pointer fi, .pointer (some ⟨xb, 0, none⟩)].toArray 89 (0, 0)) :: Blk yb (.cells [Value.int .i64 yk, yv, .pointer p, .pointer (some ⟨xb, 0, none⟩)].toArray 92 (0, 0)) :: Blk xb (.cells [Value.int .i64 xk, xv, .pointer (some ⟨yb, 0, none⟩), .pointer none].toArray 92 (0, 0)) :: F) := by
  refine c_enter Tryd.func46 rfl rfl rfl ?_
  refine g_seq ?_
  refine g_region ?_
  refine l_move rfl rfl ?_
  refine l_move rfl rfl ?_
  refine l_nilCheck rfl rfl ?_
  refine l_fieldAddr rfl fa_89_3 rfl ?_
  refine l_ld rfl Tryd.isAgg87 rfl rfl ?_
  refine l_nilCheck rfl rfl ?_
  refine l_fieldAddr rfl fa_92_2 rfl ?_
  refine l_st Tryd.sizeOf87 rfl rfl rfl rfl ?_
  refine l_nil ?_
  refine g_seq ?_
  refine g_seq ?_
  refine g_region ?_
  refine l_move rfl rfl ?_
  refine l_nilCheck rfl rfl ?_
  refine l_fieldAddr rfl fa_89_3 rfl ?_
  refine l_ld rfl Tryd.isAgg87 rfl rfl ?_
  refine l_eqpn rfl Tryd.underlying87 rfl rfl ?_
  refine l_nil ?_
  refine g_cond_f rfl ?_
  refine g_region ?_
  refine l_move rfl rfl ?_
  refine l_nilCheck rfl rfl ?_
  refine l_fieldAddr rfl fa_89_3 rfl ?_
  refine l_ld rfl Tryd.isAgg87 rfl rfl ?_
  refine l_move rfl rfl ?_
  refine l_nilCheck rfl rfl ?_
  refine l_fieldAddr rfl fa_92_3 rfl ?_
  refine l_st Tryd.sizeOf87 rfl rfl rfl rfl ?_
  refine l_nil ?_
  refine g_region ?_
  refine l_move rfl rfl ?_
  refine l_move rfl rfl ?_
  refine l_nilCheck rfl rfl ?_
  refine l_fieldAddr rfl fa_89_3 rfl ?_
  refine l_st Tryd.sizeOf87 rfl rfl rfl rfl ?_
  refine l_nil ?_
  refine g_end Tryd.func46 rfl .nil ?_
  exact Gives.mki ⟨rfl, rfl⟩
theorem unlink_ii (w0 : World) (F : List Atom) (sb m : Nat) (room : Int) (l1 l2 : List Nd) (x : Nd) : CallK Tryd.prog 45 [.pointer (some ⟨sb, 0, none⟩), .pointer x.p] w0 (Blk sb (.cells [Value.int .i64 room, .map (some m), .pointer (fstP (l1 ++ x :: l2) none), .pointer (lstP (l1 ++ x :: l2) none)].toArray 89 (0, 0)) :: Seg 92 none (l1 ++ x :: l2) none :: F) (Gives w0 fun v F2 => v = .tuple #[] ∧ F2 = Blk sb (.cells [Value.int .i64 room, .map (some m), .pointer (fstP (l1 ++ l2) none), .pointer (lstP (l1 ++ l2) none)].toArray 89 (0, 0)) :: Seg 92 none (l1 ++ l2) none :: Blk x.b (.cells (ndC x none none).toArray 92 (0, 0)) :: F) := by
  rcases List.eq_nil_or_concat l1 with rfl | ⟨l1, y, rfl⟩
  · cases l2 with
    | nil =>
      refine CallK.heap (F2 := Blk sb (.cells [Value.int .i64 room, .map (some m), .pointer x.p, .pointer x.p].toArray 89 (0, 0)) :: Blk x.b (.cells (ndC x none none).toArray 92 (0, 0)) :: F) (CallK.mono (unl_a_ii w0 F sb m room x.b x.k x.v 0 0 x.v 0 0 x.v none none none none) ?_) (fun w hw => ?_)
      · rintro en F2 ⟨v, F3, rfl, ⟨rfl, rfl⟩, h⟩
        exact ⟨_, _, rfl, ⟨rfl, rfl⟩, fun w hw => (seg_nil ((h w hw).perm (List.Perm.swap ..))).perm ((List.Perm.cons _ (List.Perm.swap ..)).trans (List.Perm.swap ..))⟩
      · exact (seg_one.1 (hw.perm (List.Perm.swap ..))).perm (List.Perm.swap ..)
    | cons z l2 =>
      refine CallK.heap (F2 := Blk sb (.cells [Value.int .i64 room, .map (some m), .pointer x.p, .pointer (lstP l2 z.p)].toArray 89 (0, 0)) :: Blk x.b (.cells (ndC x none z.p).toArray 92 (0, 0)) :: Blk z.b (.cells (ndC z x.p (fstP l2 none)).toArray 92 (0, 0)) :: Seg 92 z.p (l2) none :: F) (CallK.mono (unl_b_ii w0 (Seg 92 z.p (l2) none :: F) sb m room x.b x.k x.v 0 0 x.v z.b z.k z.v none (lstP l2 z.p) none (fstP l2 none)) ?_) (fun w hw => ?_)
      · rintro en F2 ⟨v, F3, rfl, ⟨rfl, rfl⟩, h⟩
        refine ⟨_, _, rfl, ⟨rfl, rfl⟩, fun w hw => ?_⟩
        have h0 : Holds w0 (Blk sb (.cells [Value.int .i64 room, .map (some m), .pointer z.p, .pointer (lstP l2 z.p)].toArray 89 (0, 0)) :: Blk x.b (.cells (ndC x none none).toArray 92 (0, 0)) :: Blk z.b (.cells (ndC z none (fstP l2 none)).toArray 92 (0, 0)) :: Seg 92 z.p (l2) none :: F) w := h w hw
        have h1 : Holds w0 (Blk z.b (.cells (ndC z none (fstP l2 none)).toArray 92 (0, 0)) :: Seg 92 z.p (l2) none :: Blk sb (.cells [Value.int .i64 room, .map (some m), .pointer z.p, .pointer (lstP l2 z.p)].toArray 89 (0, 0)) :: Blk x.b (.cells (ndC x none none).toArray 92 (0, 0)) :: F) w := SPI.holds h0
        have h2 : Holds w0 (Seg 92 none ([] ++ z :: l2) none :: Blk sb (.cells [Value.int .i64 room, .map (some m), .pointer z.p, .pointer (lstP l2 z.p)].toArray 89 (0, 0)) :: Blk x.b (.cells (ndC x none none).toArray 92 (0, 0)) :: F) w := seg_to rfl rfl (seg_nil h1)
        exact h2.perm (List.Perm.swap ..)
      · have h1 : Holds w0 (Seg 92 none [] x.p :: Blk x.b (.cells (ndC x none z.p).toArray 92 (0, 0)) :: Seg 92 x.p (z :: l2) none :: Blk sb (.cells [Value.int .i64 room, .map (some m), .pointer x.p, .pointer (lstP l2 z.p)].toArray 89 (0, 0)) :: F) w := seg_at (l1 := []) (l2 := z :: l2) (hw.perm (List.Perm.swap ..))
        have h2 : Holds w0 (Seg 92 x.p ([] ++ z :: l2) none :: Blk x.b (.cells (ndC x none z.p).toArray 92 (0, 0)) :: Blk sb (.cells [Value.int .i64 room, .map (some m), .pointer x.p, .pointer (lstP l2 z.p)].toArray 89 (0, 0)) :: F) w := h1.tail.perm (List.Perm.swap ..)
        have h3 : Holds w0 (Seg 92 x.p [] z.p :: Blk z.b (.cells (ndC z x.p (fstP l2 none)).toArray 92 (0, 0)) :: Seg 92 z.p (l2) none :: Blk x.b (.cells (ndC x none z.p).toArray 92 (0, 0)) :: Blk sb (.cells [Value.int .i64 room, .map (some m), .pointer x.p, .pointer (lstP l2 z.p)].toArray 89 (0, 0)) :: F) w := seg_at h2
        exact SPI.holds h3.tail
  · rw [List.concat_eq_append]
    cases l2 with
    | nil =>
      simp only [List.append_nil, fstP_app, lstP_app, fstP_nil, fstP_cons, lstP]
      refine CallK.heap (F2 := Blk sb (.cells [Value.int .i64 room, .map (some m), .pointer (fstP l1 y.p), .pointer x.p].toArray 89 (0, 0)) :: Blk y.b (.cells (ndC y (lstP l1 none) x.p).toArray 92 (0, 0)) :: Blk x.b (.cells (ndC x y.p none).toArray 92 (0, 0)) :: Seg 92 none (l1) y.p :: F) (CallK.mono (unl_c_ii w0 (Seg 92 none (l1) y.p :: F) sb m room x.b x.k x.v y.b y.k y.v 0 0 x.v (fstP l1 y.p) none (lstP l1 none) none) ?_) (fun w hw => ?_)
      · rintro en F2 ⟨v, F3, rfl, ⟨rfl, rfl⟩, h⟩
        refine ⟨_, _, rfl, ⟨rfl, rfl⟩, fun w hw => ?_⟩
        have h0 : Holds w0 (Blk sb (.cells [Value.int .i64 room, .map (some m), .pointer (fstP l1 y.p), .pointer y.p].toArray 89 (0, 0)) :: Blk y.b (.cells (ndC y (lstP l1 none) none).toArray 92 (0, 0)) :: Blk x.b (.cells (ndC x none none).toArray 92 (0, 0)) :: Seg 92 none (l1) y.p :: F) w := h w hw
        have h1 : Holds w0 (Seg 92 none (l1) y.p :: Blk y.b (.cells (ndC y (lstP l1 none) none).toArray 92 (0, 0)) :: Blk sb (.cells [Value.int .i64 room, .map (some m), .pointer (fstP l1 y.p), .pointer y.p].toArray 89 (0, 0)) :: Blk x.b (.cells (ndC x none none).toArray 92 (0, 0)) :: F) w := SPI.holds h0
        have h2 : Holds w0 (Seg 92 none (l1) y.p :: Blk y.b (.cells (ndC y (lstP l1 none) none).toArray 92 (0, 0)) :: Seg 92 y.p [] none :: Blk sb (.cells [Value.int .i64 room, .map (some m), .pointer (fstP l1 y.p), .pointer y.p].toArray 89 (0, 0)) :: Blk x.b (.cells (ndC x none none).toArray 92 (0, 0)) :: F) w := (seg_nil (T := 92) (p := y.p) (n := none) h1).perm ((List.Perm.swap ..).trans (List.Perm.cons _ (List.Perm.swap ..)))
        have h3 : Holds w0 (Seg 92 none (l1 ++ [y]) none :: Blk sb (.cells [Value.int .i64 room, .map (some m), .pointer (fstP l1 y.p), .pointer y.p].toArray 89 (0, 0)) :: Blk x.b (.cells (ndC x none none).toArray 92 (0, 0)) :: F) w := seg_to rfl rfl h2
        exact h3.perm (List.Perm.swap ..)
      · have h1 : Holds w0 (Seg 92 none (l1 ++ [y]) x.p :: Blk x.b (.cells (ndC x (lstP (l1 ++ [y]) none) none).toArray 92 (0, 0)) :: Seg 92 x.p [] none :: Blk sb (.cells [Value.int .i64 room, .map (some m), .pointer (fstP l1 y.p), .pointer x.p].toArray 89 (0, 0)) :: F) w := seg_at (l1 := l1 ++ [y]) (l2 := []) (hw.perm (List.Perm.swap ..))
        simp only [lstP_app, lstP] at h1
        have h2 : Holds w0 (Seg 92 none (l1) y.p :: Blk y.b (.cells (ndC y (lstP l1 none) x.p).toArray 92 (0, 0)) :: Seg 92 y.p [] x.p :: Blk x.b (.cells (ndC x y.p none).toArray 92 (0, 0)) :: Seg 92 x.p [] none :: Blk sb (.cells [Value.int .i64 room, .map (some m), .pointer (fstP l1 y.p), .pointer x.p].toArray 89 (0, 0)) :: F) w := seg_at (l1 := l1) (x := y) (l2 := []) h1
        exact SPI.holds h2
    | cons z l2 =>
      simp only [fstP_app, lstP_app, fstP_nil, fstP_cons, lstP]
      refine CallK.heap (F2 := Blk sb (.cells [Value.int .i64 room, .map (some m), .pointer (fstP l1 y.p), .pointer (lstP l2 z.p)].toArray 89 (0, 0)) :: Blk y.b (.cells (ndC y (lstP l1 none) x.p).toArray 92 (0, 0)) :: Blk x.b (.cells (ndC x y.p z.p).toArray 92 (0, 0)) :: Blk z.b (.cells (ndC z x.p (fstP l2 none)).toArray 92 (0, 0)) :: Seg 92 none (l1) y.p :: Seg 92 z.p (l2) none :: F) (CallK.mono (unl_d_ii w0 (Seg 92 none (l1) y.p :: Seg 92 z.p (l2) none :: F) sb m room x.b x.k x.v y.b y.k y.v z.b z.k z.v (fstP l1 y.p) (lstP l2 z.p) (lstP l1 none) (fstP l2 none)) ?_) (fun w hw => ?_)
      · rintro en F2 ⟨v, F3, rfl, ⟨rfl, rfl⟩, h⟩
        refine ⟨_, _, rfl, ⟨rfl, rfl⟩, fun w hw => ?_⟩
        have h0 : Holds w0 (Blk sb (.cells [Value.int .i64 room, .map (some m), .pointer (fstP l1 y.p), .pointer (lstP l2 z.p)].toArray 89 (0, 0)) :: Blk y.b (.cells (ndC y (lstP l1 none) z.p).toArray 92 (0, 0)) :: Blk x.b (.cells (ndC x none none).toArray 92 (0, 0)) :: Blk z.b (.cells (ndC z y.p (fstP l2 none)).toArray 92 (0, 0)) :: Seg 92 none (l1) y.p :: Seg 92 z.p (l2) none :: F) w := h w hw
        have h1 : Holds w0 (Blk z.b (.cells (ndC z y.p (fstP l2 none)).toArray 92 (0, 0)) :: Seg 92 z.p (l2) none :: Seg 92 none (l1) y.p :: Blk y.b (.cells (ndC y (lstP l1 none) z.p).toArray 92 (0, 0)) :: Blk sb (.cells [Value.int .i64 room, .map (some m), .pointer (fstP l1 y.p), .pointer (lstP l2 z.p)].toArray 89 (0, 0)) :: Blk x.b (.cells (ndC x none none).toArray 92 (0, 0)) :: F) w := SPI.holds h0
        have h2 : Holds w0 (Seg 92 y.p ([] ++ z :: l2) none :: Seg 92 none (l1) y.p :: Blk y.b (.cells (ndC y (lstP l1 none) z.p).toArray 92 (0, 0)) :: Blk sb (.cells [Value.int .i64 room, .map (some m), .pointer (fstP l1 y.p), .pointer (lstP l2 z.p)].toArray 89 (0, 0)) :: Blk x.b (.cells (ndC x none none).toArray 92 (0, 0)) :: F) w := seg_to (p := y.p) rfl rfl (seg_nil h1)
        have h3 : Holds w0 (Seg 92 none (l1) y.p :: Blk y.b (.cells (ndC y (lstP l1 none) z.p).toArray 92 (0, 0)) :: Seg 92 y.p (z :: l2) none :: Blk sb (.cells [Value.int .i64 room, .map (some m), .pointer (fstP l1 y.p), .pointer (lstP l2 z.p)].toArray 89 (0, 0)) :: Blk x.b (.cells (ndC x none none).toArray 92 (0, 0)) :: F) w := h2.perm ((List.Perm.swap ..).trans (List.Perm.cons _ (List.Perm.swap ..)))
        have h4 : Holds w0 (Seg 92 none (l1 ++ y :: z :: l2) none :: Blk sb (.cells [Value.int .i64 room, .map (some m), .pointer (fstP l1 y.p), .pointer (lstP l2 z.p)].toArray 89 (0, 0)) :: Blk x.b (.cells (ndC x none none).toArray 92 (0, 0)) :: F) w := seg_to rfl rfl h3
        rw [show l1 ++ [y] ++ z :: l2 = l1 ++ y :: z :: l2 by simp]
        exact h4.perm (List.Perm.swap ..)
      · have h1 : Holds w0 (Seg 92 none (l1 ++ [y]) x.p :: Blk x.b (.cells (ndC x (lstP (l1 ++ [y]) none) z.p).toArray 92 (0, 0)) :: Seg 92 x.p (z :: l2) none :: Blk sb (.cells [Value.int .i64 room, .map (some m), .pointer (fstP l1 y.p), .pointer (lstP l2 z.p)].toArray 89 (0, 0)) :: F) w := seg_at (l1 := l1 ++ [y]) (l2 := z :: l2) (hw.perm (List.Perm.swap ..))
        simp only [lstP_app, lstP] at h1
        have h2 : Holds w0 (Seg 92 none (l1) y.p :: Blk y.b (.cells (ndC y (lstP l1 none) x.p).toArray 92 (0, 0)) :: Seg 92 y.p [] x.p :: Blk x.b (.cells (ndC x y.p z.p).toArray 92 (0, 0)) :: Seg 92 x.p ([] ++ z :: l2) none :: Blk sb (.cells [Value.int .i64 room, .map (some m), .pointer (fstP l1 y.p), .pointer (lstP l2 z.p)].toArray 89 (0, 0)) :: F) w := seg_at (l1 := l1) (x := y) (l2 := []) h1
        have h3 : Holds w0 (Seg 92 x.p ([] ++ z :: l2) none :: Seg 92 none (l1) y.p :: Blk y.b (.cells (ndC y (lstP l1 none) x.p).toArray 92 (0, 0)) :: Blk x.b (.cells (ndC x y.p z.p).toArray 92 (0, 0)) :: Blk sb (.cells [Value.int .i64 room, .map (some m), .pointer (fstP l1 y.p), .pointer (lstP l2 z.p)].toArray 89 (0, 0)) :: F) w := SPI.holds h2
        have h4 : Holds w0 (Seg 92 x.p [] z.p :: Blk z.b (.cells (ndC z x.p (fstP l2 none)).toArray 92 (0, 0)) :: Seg 92 z.p (l2) none :: Seg 92 none (l1) y.p :: Blk y.b (.cells (ndC y (lstP l1 none) x.p).toArray 92 (0, 0)) :: Blk x.b (.cells (ndC x y.p z.p).toArray 92 (0, 0)) :: Blk sb (.cells [Value.int .i64 room, .map (some m), .pointer (fstP l1 y.p), .pointer (lstP l2 z.p)].toArray 89 (0, 0)) :: F) w := seg_at h3
        exact SPI.holds h4
theorem append_ii (w0 : World) (F : List Atom) (sb m : Nat) (room : Int) (xs : List Nd) (x : Nd) : CallK Tryd.prog 46 [.pointer (some ⟨sb, 0, none⟩), .pointer x.p] w0 (Blk sb (.cells [Value.int .i64 room, .map (some m), .pointer (fstP (xs) none), .pointer (lstP (xs) none)].toArray 89 (0, 0)) :: Seg 92 none (xs) none :: Blk x.b (.cells (ndC x none none).toArray 92 (0, 0)) :: F) (Gives w0 fun v F2 => v = .tuple #[] ∧ F2 = Blk sb (.cells [Value.int .i64 room, .map (some m), .pointer (fstP (xs ++ [x]) none), .pointer (lstP (xs ++ [x]) none)].toArray 89 (0, 0)) :: Seg 92 none (xs ++ [x]) none :: F) := by
  rcases List.eq_nil_or_concat xs with rfl | ⟨l1, y, rfl⟩
  · refine CallK.heap (F2 := Blk sb (.cells [Value.int .i64 room, .map (some m), .pointer none, .pointer none].toArray 89 (0, 0)) :: Blk x.b (.cells (ndC x none none).toArray 92 (0, 0)) :: F) (CallK.mono (app_0_ii w0 F sb m room x.b x.k x.v 0 0 x.v 0 0 x.v none none none none) ?_) (fun w hw => (hw.perm (List.Perm.swap ..)).tail)
    rintro en F2 ⟨v, F3, rfl, ⟨rfl, rfl⟩, h⟩
    exact ⟨_, _, rfl, ⟨rfl, rfl⟩, fun w hw => (seg_one.2 ((h w hw).perm (List.Perm.swap ..))).perm (List.Perm.swap ..)⟩
  · rw [List.concat_eq_append]
    simp only [fstP_app, lstP_app, fstP_nil, fstP_cons, lstP]
    refine CallK.heap (F2 := Blk sb (.cells [Value.int .i64 room, .map (some m), .pointer (fstP l1 y.p), .pointer y.p].toArray 89 (0, 0)) :: Blk y.b (.cells (ndC y (lstP l1 none) none).toArray 92 (0, 0)) :: Blk x.b (.cells (ndC x none none).toArray 92 (0, 0)) :: Seg 92 none (l1) y.p :: F) (CallK.mono (app_1_ii w0 (Seg 92 none (l1) y.p :: F) sb m room x.b x.k x.v y.b y.k y.v 0 0 x.v (fstP l1 y.p) none (lstP l1 none) none) ?_) (fun w hw => ?_)
    · rintro en F2 ⟨v, F3, rfl, ⟨rfl, rfl⟩, h⟩
      refine ⟨_, _, rfl, ⟨rfl, rfl⟩, fun w hw => ?_⟩
      have h0 : Holds w0 (Blk sb (.cells [Value.int .i64 room, .map (some m), .pointer (fstP l1 y.p), .pointer x.p].toArray 89 (0, 0)) :: Blk y.b (.cells (ndC y (lstP l1 none) x.p).toArray 92 (0, 0)) :: Blk x.b (.cells (ndC x y.p none).toArray 92 (0, 0)) :: Seg 92 none (l1) y.p :: F) w := h w hw
      have h1 : Holds w0 (Blk x.b (.cells (ndC x y.p none).toArray 92 (0, 0)) :: Seg 92 none (l1) y.p :: Blk y.b (.cells (ndC y (lstP l1 none) x.p).toArray 92 (0, 0)) :: Blk sb (.cells [Value.int .i64 room, .map (some m), .pointer (fstP l1 y.p), .pointer x.p].toArray 89 (0, 0)) :: F) w := SPI.holds h0
      have h2 : Holds w0 (Seg 92 y.p [x] none :: Seg 92 none (l1) y.p :: Blk y.b (.cells (ndC y (lstP l1 none) x.p).toArray 92 (0, 0)) :: Blk sb (.cells [Value.int .i64 room, .map (some m), .pointer (fstP l1 y.p), .pointer x.p].toArray 89 (0, 0)) :: F) w := seg_one.2 h1
      have h3 : Holds w0 (Seg 92 none (l1) y.p :: Blk y.b (.cells (ndC y (lstP l1 none) x.p).toArray 92 (0, 0)) :: Seg 92 y.p [x] none :: Blk sb (.cells [Value.int .i64 room, .map (some m), .pointer (fstP l1 y.p), .pointer x.p].toArray 89 (0, 0)) :: F) w := h2.perm ((List.Perm.swap ..).trans (List.Perm.cons _ (List.Perm.swap ..)))
      have h4 : Holds w0 (Seg 92 none (l1 ++ y :: [x]) none :: Blk sb (.cells [Value.int .i64 room, .map (some m), .pointer (fstP l1 y.p), .pointer x.p].toArray 89 (0, 0)) :: F) w := seg_to rfl rfl h3
      rw [show l1 ++ [y] ++ [x] = l1 ++ y :: [x] by simp]
      exact h4.perm (List.Perm.swap ..)
    · have h1 : Holds w0 (Seg 92 none (l1 ++ [y]) none :: Blk sb (.cells [Value.int .i64 room, .map (some m), .pointer (fstP l1 y.p), .pointer y.p].toArray 89 (0, 0)) :: Blk x.b (.cells (ndC x none none).toArray 92 (0, 0)) :: F) w := hw.perm (List.Perm.swap ..)
      have h2 : Holds w0 (Seg 92 none (l1) y.p :: Blk y.b (.cells (ndC y (lstP l1 none) none).toArray 92 (0, 0)) :: Seg 92 y.p [] none :: Blk sb (.cells [Value.int .i64 room, .map (some m), .pointer (fstP l1 y.p), .pointer y.p].toArray 89 (0, 0)) :: Blk x.b (.cells (ndC x none none).toArray 92 (0, 0)) :: F) w := seg_at (l1 := l1) (x := y) (l2 := []) h1
      exact SPI.holds h2
theorem unl_a_is (w0 : World) (F : List Atom) (sb m : Nat) (room : Int) (xb : Nat) (xk : Int) (xv : Value) (yb : Nat) (yk : Int) (yv : Value) (zb : Nat) (zk : Int) (zv : Value) (fi la p n : Option Addr) :
    CallK Tryd.prog 56 [.pointer (some ⟨sb, 0, none⟩), .pointer (some ⟨xb, 0, none⟩)] w0 (Blk sb (.cells [Value.int .i64 room, .map (some m), .pointer (some ⟨xb, 0, none⟩), .pointer (some ⟨xb, 0, none⟩)].toArray 79 (0, 0)) :: Blk xb (.cells [Value.int .i64 xk, xv, .pointer none, .pointer none].toArray 106 (0, 0)) :: F) (Gives w0 fun v F2 => v = .tuple #[] ∧ F2 = Blk sb (.cells [Value.int .i64 room, .map (some m), .pointer none, .pointer none].toArray 79 (0, 0)) :: Blk xb (.cells [Value.int .i64 xk, xv, .pointer none, .pointer none].toArray 106 (0, 0)) :: F) := by
  refine c_enter Tryd.func56 rfl rfl rfl ?_
  refine g_seq ?_
  refine g_seq ?_
  refine g_region ?_
  refine l_move rfl rfl ?_
  refine l_nilCheck rfl rfl ?_
  refine l_fieldAddr rfl fa_106_2 rfl ?_
  refine l_ld rfl Tryd.isAgg77 rfl rfl ?_
  refine l_eqpn rfl Tryd.underlying77 rfl rfl ?_
  refine l_nil ?_
  refine g_cond_t rfl ?_
  refine g_region ?_
  refine l_move rfl rfl ?_
  refine l_move rfl rfl ?_
  refine l_nilCheck rfl rfl ?_
  refine l_fieldAddr rfl fa_106_3 rfl ?_
  refine l_ld rfl Tryd.isAgg77 rfl rfl ?_
  refine l_nilCheck rfl rfl ?_
  refine l_fieldAddr rfl fa_79_2 rfl ?_
  refine l_st Tryd.sizeOf77 rfl rfl rfl rfl ?_
  refine l_nil ?_
  refine g_seq ?_
  refine g_seq ?_
  refine g_region ?_
  refine l_move rfl rfl ?_
  refine l_nilCheck rfl rfl ?_
  refine l_fieldAddr rfl fa_106_3 rfl ?_
  refine l_ld rfl Tryd.isAgg77 rfl rfl ?_
  refine l_eqpn rfl Tryd.underlying77 rfl rfl ?_
  refine l_nil ?_
  refine g_cond_t rfl ?_
  refine g_region ?_
  refine l_move rfl rfl ?_
  refine l_move rfl rfl ?_
  refine l_nilCheck rfl rfl ?_
  refine l_fieldAddr rfl fa_106_2 rfl ?_
  refine l_ld rfl Tryd.isAgg77 rfl rfl ?_
  refine l_nilCheck rfl rfl ?_
  refine l_fieldAddr rfl fa_79_3 rfl ?_
  refine l_st Tryd.sizeOf77 rfl rfl rfl rfl ?_
  refine l_nil ?_
  refine g_region ?_
  refine l_move rfl rfl ?_
  refine l_move rfl rfl ?_
  refine l_nilCheck rfl rfl ?_
  refine l_fieldAddr rfl fa_106_2 rfl ?_
  refine l_st Tryd.sizeOf77 rfl rfl rfl rfl ?_
  refine l_nilCheck rfl rfl ?_
  refine l_fieldAddr rfl fa_106_3 rfl ?_
  refine l_st Tryd.sizeOf77 rfl rfl rfl rfl ?_
  refine l_nil ?_
  refine g_end Tryd.func56 rfl .nil ?_
  exact Gives.mki ⟨rfl, rfl⟩
theorem unl_b_is (w0 : World) (F : List Atom) (sb m : Nat) (room : Int) (xb : Nat) (xk : Int) (xv : Value) (yb : Nat) (yk : Int) (yv : Value) (zb : Nat) (zk : Int) (zv : Value) (fi la p n : Option Addr) :
    CallK Tryd.prog 56 [.pointer (some ⟨sb, 0, none⟩), .pointer (some ⟨xb, 0, none⟩)] w0 (Blk sb (.cells [Value.int .i64 room, .map (some m), .pointer (some ⟨xb, 0, none⟩), .pointer la].toArray 79 (0, 0)) :: Blk xb (.cells [Value.int .i64 xk, xv, .pointer none, .pointer (some ⟨zb, 0, none⟩)].toArray 106 (0, 0)) :: Blk zb (.cells [Value.int .i64 zk, zv, .pointer (some ⟨xb, 0, none⟩), .pointer n].toArray 106 (0, 0)) :: F) (Gives w0 fun v F2 => v = .tuple #[] ∧ F2 = Blk sb (.cells [Value.int .i64 room, .map (some m), .pointer (some ⟨zb, 0, none⟩), .pointer la].toArray 79 (0, 0)) :: Blk xb (.cells [Value.int .i64 xk, xv, .pointer none, .pointer none].toArray 106 (0, 0)) :: Blk zb (.cells [Value.int .i64 zk, zv, .pointer none, .pointer n].toArray 106 (0, 0)) :: F) := by
  refine c_enter Tryd.func56 rfl rfl rfl ?_
  refine g_seq ?_
  refine g_seq ?_
  refine g_region ?_
  refine l_move rfl rfl ?_
  refine l_nilCheck rfl rfl ?_
  refine l_fieldAddr rfl fa_106_2 rfl ?_
  refine l_ld rfl Tryd.isAgg77 rfl rfl ?_
  refine l_eqpn rfl Tryd.underlying77 rfl rfl ?_
  refine l_nil ?_
  refine g_cond_t rfl ?_
  refine g_region ?_
  refine l_move rfl rfl ?_
  refine l_move rfl rfl ?_
  refine l_nilCheck rfl rfl ?_
  refine l_fieldAddr rfl fa_106_3 rfl ?_
  refine l_ld rfl Tryd.isAgg77 rfl rfl ?_
  refine l_nilCheck rfl rfl ?_
  refine l_fieldAddr rfl fa_79_2 rfl ?_
  refine l_st Tryd.sizeOf77 rfl rfl rfl rfl ?_
  refine l_nil ?_
  refine g_seq ?_
  refine g_seq ?_
  refine g_region ?_
  refine l_move rfl rfl ?_
  refine l_nilCheck rfl rfl ?_
  refine l_fieldAddr rfl fa_106_3 rfl ?_
  refine l_ld rfl Tryd.isAgg77 rfl rfl ?_
  refine l_eqpn rfl Tryd.underlying77 rfl rfl ?_
  refine l_nil ?_
  refine g_cond_f rfl ?_
  refine gp_start mo (by kernel_rfl) (by kernel_rfl) ?_
  refine gp_quiet 0 rfl rfl rfl rfl rfl rfl (q_move rfl) ?_
  refine gp_quiet 1 rfl rfl rfl rfl rfl rfl (q_nilCheck rfl) ?_
  refine gp_quiet 2 rfl rfl rfl rfl rfl rfl (q_fieldAddr fa_106_3 rfl) ?_
  refine gp_quiet 3 rfl rfl rfl rfl rfl rfl (q_ld Tryd.isAgg77 rfl rfl) ?_
  refine gp_quiet 4 rfl rfl rfl rfl rfl rfl (q_move rfl) ?_
  refine gp_quiet 5 rfl rfl rfl rfl rfl rfl (q_nilCheck rfl) ?_
  refine gp_quiet 6 rfl rfl rfl rfl rfl rfl (q_fieldAddr fa_106_2 rfl) ?_
  refine gp_quiet 7 rfl rfl rfl rfl rfl rfl (q_ld Tryd.isAgg77 rfl rfl) ?_
  refine gp_quiet 8 rfl rfl rfl rfl rfl rfl (q_nilCheck rfl) ?_
  refine gp_quiet 9 rfl rfl rfl rfl rfl rfl (q_fieldAddr fa_106_2 rfl) ?_
  refine gp_effa 10 [0, 1, 2, 3, 4, 5, 6, 7, 9] [8] rfl rfl rfl rfl rfl rfl rfl (does_st Tryd.sizeOf77 rfl rfl rfl rfl) ?_
  rintro _ _ ⟨rfl, rfl⟩
  refine ⟨?_, ?_⟩
  · refine .cons rfl rfl rfl rfl rfl (q_nilCheck rfl) ?_
    exact .nil
  refine gp_end rfl rfl ?_
  refine g_region ?_
  refine l_move rfl rfl ?_
  refine l_move rfl rfl ?_
  refine l_nilCheck rfl rfl ?_
  refine l_fieldAddr rfl fa_106_2 rfl ?_
  refine l_st Tryd.sizeOf77 rfl rfl rfl rfl ?_
  refine l_nilCheck rfl rfl ?_
  refine l_fieldAddr rfl fa_106_3 rfl ?_
  refine l_st Tryd.sizeOf77 rfl rfl rfl rfl ?_
  refine l_nil ?_
  refine g_end Tryd.func56 rfl .nil ?_
  exact Gives.mki ⟨rfl, rfl⟩
theorem unl_c_is (w0 : World) (F : List Atom) (sb m : Nat) (room : Int) (xb : Nat) (xk : Int) (xv : Value) (yb : Nat) (yk : Int) (yv : Value) (zb : Nat) (zk : Int) (zv : Value) (fi la p n : Option Addr) :
    CallK Tryd.prog 56 [.pointer (some ⟨sb, 0, none⟩), .pointer (some ⟨xb, 0, none⟩)] w0 (Blk sb (.cells [Value.int .i64 room, .map (some m), .pointer fi, .pointer (some ⟨xb, 0, none⟩)].toArray 79 (0, 0)) :: Blk yb (.cells [Value.int .i64 yk, yv, .pointer p, .pointer (some ⟨xb, 0, none⟩)].toArray 106 (0, 0)) :: Blk xb (.cells [Value.int .i64 xk, xv, .pointer (some ⟨yb, 0, none⟩), .pointer none].toArray 106 (0, 0)) :: F) (Gives w0 fun v F2 => v = .tuple #[] ∧ F2 = Blk sb (.cells [Value.int .i64 room, .map (some m), .pointer fi, .pointer (some ⟨yb, 0, none⟩)].toArray 79 (0, 0)) :: Blk yb (.cells [Value.int .i64 yk, yv, .pointer p, .pointer none].toArray 106 (0, 0)) :: Blk xb (.cells [Value.int .i64 xk, xv, .pointer none, .pointer none].toArray 106 (0, 0)) :: F) := by
  refine c_enter Tryd.func56 rfl rfl rfl ?_
  refine g_seq ?_
  refine g_seq ?_
  refine g_region ?_
  refine l_move rfl rfl ?_
  refine l_nilCheck rfl rfl ?_
  refine l_fieldAddr rfl fa_106_2 rfl ?_
  refine l_ld rfl Tryd.isAgg77 rfl rfl ?_
  refine l_eqpn rfl Tryd.underlying77 rfl rfl ?_
  refine l_nil ?_
  refine g_cond_f rfl ?_
  refine gp_start mo (by kernel_rfl) (by kernel_rfl) ?_
  refine gp_quiet 0 rfl rfl rfl rfl rfl rfl (q_move rfl) ?_
  refine gp_quiet 1 rfl rfl rfl rfl rfl rfl (q_nilCheck rfl) ?_
  refine gp_quiet 2 rfl rfl rfl rfl rfl rfl (q_fieldAddr fa_106_2 rfl) ?_
  refine gp_quiet 3 rfl rfl rfl rfl rfl rfl (q_ld Tryd.isAgg77 rfl rfl) ?_
  refine gp_quiet 4 rfl rfl rfl rfl rfl rfl (q_move rfl) ?_
  refine gp_quiet 5 rfl rfl rfl rfl rfl rfl (q_nilCheck rfl) ?_
  refine gp_quiet 6 rfl rfl rfl rfl rfl rfl (q_fieldAddr fa_106_3 rfl) ?_
  refine gp_quiet 7 rfl rfl rfl rfl rfl rfl (q_ld Tryd.isAgg77 rfl rfl) ?_
  refine gp_quiet 8 rfl rfl rfl rfl rfl rfl (q_nilCheck rfl) ?_
  refine gp_quiet 9 rfl rfl rfl rfl rfl rfl (q_fieldAddr fa_106_3 rfl) ?_
  refine gp_effa 10 [0, 1, 2, 3, 4, 5, 6, 7, 9] [8] rfl rfl rfl rfl rfl rfl rfl (does_st Tryd.sizeOf77 rfl rfl rfl rfl) ?_
  rintro _ _ ⟨rfl, rfl⟩
  refine ⟨?_, ?_⟩
  · refine .cons rfl rfl rfl rfl rfl (q_nilCheck rfl) ?_
    exact .nil
  refine gp_end rfl rfl ?_
  refine g_seq ?_
  refine g_seq ?_
  refine g_region ?_
  refine l_move rfl rfl ?_
  refine l_nilCheck rfl rfl ?_
  refine l_fieldAddr rfl fa_106_3 rfl ?_
  refine l_ld rfl Tryd.isAgg77 rfl rfl ?_
  refine l_eqpn rfl Tryd.underlying77 rfl rfl ?_
  refine l_nil ?_
  refine g_cond_t rfl ?_
  refine g_region ?_
  refine l_move rfl rfl ?_
  refine l_move rfl rfl ?_
  refine l_nilCheck rfl rfl ?_
  refine l_fieldAddr rfl fa_106_2 rfl ?_
  refine l_ld rfl Tryd.isAgg77 rfl rfl ?_
  refine l_nilCheck rfl rfl ?_
  refine l_fieldAddr rfl fa_79_3 rfl ?_
  refine l_st Tryd.sizeOf77 rfl rfl rfl rfl ?_
  refine l_nil ?_
  refine g_region ?_
  refine l_move rfl rfl ?_
  refine l_move rfl rfl ?_
  refine l_nilCheck rfl rfl ?_
  refine l_fieldAddr rfl fa_106_2 rfl ?_
  refine l_st Tryd.sizeOf77 rfl rfl rfl rfl ?_
  refine l_nilCheck rfl rfl ?_
  refine l_fieldAddr rfl fa_106_3 rfl ?_
  refine l_st Tryd.sizeOf77 rfl rfl rfl rfl ?_
  refine l_nil ?_
  refine g_end Tryd.func56 rfl .nil ?_
  exact Gives.mki ⟨rfl, rfl⟩
theorem unl_d_is (w0 : World) (F : List Atom) (sb m : Nat) (room : Int) (xb : Nat) (xk : Int) (xv : Value) (yb : Nat) (yk : Int) (yv : Value) (zb : Nat) (zk : Int) (zv : Value) (fi la p n : Option Addr) :
    CallK Tryd.prog 56 [.pointer (some ⟨sb, 0, none⟩), .pointer (some ⟨xb, 0, none⟩)] w0 (Blk sb (.cells [Value.int .i64 room, .map (some m), .pointer fi, .pointer la].toArray 79 (0, 0)) :: Blk yb (.cells [Value.int .i64 yk, yv, .pointer p, .pointer (some ⟨xb, 0, none⟩)].toArray 106 (0, 0)) :: Blk xb (.cells [Value.int .i64 xk, xv, .pointer (some ⟨yb, 0, none⟩), .pointer (some ⟨zb, 0, none⟩)].toArray 106 (0, 0)) :: Blk zb (.cells [Value.int .i64 zk, zv, .pointer (some ⟨xb, 0, none⟩), .pointer n].toArray 106 (0, 0)) :: F) (Gives w0 fun v F2 => v = .tuple #[] ∧ F2 = Blk sb (.cells [Value.int .i64 room, .map (some m), .pointer fi, .pointer la].toArray 79 (0, 0)) :: Blk yb (.cells [Value.int .i64 yk, yv, .pointer p, .pointer (some ⟨zb, 0, none⟩)].toArray 106 (0, 0)) :: Blk xb (.cells [Value.int .i64 xk, xv, .pointer none, .pointer none].toArray 106 (0, 0)) :: Blk zb (.cells [Value.int .i64 zk, zv, .pointer (some ⟨yb, 0, none⟩), .pointer n].toArray 106 (0, 0)) :: F) := by
  refine c_enter Tryd.func56 rfl rfl rfl ?_
  refine g_seq ?_
  refine g_seq ?_
  refine g_region ?_
  refine l_move rfl rfl ?_
  refine l_nilCheck rfl rfl ?_
  refine l_fieldAddr rfl fa_106_2 rfl ?_
  refine l_ld rfl Tryd.isAgg77 rfl rfl ?_
  refine l_eqpn rfl Tryd.underlying77 rfl rfl ?_
  refine l_nil ?_
  refine g_cond_f rfl ?_
  refine gp_start mo (by kernel_rfl) (by kernel_rfl) ?_
  refine gp_quiet 0 rfl rfl rfl rfl rfl rfl (q_move rfl) ?_
  refine gp_quiet 1 rfl rfl rfl rfl rfl rfl (q_nilCheck rfl) ?_
  refine gp_quiet 2 rfl rfl rfl rfl rfl rfl (q_fieldAddr fa_106_2 rfl) ?_
  refine gp_quiet 3 rfl rfl rfl rfl rfl rfl (q_ld Tryd.isAgg77 rfl rfl) ?_
  refine gp_quiet 4 rfl rfl rfl rfl rfl rfl (q_move rfl) ?_
  refine gp_quiet 5 rfl rfl rfl rfl rfl rfl (q_nilCheck rfl) ?_
  refine gp_quiet 6 rfl rfl rfl rfl rfl rfl (q_fieldAddr fa_106_3 rfl) ?_
  refine gp_quiet 7 rfl rfl rfl rfl rfl rfl (q_ld Tryd.isAgg77 rfl rfl) ?_
  refine gp_quiet 8 rfl rfl rfl rfl rfl rfl (q_nilCheck rfl) ?_
  refine gp_quiet 9 rfl rfl rfl rfl rfl rfl (q_fieldAddr fa_106_3 rfl) ?_
  refine gp_effa 10 [0, 1, 2, 3, 4, 5, 6, 7, 9] [8] rfl rfl rfl rfl rfl rfl rfl (does_st Tryd.sizeOf77 rfl rfl rfl rfl) ?_
  rintro _ _ ⟨rfl, rfl⟩
  refine ⟨?_, ?_⟩
  · refine .cons rfl rfl rfl rfl rfl (q_nilCheck rfl) ?_
    exact .nil
  refine gp_end rfl rfl ?_
  refine g_seq ?_
  refine g_seq ?_
  refine g_region ?_
  refine l_move rfl rfl ?_
  refine l_nilCheck rfl rfl ?_
  refine l_fieldAddr rfl fa_106_3 rfl ?_
  refine l_ld rfl Tryd.isAgg77 rfl rfl ?_
  refine l_eqpn rfl Tryd.underlying77 rfl rfl ?_
  refine l_nil ?_
  refine g_cond_f rfl ?_
  refine gp_start mo (by kernel_rfl) (by kernel_rfl) ?_
  refine gp_quiet 0 rfl rfl rfl rfl rfl rfl (q_move rfl) ?_
  refine gp_quiet 1 rfl rfl rfl rfl rfl rfl (q_nilCheck rfl) ?_
  refine gp_quiet 2 rfl rfl rfl rfl rfl rfl (q_fieldAddr fa_106_3 rfl) ?_
  refine gp_quiet 3 rfl rfl rfl rfl rfl rfl (q_ld Tryd.isAgg77 rfl rfl) ?_
  refine gp_quiet 4 rfl rfl rfl rfl rfl rfl (q_move rfl) ?_
  refine gp_quiet 5 rfl rfl rfl rfl rfl rfl (q_nilCheck rfl) ?_
  refine gp_quiet 6 rfl rfl rfl rfl rfl rfl (q_fieldAddr fa_106_2 rfl) ?_
  refine gp_quiet 7 rfl rfl rfl rfl rfl rfl (q_ld Tryd.isAgg77 rfl rfl) ?_
  refine gp_quiet 8 rfl rfl rfl rfl rfl rfl (q_nilCheck rfl) ?_
  refine gp_quiet 9 rfl rfl rfl rfl rfl rfl (q_fieldAddr fa_106_2 rfl) ?_
  refine gp_effa 10 [0, 1, 2, 3, 4, 5, 6, 7, 9] [8] rfl rfl rfl rfl rfl rfl rfl (does_st Tryd.sizeOf77 rfl rfl rfl rfl) ?_
  rintro _ _ ⟨rfl, rfl⟩
  refine ⟨?_, ?_⟩
  · refine .cons rfl rfl rfl rfl rfl (q_nilCheck rfl) ?_
    exact .nil
  refine gp_end rfl rfl ?_
  refine g_region ?_
  refine l_move rfl rfl ?_
  refine l_move rfl rfl ?_
  refine l_nilCheck rfl rfl ?_
  refine l_fieldAddr rfl fa_106_2 rfl ?_
  refine l_st Tryd.sizeOf77 rfl rfl rfl rfl ?_
  refine l_nilCheck rfl rfl ?_
  refine l_fieldAddr rfl fa_106_3 rfl ?_
  refine l_st Tryd.sizeOf77 rfl rfl rfl rfl ?_
  refine l_nil ?_
  refine g_end Tryd.func56 rfl .nil ?_
  exact Gives.mki ⟨rfl, rfl⟩
theorem app_0_is (w0 : World) (F : List Atom) (sb m : Nat) (room : Int) (xb : Nat) (xk : Int) (xv : Value) (yb : Nat) (yk : Int) (yv : Value) (zb : Nat) (zk : Int) (zv : Value) (fi la p n : Option Addr) :
    CallK Tryd.prog 57 [.pointer (some ⟨sb, 0, none⟩), .pointer (some ⟨xb, 0, none⟩)] w0 (Blk sb (.cells [Value.int .i64 room, .map (some m), .pointer none, .pointer none].toArray 79 (0, 0)) :: Blk xb (.cells [Value.int .i64 xk, xv, .pointer none, .pointer none].toArray 106 (0, 0)) :: F) (Gives w0 fun v F2 => v = .tuple #[] ∧ F2 = Blk sb (.cells [Value.int .i64 room, .map (some m), .pointer (some ⟨xb, 0, none⟩), .pointer (some ⟨xb, 0, none⟩)].toArray 79 (0, 0)) :: Blk xb (.cells [Value.int .i64 xk, xv, .pointer none, .pointer none].toArray 106 (0, 0)) :: F) := by
  refine c_enter Tryd.func57 rfl rfl rfl ?_
  refine g_seq ?_
  refine g_region ?_
  refine l_move rfl rfl ?_
  refine l_move rfl rfl ?_
  refine l_nilCheck rfl rfl ?_
  refine l_fieldAddr rfl fa_79_3 rfl ?_
  refine l_ld rfl Tryd.isAgg77 rfl rfl ?_
  refine l_nilCheck rfl rfl ?_
  refine l_fieldAddr rfl fa_106_2 rfl ?_
  refine l_st Tryd.sizeOf77 rfl rfl rfl rfl ?_
  refine l_nil ?_
  refine g_seq ?_
  refine g_seq ?_
  refine g_region ?_
  refine l_move rfl rfl ?_
  refine l_nilCheck rfl rfl ?_
  refine l_fieldAddr rfl fa_79_3 rfl ?_
  refine l_ld rfl Tryd.isAgg77 rfl rfl ?_
  refine l_eqpn rfl Tryd.underlying77 rfl rfl ?_
  refine l_nil ?_
  refine g_cond_t rfl ?_
  refine g_region ?_
  refine l_move rfl rfl ?_
  refine l_move rfl rfl ?_
  refine l_nilCheck rfl rfl ?_
  refine l_fieldAddr rfl fa_79_2 rfl ?_
  refine l_st Tryd.sizeOf77 rfl rfl rfl rfl ?_
  refine l_nil ?_
  refine g_region ?_
  refine l_move rfl rfl ?_
  refine l_move rfl rfl ?_
  refine l_nilCheck rfl rfl ?_
  refine l_fieldAddr rfl fa_79_3 rfl ?_
  refine l_st Tryd.sizeOf77 rfl rfl rfl rfl ?_
  refine l_nil ?_
  refine g_end Tryd.func57 rfl .nil ?_
  exact Gives.mki ⟨rfl, rfl⟩
theorem app_1_is (w0 : World) (F : List Atom) (sb m : Nat) (room : Int) (xb : Nat) (xk : Int) (xv : Value) (yb : Nat) (yk : Int) (yv : Value) (zb : Nat) (zk : Int) (zv : Value) (fi la p n : Option Addr) :
    CallK Tryd.prog 57 [.pointer (some ⟨sb, 0, none⟩), .pointer (some ⟨xb, 0, none⟩)] w0 (Blk sb (.cells [Value.int .i64 room, .map (some m), .pointer fi, .pointer (some ⟨yb, 0, none⟩)].toArray 79 (0, 0)) :: Blk yb (.cells [Value.int .i64 yk, yv, .pointer p, .pointer none].toArray 106 (0, 0)) :: Blk xb (.cells [Value.int .i64 xk, xv, .pointer none, .pointer none].toArray 106 (0, 0)) :: F) (Gives w0 fun v F2 => v = .tuple #[] ∧ F2 = Blk sb (.cells [Value.int .i64 room, .map (some m), .pointer fi, .pointer (some ⟨xb, 0, none⟩)].toArray 79 (0, 0)) :: Blk yb (.cells [Value.int .i64 yk, yv, .pointer p, .pointer (some ⟨xb, 0, none⟩)].toArray 106 (0, 0)) :: Blk xb (.cells [Value.int .i64 xk, xv, .pointer (some ⟨yb, 0, none⟩), .pointer none].toArray 106 (0, 0)) :: F) := by
  refine c_enter Tryd.func57 rfl rfl rfl ?_
  refine g_seq ?_
  refine g_region ?_
  refine l_move rfl rfl ?_
  refine l_move rfl rfl ?_
  refine l_nilCheck rfl rfl ?_
  refine l_fieldAddr rfl fa_79_3 rfl ?_
  refine l_ld rfl Tryd.isAgg77 rfl rfl ?_
  refine l_nilCheck rfl rfl ?_
  refine l_fieldAddr rfl fa_106_2 rfl ?_
  refine l_st Tryd.sizeOf77 rfl rfl rfl rfl ?_
  refine l_nil ?_
  refine g_seq ?_
  refine g_seq ?_
  refine g_region ?_
  refine l_move rfl rfl ?_
  refine l_nilCheck rfl rfl ?_
  refine l_fieldAddr rfl fa_79_3 rfl ?_
  refine l_ld rfl Tryd.isAgg77 rfl rfl ?_
  refine l_eqpn rfl Tryd.underlying77 rfl rfl ?_
  refine l_nil ?_
  refine g_cond_f rfl ?_
  refine g_region ?_
  refine l_move rfl rfl ?_
  refine l_nilCheck rfl rfl ?_
  refine l_fieldAddr rfl fa_79_3 rfl ?_
  refine l_ld rfl Tryd.isAgg77 rfl rfl ?_
  refine l_move rfl rfl ?_
  refine l_nilCheck rfl rfl ?_
  refine l_fieldAddr rfl fa_106_3 rfl ?_
  refine l_st Tryd.sizeOf77 rfl rfl rfl rfl ?_
  refine l_nil ?_
  refine g_region ?_
  refine l_move rfl rfl ?_
  refine l_move rfl rfl ?_
  refine l_nilCheck rfl rfl ?_
  refine l_fieldAddr rfl fa_79_3 rfl ?_
  refine l_st Tryd.sizeOf77 rfl rfl rfl rfl ?_
  refine l_nil ?_
  refine g_end Tryd.func57 rfl .nil ?_
  exact Gives.mki ⟨rfl, rfl⟩
theorem unlink_is (w0 : World) (F : List Atom) (sb m : Nat) (room : Int) (l1 l2 : List Nd) (x : Nd) : CallK Tryd.prog 56 [.pointer (some ⟨sb, 0, none⟩), .pointer x.p] w0 (Blk sb (.cells [Value.int .i64 room, .map (some m), .pointer (fstP (l1 ++ x :: l2) none), .pointer (lstP (l1 ++ x :: l2) none)].toArray 79 (0, 0)) :: Seg 106 none (l1 ++ x :: l2) none :: F) (Gives w0 fun v F2 => v = .tuple #[] ∧ F2 = Blk sb (.cells [Value.int .i64 room, .map (some m), .pointer (fstP (l1 ++ l2) none), .pointer (lstP (l1 ++ l2) none)].toArray 79 (0, 0)) :: Seg 106 none (l1 ++ l2) none :: Blk x.b (.cells (ndC x none none).toArray 106 (0, 0)) :: F) := by
  rcases List.eq_nil_or_concat l1 with rfl | ⟨l1, y, rfl⟩
  · cases l2 with
    | nil =>
      refine CallK.heap (F2 := Blk sb (.cells [Value.int .i64 room, .map (some m), .pointer x.p, .pointer x.p].toArray 79 (0, 0)) :: Blk x.b (.cells (ndC x none none).toArray 106 (0, 0)) :: F) (CallK.mono (unl_a_is w0 F sb m room x.b x.k x.v 0 0 x.v 0 0 x.v none none none none) ?_) (fun w hw => ?_)
      · rintro en F2 ⟨v, F3, rfl, ⟨rfl, rfl⟩, h⟩
        exact ⟨_, _, rfl, ⟨rfl, rfl⟩, fun w hw => (seg_nil ((h w hw).perm (List.Perm.swap ..))).perm ((List.Perm.cons _ (List.Perm.swap ..)).trans (List.Perm.swap ..))⟩
      · exact (seg_one.1 (hw.perm (List.Perm.swap ..))).perm (List.Perm.swap ..)
    | cons z l2 =>
      refine CallK.heap (F2 := Blk sb (.cells [Value.int .i64 room, .map (some m), .pointer x.p, .pointer (lstP l2 z.p)].toArray 79 (0, 0)) :: Blk x.b (.cells (ndC x none z.p).toArray 106 (0, 0)) :: Blk z.b (.cells (ndC z x.p (fstP l2 none)).toArray 106 (0, 0)) :: Seg 106 z.p (l2) none :: F) (CallK.mono (unl_b_is w0 (Seg 106 z.p (l2) none :: F) sb m room x.b x.k x.v 0 0 x.v z.b z.k z.v none (lstP l2 z.p) none (fstP l2 none)) ?_) (fun w hw => ?_)
      · rintro en F2 ⟨v, F3, rfl, ⟨rfl, rfl⟩, h⟩
        refine ⟨_, _, rfl, ⟨rfl, rfl⟩, fun w hw => ?_⟩
        have h0 : Holds w0 (Blk sb (.cells [Value.int .i64 room, .map (some m), .pointer z.p, .pointer (lstP l2 z.p)].toArray 79 (0, 0)) :: Blk x.b (.cells (ndC x none none).toArray 106 (0, 0)) :: Blk z.b (.cells (ndC z none (fstP l2 none)).toArray 106 (0, 0)) :: Seg 106 z.p (l2) none :: F) w := h w hw
        have h1 : Holds w0 (Blk z.b (.cells (ndC z none (fstP l2 none)).toArray 106 (0, 0)) :: Seg 106 z.p (l2) none :: Blk sb (.cells [Value.int .i64 room, .map (some m), .pointer z.p, .pointer (lstP l2 z.p)].toArray 79 (0, 0)) :: Blk x.b (.cells (ndC x none none).toArray 106 (0, 0)) :: F) w := SPI.holds h0
        have h2 : Holds w0 (Seg 106 none ([] ++ z :: l2) none :: Blk sb (.cells [Value.int .i64 room, .map (some m), .pointer z.p, .pointer (lstP l2 z.p)].toArray 79 (0, 0)) :: Blk x.b (.cells (ndC x none none).toArray 106 (0, 0)) :: F) w := seg_to rfl rfl (seg_nil h1)
        exact h2.perm (List.Perm.swap ..)
      · have h1 : Holds w0 (Seg 106 none [] x.p :: Blk x.b (.cells (ndC x none z.p).toArray 106 (0, 0)) :: Seg 106 x.p (z :: l2) none :: Blk sb (.cells [Value.int .i64 room, .map (some m), .pointer x.p, .pointer (lstP l2 z.p)].toArray 79 (0, 0)) :: F) w := seg_at (l1 := []) (l2 := z :: l2) (hw.perm (List.Perm.swap ..))
        have h2 : Holds w0 (Seg 106 x.p ([] ++ z :: l2) none :: Blk x.b (.cells (ndC x none z.p).toArray 106 (0, 0)) :: Blk sb (.cells [Value.int .i64 room, .map (some m), .pointer x.p, .pointer (lstP l2 z.p)].toArray 79 (0, 0)) :: F) w := h1.tail.perm (List.Perm.swap ..)
        have h3 : Holds w0 (Seg 106 x.p [] z.p :: Blk z.b (.cells (ndC z x.p (fstP l2 none)).toArray 106 (0, 0)) :: Seg 106 z.p (l2) none :: Blk x.b (.cells (ndC x none z.p).toArray 106 (0, 0)) :: Blk sb (.cells [Value.int .i64 room, .map (some m), .pointer x.p, .pointer (lstP l2 z.p)].toArray 79 (0, 0)) :: F) w := seg_at h2
        exact SPI.holds h3.tail
  · rw [List.concat_eq_append]
    cases l2 with
    | nil =>
      simp only [List.append_nil, fstP_app, lstP_app, fstP_nil, fstP_cons, lstP]
      refine CallK.heap (F2 := Blk sb (.cells [Value.int .i64 room, .map (some m), .pointer (fstP l1 y.p), .pointer x.p].toArray 79 (0, 0)) :: Blk y.b (.cells (ndC y (lstP l1 none) x.p).toArray 106 (0, 0)) :: Blk x.b (.cells (ndC x y.p none).toArray 106 (0, 0)) :: Seg 106 none (l1) y.p :: F) (CallK.mono (unl_c_is w0 (Seg 106 none (l1) y.p :: F) sb m room x.b x.k x.v y.b y.k y.v 0 0 x.v (fstP l1 y.p) none (lstP l1 none) none) ?_) (fun w hw => ?_)
      · rintro en F2 ⟨v, F3, rfl, ⟨rfl, rfl⟩, h⟩
        refine ⟨_, _, rfl, ⟨rfl, rfl⟩, fun w hw => ?_⟩
        have h0 : Holds w0 (Blk sb (.cells [Value.int .i64 room, .map (some m), .pointer (fstP l1 y.p), .pointer y.p].toArray 79 (0, 0)) :: Blk y.b (.cells (ndC y (lstP l1 none) none).toArray 106 (0, 0)) :: Blk x.b (.cells (ndC x none none).toArray 106 (0, 0)) :: Seg 106 none (l1) y.p :: F) w := h w hw
        have h1 : Holds w0 (Seg 106 none (l1) y.p :: Blk y.b (.cells (ndC y (lstP l1 none) none).toArray 106 (0, 0)) :: Blk sb (.cells [Value.int .i64 room, .map (some m), .pointer (fstP l1 y.p), .pointer y.p].toArray 79 (0, 0)) :: Blk x.b (.cells (ndC x none none).toArray 106 (0, 0)) :: F) w := SPI.holds h0
        have h2 : Holds w0 (Seg 106 none (l1) y.p :: Blk y.b (.cells (ndC y (lstP l1 none) none).toArray 106 (0, 0)) :: Seg 106 y.p [] none :: Blk sb (.cells [Value.int .i64 room, .map (some m), .pointer (fstP l1 y.p), .pointer y.p].toArray 79 (0, 0)) :: Blk x.b (.cells (ndC x none none).toArray 106 (0, 0)) :: F) w := (seg_nil (T := 106) (p := y.p) (n := none) h1).perm ((List.Perm.swap ..).trans (List.Perm.cons _ (List.Perm.swap ..)))
        have h3 : Holds w0 (Seg 106 none (l1 ++ [y]) none :: Blk sb (.cells [Value.int .i64 room, .map (some m), .pointer (fstP l1 y.p), .pointer y.p].toArray 79 (0, 0)) :: Blk x.b (.cells (ndC x none none).toArray 106 (0, 0)) :: F) w := seg_to rfl rfl h2
        exact h3.perm (List.Perm.swap ..)
      · have h1 : Holds w0 (Seg 106 none (l1 ++ [y]) x.p :: Blk x.b (.cells (ndC x (lstP (l1 ++ [y]) none) none).toArray 106 (0, 0)) :: Seg 106 x.p [] none :: Blk sb (.cells [Value.int .i64 room, .map (some m), .pointer (fstP l1 y.p), .pointer x.p].toArray 79 (0, 0)) :: F) w := seg_at (l1 := l1 ++ [y]) (l2 := []) (hw.perm (List.Perm.swap ..))
        simp only [lstP_app, lstP] at h1
        have h2 : Holds w0 (Seg 106 none (l1) y.p :: Blk y.b (.cells (ndC y (lstP l1 none) x.p).toArray 106 (0, 0)) :: Seg 106 y.p [] x.p :: Blk x.b (.cells (ndC x y.p none).toArray 106 (0, 0)) :: Seg 106 x.p [] none :: Blk sb (.cells [Value.int .i64 room, .map (some m), .pointer (fstP l1 y.p), .pointer x.p].toArray 79 (0, 0)) :: F) w := seg_at (l1 := l1) (x := y) (l2 := []) h1
        exact SPI.holds h2
    | cons z l2 =>
      simp only [fstP_app, lstP_app, fstP_nil, fstP_cons, lstP]
      refine CallK.heap (F2 := Blk sb (.cells [Value.int .i64 room, .map (some m), .pointer (fstP l1 y.p), .pointer (lstP l2 z.p)].toArray 79 (0, 0)) :: Blk y.b (.cells (ndC y (lstP l1 none) x.p).toArray 106 (0, 0)) :: Blk x.b (.cells (ndC x y.p z.p).toArray 106 (0, 0)) :: Blk z.b (.cells (ndC z x.p (fstP l2 none)).toArray 106 (0, 0)) :: Seg 106 none (l1) y.p :: Seg 106 z.p (l2) none :: F) (CallK.mono (unl_d_is w0 (Seg 106 none (l1) y.p :: Seg 106 z.p (l2) none :: F) sb m room x.b x.k x.v y.b y.k y.v z.b z.k z.v (fstP l1 y.p) (lstP l2 z.p) (lstP l1 none) (fstP l2 none)) ?_) (fun w hw => ?_)
      · rintro en F2 ⟨v, F3, rfl, ⟨rfl, rfl⟩, h⟩
        refine ⟨_, _, rfl, ⟨rfl, rfl⟩, fun w hw => ?_⟩
        have h0 : Holds w0 (Blk sb (.cells [Value.int .i64 room, .map (some m), .pointer (fstP l1 y.p), .pointer (lstP l2 z.p)].toArray 79 (0, 0)) :: Blk y.b (.cells (ndC y (lstP l1 none) z.p).toArray 106 (0, 0)) :: Blk x.b (.cells (ndC x none none).toArray 106 (0, 0)) :: Blk z.b (.cells (ndC z y.p (fstP l2 none)).toArray 106 (0, 0)) :: Seg 106 none (l1) y.p :: Seg 106 z.p (l2) none :: F) w := h w hw
        have h1 : Holds w0 (Blk z.b (.cells (ndC z y.p (fstP l2 none)).toArray 106 (0, 0)) :: Seg 106 z.p (l2) none :: Seg 106 none (l1) y.p :: Blk y.b (.cells (ndC y (lstP l1 none) z.p).toArray 106 (0, 0)) :: Blk sb (.cells [Value.int .i64 room, .map (some m), .pointer (fstP l1 y.p), .pointer (lstP l2 z.p)].toArray 79 (0, 0)) :: Blk x.b (.cells (ndC x none none).toArray 106 (0, 0)) :: F) w := SPI.holds h0
        have h2 : Holds w0 (Seg 106 y.p ([] ++ z :: l2) none :: Seg 106 none (l1) y.p :: Blk y.b (.cells (ndC y (lstP l1 none) z.p).toArray 106 (0, 0)) :: Blk sb (.cells [Value.int .i64 room, .map (some m), .pointer (fstP l1 y.p), .pointer (lstP l2 z.p)].toArray 79 (0, 0)) :: Blk x.b (.cells (ndC x none none).toArray 106 (0, 0)) :: F) w := seg_to (p := y.p) rfl rfl (seg_nil h1)
        have h3 : Holds w0 (Seg 106 none (l1) y.p :: Blk y.b (.cells (ndC y (lstP l1 none) z.p).toArray 106 (0, 0)) :: Seg 106 y.p (z :: l2) none :: Blk sb (.cells [Value.int .i64 room, .map (some m), .pointer (fstP l1 y.p), .pointer (lstP l2 z.p)].toArray 79 (0, 0)) :: Blk x.b (.cells (ndC x none none).toArray 106 (0, 0)) :: F) w := h2.perm ((List.Perm.swap ..).trans (List.Perm.cons _ (List.Perm.swap ..)))
        have h4 : Holds w0 (Seg 106 none (l1 ++ y :: z :: l2) none :: Blk sb (.cells [Value.int .i64 room, .map (some m), .pointer (fstP l1 y.p), .pointer (lstP l2 z.p)].toArray 79 (0, 0)) :: Blk x.b (.cells (ndC x none none).toArray 106 (0, 0)) :: F) w := seg_to rfl rfl h3
        rw [show l1 ++ [y] ++ z :: l2 = l1 ++ y :: z :: l2 by simp]
        exact h4.perm (List.Perm.swap ..)
      · have h1 : Holds w0 (Seg 106 none (l1 ++ [y]) x.p :: Blk x.b (.cells (ndC x (lstP (l1 ++ [y]) none) z.p).toArray 106 (0, 0)) :: Seg 106 x.p (z :: l2) none :: Blk sb (.cells [Value.int .i64 room, .map (some m), .pointer (fstP l1 y.p), .pointer (lstP l2 z.p)].toArray 79 (0, 0)) :: F) w := seg_at (l1 := l1 ++ [y]) (l2 := z :: l2) (hw.perm (List.Perm.swap ..))
        simp only [lstP_app, lstP] at h1
        have h2 : Holds w0 (Seg 106 none (l1) y.p :: Blk y.b (.cells (ndC y (lstP l1 none) x.p).toArray 106 (0, 0)) :: Seg 106 y.p [] x.p :: Blk x.b (.cells (ndC x y.p z.p).toArray 106 (0, 0)) :: Seg 106 x.p ([] ++ z :: l2) none :: Blk sb (.cells [Value.int .i64 room, .map (some m), .pointer (fstP l1 y.p), .pointer (lstP l2 z.p)].toArray 79 (0, 0)) :: F) w := seg_at (l1 := l1) (x := y) (l2 := []) h1
        have h3 : Holds w0 (Seg 106 x.p ([] ++ z :: l2) none :: Seg 106 none (l1) y.p :: Blk y.b (.cells (ndC y (lstP l1 none) x.p).toArray 106 (0, 0)) :: Blk x.b (.cells (ndC x y.p z.p).toArray 106 (0, 0)) :: Blk sb (.cells [Value.int .i64 room, .map (some m), .pointer (fstP l1 y.p), .pointer (lstP l2 z.p)].toArray 79 (0, 0)) :: F) w := SPI.holds h2
        have h4 : Holds w0 (Seg 106 x.p [] z.p :: Blk z.b (.cells (ndC z x.p (fstP l2 none)).toArray 106 (0, 0)) :: Seg 106 z.p (l2) none :: Seg 106 none (l1) y.p :: Blk y.b (.cells (ndC y (lstP l1 none) x.p).toArray 106 (0, 0)) :: Blk x.b (.cells (ndC x y.p z.p).toArray 106 (0, 0)) :: Blk sb (.cells [Value.int .i64 room, .map (some m), .pointer (fstP l1 y.p), .pointer (lstP l2 z.p)].toArray 79 (0, 0)) :: F) w := seg_at h3
        exact SPI.holds h4
theorem append_is (w0 : World) (F : List Atom) (sb m : Nat) (room : Int) (xs : List Nd) (x : Nd) : CallK Tryd.prog 57 [.pointer (some ⟨sb, 0, none⟩), .pointer x.p] w0 (Blk sb (.cells [Value.int .i64 room, .map (some m), .pointer (fstP (xs) none), .pointer (lstP (xs) none)].toArray 79 (0, 0)) :: Seg 106 none (xs) none :: Blk x.b (.cells (ndC x none none).toArray 106 (0, 0)) :: F) (Gives w0 fun v F2 => v = .tuple #[] ∧ F2 = Blk sb (.cells [Value.int .i64 room, .map (some m), .pointer (fstP (xs ++ [x]) none), .pointer (lstP (xs ++ [x]) none)].toArray 79 (0, 0)) :: Seg 106 none (xs ++ [x]) none :: F) := by
  rcases List.eq_nil_or_concat xs with rfl | ⟨l1, y, rfl⟩
  · refine CallK.heap (F2 := Blk sb (.cells [Value.int .i64 room, .map (some m), .pointer none, .pointer none].toArray 79 (0, 0)) :: Blk x.b (.cells (ndC x none none).toArray 106 (0, 0)) :: F) (CallK.mono (app_0_is w0 F sb m room x.b x.k x.v 0 0 x.v 0 0 x.v none none none none) ?_) (fun w hw => (hw.perm (List.Perm.swap ..)).tail)
    rintro en F2 ⟨v, F3, rfl, ⟨rfl, rfl⟩, h⟩
    exact ⟨_, _, rfl, ⟨rfl, rfl⟩, fun w hw => (seg_one.2 ((h w hw).perm (List.Perm.swap ..))).perm (List.Perm.swap ..)⟩
  · rw [List.concat_eq_append]
    simp only [fstP_app, lstP_app, fstP_nil, fstP_cons, lstP]
    refine CallK.heap (F2 := Blk sb (.cells [Value.int .i64 room, .map (some m), .pointer (fstP l1 y.p), .pointer y.p].toArray 79 (0, 0)) :: Blk y.b (.cells (ndC y (lstP l1 none) none).toArray 106 (0, 0)) :: Blk x.b (.cells (ndC x none none).toArray 106 (0, 0)) :: Seg 106 none (l1) y.p :: F) (CallK.mono (app_1_is w0 (Seg 106 none (l1) y.p :: F) sb m room x.b x.k x.v y.b y.k y.v 0 0 x.v (fstP l1 y.p) none (lstP l1 none) none) ?_) (fun w hw => ?_)
    · rintro en F2 ⟨v, F3, rfl, ⟨rfl, rfl⟩, h⟩
      refine ⟨_, _, rfl, ⟨rfl, rfl⟩, fun w hw => ?_⟩
      have h0 : Holds w0 (Blk sb (.cells [Value.int .i64 room, .map (some m), .pointer (fstP l1 y.p), .pointer x.p].toArray 79 (0, 0)) :: Blk y.b (.cells (ndC y (lstP l1 none) x.p).toArray 106 (0, 0)) :: Blk x.b (.cells (ndC x y.p none).toArray 106 (0, 0)) :: Seg 106 none (l1) y.p :: F) w := h w hw
      have h1 : Holds w0 (Blk x.b (.cells (ndC x y.p none).toArray 106 (0, 0)) :: Seg 106 none (l1) y.p :: Blk y.b (.cells (ndC y (lstP l1 none) x.p).toArray 106 (0, 0)) :: Blk sb (.cells [Value.int .i64 room, .map (some m), .pointer (fstP l1 y.p), .pointer x.p].toArray 79 (0, 0)) :: F) w := SPI.holds h0
      have h2 : Holds w0 (Seg 106 y.p [x] none :: Seg 106 none (l1) y.p :: Blk y.b (.cells (ndC y (lstP l1 none) x.p).toArray 106 (0, 0)) :: Blk sb (.cells [Value.int .i64 room, .map (some m), .pointer (fstP l1 y.p), .pointer x.p].toArray 79 (0, 0)) :: F) w := seg_one.2 h1
      have h3 : Holds w0 (Seg 106 none (l1) y.p :: Blk y.b (.cells (ndC y (lstP l1 none) x.p).toArray 106 (0, 0)) :: Seg 106 y.p [x] none :: Blk sb (.cells [Value.int .i64 room, .map (some m), .pointer (fstP l1 y.p), .pointer x.p].toArray 79 (0, 0)) :: F) w := h2.perm ((List.Perm.swap ..).trans (List.Perm.cons _ (List.Perm.swap ..)))
      have h4 : Holds w0 (Seg 106 none (l1 ++ y :: [x]) none :: Blk sb (.cells [Value.int .i64 room, .map (some m), .pointer (fstP l1 y.p), .pointer x.p].toArray 79 (0, 0)) :: F) w := seg_to rfl rfl h3
      rw [show l1 ++ [y] ++ [x] = l1 ++ y :: [x] by simp]
      exact h4.perm (List.Perm.swap ..)
    · have h1 : Holds w0 (Seg 106 none (l1 ++ [y]) none :: Blk sb (.cells [Value.int .i64 room, .map (some m), .pointer (fstP l1 y.p), .pointer y.p].toArray 79 (0, 0)) :: Blk x.b (.cells (ndC x none none).toArray 106 (0, 0)) :: F) w := hw.perm (List.Perm.swap ..)
      have h2 : Holds w0 (Seg 106 none (l1) y.p :: Blk y.b (.cells (ndC y (lstP l1 none) none).toArray 106 (0, 0)) :: Seg 106 y.p [] none :: Blk sb (.cells [Value.int .i64 room, .map (some m), .pointer (fstP l1 y.p), .pointer y.p].toArray 79 (0, 0)) :: Blk x.b (.cells (ndC x none none).toArray 106 (0, 0)) :: F) w := seg_at (l1 := l1) (x := y) (l2 := []) h1
      exact SPI.holds h2
end Go.Proofs.YtjfibfbknfeflaaDoor.Fw
