import Derived.Test.YtjfibfbknfeflaaDoorDInst
namespace Go.Proofs.YtjfibfbknfeflaaDoor.Fw
open Go Go.Proofs
set_option linter.unusedVariables false
set_option linter.unusedSimpArgs false
set_option maxRecDepth 10000
theorem fa_96_2 (a : Addr) (w : World) : (Instr.fieldAt 96 (.pointer (some a)) 2).run Tryd.prog w = .ok (.pointer (some (a.add 3))) w := by
  simp [Instr.fieldAt, Tryd.runUnderlying96, Instr.sureAddr, fieldPlace, Tryd.sizeOf49, Sem.run_bind, Sem.run_pure]
theorem fa_96_3 (a : Addr) (w : World) : (Instr.fieldAt 96 (.pointer (some a)) 3).run Tryd.prog w = .ok (.pointer (some (a.add 4))) w := by
  simp [Instr.fieldAt, Tryd.runUnderlying96, Instr.sureAddr, fieldPlace, Tryd.sizeOf49, Sem.run_bind, Sem.run_pure]
theorem fa_51_2 (a : Addr) (w : World) : (Instr.fieldAt 51 (.pointer (some a)) 2).run Tryd.prog w = .ok (.pointer (some (a.add 2))) w := by
  simp [Instr.fieldAt, Tryd.runUnderlying51, Instr.sureAddr, fieldPlace, Tryd.sizeOf49, Sem.run_bind, Sem.run_pure]
theorem fa_51_3 (a : Addr) (w : World) : (Instr.fieldAt 51 (.pointer (some a)) 3).run Tryd.prog w = .ok (.pointer (some (a.add 3))) w := by
  simp [Instr.fieldAt, Tryd.runUnderlying51, Instr.sureAddr, fieldPlace, Tryd.sizeOf49, Sem.run_bind, Sem.run_pure]
theorem fa_102_2 (a : Addr) (w : World) : (Instr.fieldAt 102 (.pointer (some a)) 2).run Tryd.prog w = .ok (.pointer (some (a.add 3))) w := by
  simp [Instr.fieldAt, Tryd.runUnderlying102, Instr.sureAddr, fieldPlace, Tryd.sizeOf53, Sem.run_bind, Sem.run_pure]
theorem fa_102_3 (a : Addr) (w : World) : (Instr.fieldAt 102 (.pointer (some a)) 3).run Tryd.prog w = .ok (.pointer (some (a.add 4))) w := by
  simp [Instr.fieldAt, Tryd.runUnderlying102, Instr.sureAddr, fieldPlace, Tryd.sizeOf53, Sem.run_bind, Sem.run_pure]
theorem fa_55_2 (a : Addr) (w : World) : (Instr.fieldAt 55 (.pointer (some a)) 2).run Tryd.prog w = .ok (.pointer (some (a.add 2))) w := by
  simp [Instr.fieldAt, Tryd.runUnderlying55, Instr.sureAddr, fieldPlace, Tryd.sizeOf53, Sem.run_bind, Sem.run_pure]
theorem fa_55_3 (a : Addr) (w : World) : (Instr.fieldAt 55 (.pointer (some a)) 3).run Tryd.prog w = .ok (.pointer (some (a.add 3))) w := by
  simp [Instr.fieldAt, Tryd.runUnderlying55, Instr.sureAddr, fieldPlace, Tryd.sizeOf53, Sem.run_bind, Sem.run_pure]
theorem unl_a_st (w0 : World) (F : List Atom) (sb m : Nat) (room : Int) (xb : Nat) (xk : ByteArray) (xv : (Int × Int)) (yb : Nat) (yk : ByteArray) (yv : (Int × Int)) (zb : Nat) (zk : ByteArray) (zv : (Int × Int)) (fi la p n : Option Addr) :
    CallK Tryd.prog 50 [.pointer (some ⟨sb, 0, none⟩), .pointer (some ⟨xb, 0, none⟩)] w0 (Blk sb (.cells [Value.int .i64 room, .map (some m), .pointer (some ⟨xb, 0, none⟩), .pointer (some ⟨xb, 0, none⟩)].toArray 51 (0, 0)) :: Blk xb (.cells [Value.string xk, .int .i64 xv.1, .int .i64 xv.2, .pointer none, .pointer none].toArray 96 (0, 0)) :: F) (Gives w0 fun v F2 => v = .tuple #[] ∧ F2 = Blk sb (.cells [Value.int .i64 room, .map (some m), .pointer none, .pointer none].toArray 51 (0, 0)) :: Blk xb (.cells [Value.string xk, .int .i64 xv.1, .int .i64 xv.2, .pointer none, .pointer none].toArray 96 (0, 0)) :: F) := by
  refine c_enter Tryd.func50 rfl rfl rfl ?_
  refine g_seq ?_
  refine g_seq ?_
  refine g_region ?_
  refine l_move rfl rfl ?_
  refine l_nilCheck rfl rfl ?_
  refine l_fieldAddr rfl fa_96_2 rfl ?_
  refine l_ld rfl Tryd.isAgg49 rfl rfl ?_
  refine l_eqpn rfl Tryd.underlying49 rfl rfl ?_
  refine l_nil ?_
  refine g_cond_t rfl ?_
  refine g_region ?_
  refine l_move rfl rfl ?_
  refine l_move rfl rfl ?_
  refine l_nilCheck rfl rfl ?_
  refine l_fieldAddr rfl fa_96_3 rfl ?_
  refine l_ld rfl Tryd.isAgg49 rfl rfl ?_
  refine l_nilCheck rfl rfl ?_
  refine l_fieldAddr rfl fa_51_2 rfl ?_
  refine l_st Tryd.sizeOf49 rfl rfl rfl rfl ?_
  refine l_nil ?_
  refine g_seq ?_
  refine g_seq ?_
  refine g_region ?_
  refine l_move rfl rfl ?_
  refine l_nilCheck rfl rfl ?_
  refine l_fieldAddr rfl fa_96_3 rfl ?_
  refine l_ld rfl Tryd.isAgg49 rfl rfl ?_
  refine l_eqpn rfl Tryd.underlying49 rfl rfl ?_
  refine l_nil ?_
  refine g_cond_t rfl ?_
  refine g_region ?_
  refine l_move rfl rfl ?_
  refine l_move rfl rfl ?_
  refine l_nilCheck rfl rfl ?_
  refine l_fieldAddr rfl fa_96_2 rfl ?_
  refine l_ld rfl Tryd.isAgg49 rfl rfl ?_
  refine l_nilCheck rfl rfl ?_
  refine l_fieldAddr rfl fa_51_3 rfl ?_
  refine l_st Tryd.sizeOf49 rfl rfl rfl rfl ?_
  refine l_nil ?_
  refine g_region ?_
  refine l_move rfl rfl ?_
  refine l_move rfl rfl ?_
  refine l_nilCheck rfl rfl ?_
  refine l_fieldAddr rfl fa_96_2 rfl ?_
  refine l_st Tryd.sizeOf49 rfl rfl rfl rfl ?_
  refine l_nilCheck rfl rfl ?_
  refine l_fieldAddr rfl fa_96_3 rfl ?_
  refine l_st Tryd.sizeOf49 rfl rfl rfl rfl ?_
  refine l_nil ?_
  refine g_end Tryd.func50 rfl .nil ?_
  exact Gives.mki ⟨rfl, rfl⟩
theorem unl_b_st (w0 : World) (F : List Atom) (sb m : Nat) (room : Int) (xb : Nat) (xk : ByteArray) (xv : (Int × Int)) (yb : Nat) (yk : ByteArray) (yv : (Int × Int)) (zb : Nat) (zk : ByteArray) (zv : (Int × Int)) (fi la p n : Option Addr) :
    CallK Tryd.prog 50 [.pointer (some ⟨sb, 0, none⟩), .pointer (some ⟨xb, 0, none⟩)] w0 (Blk sb (.cells [Value.int .i64 room, .map (some m), .pointer (some ⟨xb, 0, none⟩), .pointer la].toArray 51 (0, 0)) :: Blk xb (.cells [Value.string xk, .int .i64 xv.1, .int .i64 xv.2, .pointer none, .pointer (some ⟨zb, 0, none⟩)].toArray 96 (0, 0)) :: Blk zb (.cells [Value.string zk, .int .i64 zv.1, .int .i64 zv.2, .pointer (some ⟨xb, 0, none⟩), .pointer n].toArray 96 (0, 0)) :: F) (Gives w0 fun v F2 => v = .tuple #[] ∧ F2 = Blk sb (.cells [Value.int .i64 room, .map (some m), .pointer (some ⟨zb, 0, none⟩), .pointer la].toArray 51 (0, 0)) :: Blk xb (.cells [Value.string xk, .int .i64 xv.1, .int .i64 xv.2, .pointer none, .pointer none].toArray 96 (0, 0)) :: Blk zb (.cells [Value.string zk, .int .i64 zv.1, .int .i64 zv.2, .pointer none, .pointer n].toArray 96 (0, 0)) :: F) := by
  refine c_enter Tryd.func50 rfl rfl rfl ?_
  refine g_seq ?_
  refine g_seq ?_
  refine g_region ?_
  refine l_move rfl rfl ?_
  refine l_nilCheck rfl rfl ?_
  refine l_fieldAddr rfl fa_96_2 rfl ?_
  refine l_ld rfl Tryd.isAgg49 rfl rfl ?_
  refine l_eqpn rfl Tryd.underlying49 rfl rfl ?_
  refine l_nil ?_
  refine g_cond_t rfl ?_
  refine g_region ?_
  refine l_move rfl rfl ?_
  refine l_move rfl rfl ?_
  refine l_nilCheck rfl rfl ?_
  refine l_fieldAddr rfl fa_96_3 rfl ?_
  refine l_ld rfl Tryd.isAgg49 rfl rfl ?_
  refine l_nilCheck rfl rfl ?_
  refine l_fieldAddr rfl fa_51_2 rfl ?_
  refine l_st Tryd.sizeOf49 rfl rfl rfl rfl ?_
  refine l_nil ?_
  refine g_seq ?_
  refine g_seq ?_
  refine g_region ?_
  refine l_move rfl rfl ?_
  refine l_nilCheck rfl rfl ?_
  refine l_fieldAddr rfl fa_96_3 rfl ?_
  refine l_ld rfl Tryd.isAgg49 rfl rfl ?_
  refine l_eqpn rfl Tryd.underlying49 rfl rfl ?_
  refine l_nil ?_
  refine g_cond_f rfl ?_
  refine gp_start mo (by kernel_rfl) (by kernel_rfl) ?_
  refine gp_quiet 0 rfl rfl rfl rfl rfl rfl (q_move rfl) ?_
  refine gp_quiet 1 rfl rfl rfl rfl rfl rfl (q_nilCheck rfl) ?_
  refine gp_quiet 2 rfl rfl rfl rfl rfl rfl (q_fieldAddr fa_96_3 rfl) ?_
  refine gp_quiet 3 rfl rfl rfl rfl rfl rfl (q_ld Tryd.isAgg49 rfl rfl) ?_
  refine gp_quiet 4 rfl rfl rfl rfl rfl rfl (q_move rfl) ?_
  refine gp_quiet 5 rfl rfl rfl rfl rfl rfl (q_nilCheck rfl) ?_
  refine gp_quiet 6 rfl rfl rfl rfl rfl rfl (q_fieldAddr fa_96_2 rfl) ?_
  refine gp_quiet 7 rfl rfl rfl rfl rfl rfl (q_ld Tryd.isAgg49 rfl rfl) ?_
  refine gp_quiet 8 rfl rfl rfl rfl rfl rfl (q_nilCheck rfl) ?_
  refine gp_quiet 9 rfl rfl rfl rfl rfl rfl (q_fieldAddr fa_96_2 rfl) ?_
  refine gp_effa 10 [0, 1, 2, 3, 4, 5, 6, 7, 9] [8] rfl rfl rfl rfl rfl rfl rfl (does_st Tryd.sizeOf49 rfl rfl rfl rfl) ?_
  rintro _ _ ⟨rfl, rfl⟩
  refine ⟨?_, ?_⟩
  · refine .cons rfl rfl rfl rfl rfl (q_nilCheck rfl) ?_
    exact .nil
  refine gp_end rfl rfl ?_
  refine g_region ?_
  refine l_move rfl rfl ?_
  refine l_move rfl rfl ?_
  refine l_nilCheck rfl rfl ?_
  refine l_fieldAddr rfl fa_96_2 rfl ?_
  refine l_st Tryd.sizeOf49 rfl rfl rfl rfl ?_
  refine l_nilCheck rfl rfl ?_
  refine l_fieldAddr rfl fa_96_3 rfl ?_
  refine l_st Tryd.sizeOf49 rfl rfl rfl rfl ?_
  refine l_nil ?_
  refine g_end Tryd.func50 rfl .nil ?_
  exact Gives.mki ⟨rfl, rfl⟩
theorem unl_c_st (w0 : World) (F : List Atom) (sb m : Nat) (room : Int) (xb : Nat) (xk : ByteArray) (xv : (Int × Int)) (yb : Nat) (yk : ByteArray) (yv : (Int × Int)) (zb : Nat) (zk : ByteArray) (zv : (Int × Int)) (fi la p n : Option Addr) :
    CallK Tryd.prog 50 [.pointer (some ⟨sb, 0, none⟩), .pointer (some ⟨xb, 0, none⟩)] w0 (Blk sb (.cells [Value.int .i64 room, .map (some m), .pointer fi, .pointer (some ⟨xb, 0, none⟩)].toArray 51 (0, 0)) :: Blk yb (.cells [Value.string yk, .int .i64 yv.1, .int .i64 yv.2, .pointer p, .pointer (some ⟨xb, 0, none⟩)].toArray 96 (0, 0)) :: Blk xb (.cells [Value.string xk, .int .i64 xv.1, .int .i64 xv.2, .pointer (some ⟨yb, 0, none⟩), .pointer none].toArray 96 (0, 0)) :: F) (Gives w0 fun v F2 => v = .tuple #[] ∧ F2 = Blk sb (.cells [Value.int .i64 room, .map (some m), .pointer fi, .pointer (some ⟨yb, 0, none⟩)].toArray 51 (0, 0)) :: Blk yb (.cells [Value.string yk, .int .i64 yv.1, .int .i64 yv.2, .pointer p, .pointer none].toArray 96 (0, 0)) :: Blk xb (.cells [Value.string xk, .int .i64 xv.1, .int .i64 xv.2, .pointer none, .pointer none].toArray 96 (0, 0)) :: F) := by
  refine c_enter Tryd.func50 rfl rfl rfl ?_
  refine g_seq ?_
  refine g_seq ?_
  refine g_region ?_
  refine l_move rfl rfl ?_
  refine l_nilCheck rfl rfl ?_
  refine l_fieldAddr rfl fa_96_2 rfl ?_
  refine l_ld rfl Tryd.isAgg49 rfl rfl ?_
  refine l_eqpn rfl Tryd.underlying49 rfl rfl ?_
  refine l_nil ?_
  refine g_cond_f rfl ?_
  refine gp_start mo (by kernel_rfl) (by kernel_rfl) ?_
  refine gp_quiet 0 rfl rfl rfl rfl rfl rfl (q_move rfl) ?_
  refine gp_quiet 1 rfl rfl rfl rfl rfl rfl (q_nilCheck rfl) ?_
  refine gp_quiet 2 rfl rfl rfl rfl rfl rfl (q_fieldAddr fa_96_2 rfl) ?_
  refine gp_quiet 3 rfl rfl rfl rfl rfl rfl (q_ld Tryd.isAgg49 rfl rfl) ?_
  refine gp_quiet 4 rfl rfl rfl rfl rfl rfl (q_move rfl) ?_
  refine gp_quiet 5 rfl rfl rfl rfl rfl rfl (q_nilCheck rfl) ?_
  refine gp_quiet 6 rfl rfl rfl rfl rfl rfl (q_fieldAddr fa_96_3 rfl) ?_
  refine gp_quiet 7 rfl rfl rfl rfl rfl rfl (q_ld Tryd.isAgg49 rfl rfl) ?_
  refine gp_quiet 8 rfl rfl rfl rfl rfl rfl (q_nilCheck rfl) ?_
  refine gp_quiet 9 rfl rfl rfl rfl rfl rfl (q_fieldAddr fa_96_3 rfl) ?_
  refine gp_effa 10 [0, 1, 2, 3, 4, 5, 6, 7, 9] [8] rfl rfl rfl rfl rfl rfl rfl (does_st Tryd.sizeOf49 rfl rfl rfl rfl) ?_
  rintro _ _ ⟨rfl, rfl⟩
  refine ⟨?_, ?_⟩
  · refine .cons rfl rfl rfl rfl rfl (q_nilCheck rfl) ?_
    exact .nil
  refine gp_end rfl rfl ?_
  refine g_seq ?_
  refine g_seq ?_
  refine g_region ?_
  refine l_move rfl rfl ?_
  refine l_nilCheck rfl rfl ?_
  refine l_fieldAddr rfl fa_96_3 rfl ?_
  refine l_ld rfl Tryd.isAgg49 rfl rfl ?_
  refine l_eqpn rfl Tryd.underlying49 rfl rfl ?_
  refine l_nil ?_
  refine g_cond_t rfl ?_
  refine g_region ?_
  refine l_move rfl rfl ?_
  refine l_move rfl rfl ?_
  refine l_nilCheck rfl rfl ?_
  refine l_fieldAddr rfl fa_96_2 rfl ?_
  refine l_ld rfl Tryd.isAgg49 rfl rfl ?_
  refine l_nilCheck rfl rfl ?_
  refine l_fieldAddr rfl fa_51_3 rfl ?_
  refine l_st Tryd.sizeOf49 rfl rfl rfl rfl ?_
  refine l_nil ?_
  refine g_region ?_
  refine l_move rfl rfl ?_
  refine l_move rfl rfl ?_
  refine l_nilCheck rfl rfl ?_
  refine l_fieldAddr rfl fa_96_2 rfl ?_
  refine l_st Tryd.sizeOf49 rfl rfl rfl rfl ?_
  refine l_nilCheck rfl rfl ?_
  refine l_fieldAddr rfl fa_96_3 rfl ?_
  refine l_st Tryd.sizeOf49 rfl rfl rfl rfl ?_
  refine l_nil ?_
  refine g_end Tryd.func50 rfl .nil ?_
  exact Gives.mki ⟨rfl, rfl⟩
theorem unl_d_st (w0 : World) (F : List Atom) (sb m : Nat) (room : Int) (xb : Nat) (xk : ByteArray) (xv : (Int × Int)) (yb : Nat) (yk : ByteArray) (yv : (Int × Int)) (zb : Nat) (zk : ByteArray) (zv : (Int × Int)) (fi la p n : Option Addr) :
    CallK Tryd.prog 50 [.pointer (some ⟨sb, 0, none⟩), .pointer (some ⟨xb, 0, none⟩)] w0 (Blk sb (.cells [Value.int .i64 room, .map (some m), .pointer fi, .pointer la].toArray 51 (0, 0)) :: Blk yb (.cells [Value.string yk, .int .i64 yv.1, .int .i64 yv.2, .pointer p, .pointer (some ⟨xb, 0, none⟩)].toArray 96 (0, 0)) :: Blk xb (.cells [Value.string xk, .int .i64 xv.1, .int .i64 xv.2, .pointer (some ⟨yb, 0, none⟩), .pointer (some ⟨zb, 0, none⟩)].toArray 96 (0, 0)) :: Blk zb (.cells [Value.string zk, .int .i64 zv.1, .int .i64 zv.2, .pointer (some ⟨xb, 0, none⟩), .pointer n].toArray 96 (0, 0)) :: F) (Gives w0 fun v F2 => v = .tuple #[] ∧ F2 = Blk sb (.cells [Value.int .i64 room, .map (some m), .pointer fi, .pointer la].toArray 51 (0, 0)) :: Blk yb (.cells [Value.string yk, .int .i64 yv.1, .int .i64 yv.2, .pointer p, .pointer (some ⟨zb, 0, none⟩)].toArray 96 (0, 0)) :: Blk xb (.cells [Value.string xk, .int .i64 xv.1, .int .i64 xv.2, .pointer none, .pointer none].toArray 96 (0, 0)) :: Blk zb (.cells [Value.string zk, .int .i64 zv.1, .int .i64 zv.2, .pointer (some ⟨yb, 0, none⟩), .pointer n].toArray 96 (0, 0)) :: F) := by
  refine c_enter Tryd.func50 rfl rfl rfl ?_
  refine g_seq ?_
  refine g_seq ?_
  refine g_region ?_
  refine l_move rfl rfl ?_
  refine l_nilCheck rfl rfl ?_
  refine l_fieldAddr rfl fa_96_2 rfl ?_
  refine l_ld rfl Tryd.isAgg49 rfl rfl ?_
  refine l_eqpn rfl Tryd.underlying49 rfl rfl ?_
  refine l_nil ?_
  refine g_cond_f rfl ?_
  refine gp_start mo (by kernel_rfl) (by kernel_rfl) ?_
  refine gp_quiet 0 rfl rfl rfl rfl rfl rfl (q_move rfl) ?_
  refine gp_quiet 1 rfl rfl rfl rfl rfl rfl (q_nilCheck rfl) ?_
  refine gp_quiet 2 rfl rfl rfl rfl rfl rfl (q_fieldAddr fa_96_2 rfl) ?_
  refine gp_quiet 3 rfl rfl rfl rfl rfl rfl (q_ld Tryd.isAgg49 rfl rfl) ?_
  refine gp_quiet 4 rfl rfl rfl rfl rfl rfl (q_move rfl) ?_
  refine gp_quiet 5 rfl rfl rfl rfl rfl rfl (q_nilCheck rfl) ?_
  refine gp_quiet 6 rfl rfl rfl rfl rfl rfl (q_fieldAddr fa_96_3 rfl) ?_
  refine gp_quiet 7 rfl rfl rfl rfl rfl rfl (q_ld Tryd.isAgg49 rfl rfl) ?_
  refine gp_quiet 8 rfl rfl rfl rfl rfl rfl (q_nilCheck rfl) ?_
  refine gp_quiet 9 rfl rfl rfl rfl rfl rfl (q_fieldAddr fa_96_3 rfl) ?_
  refine gp_effa 10 [0, 1, 2, 3, 4, 5, 6, 7, 9] [8] rfl rfl rfl rfl rfl rfl rfl (does_st Tryd.sizeOf49 rfl rfl rfl rfl) ?_
  rintro _ _ ⟨rfl, rfl⟩
  refine ⟨?_, ?_⟩
  · refine .cons rfl rfl rfl rfl rfl (q_nilCheck rfl) ?_
    exact .nil
  refine gp_end rfl rfl ?_
  refine g_seq ?_
  refine g_seq ?_
  refine g_region ?_
  refine l_move rfl rfl ?_
  refine l_nilCheck rfl rfl ?_
  refine l_fieldAddr rfl fa_96_3 rfl ?_
  refine l_ld rfl Tryd.isAgg49 rfl rfl ?_
  refine l_eqpn rfl Tryd.underlying49 rfl rfl ?_
  refine l_nil ?_
  refine g_cond_f rfl ?_
  refine gp_start mo (by kernel_rfl) (by kernel_rfl) ?_
  refine gp_quiet 0 rfl rfl rfl rfl rfl rfl (q_move rfl) ?_
  refine gp_quiet 1 rfl rfl rfl rfl rfl rfl (q_nilCheck rfl) ?_
  refine gp_quiet 2 rfl rfl rfl rfl rfl rfl (q_fieldAddr fa_96_3 rfl) ?_
  refine gp_quiet 3 rfl rfl rfl rfl rfl rfl (q_ld Tryd.isAgg49 rfl rfl) ?_
  refine gp_quiet 4 rfl rfl rfl rfl rfl rfl (q_move rfl) ?_
  refine gp_quiet 5 rfl rfl rfl rfl rfl rfl (q_nilCheck rfl) ?_
  refine gp_quiet 6 rfl rfl rfl rfl rfl rfl (q_fieldAddr fa_96_2 rfl) ?_
  refine gp_quiet 7 rfl rfl rfl rfl rfl rfl (q_ld Tryd.isAgg49 rfl rfl) ?_
  refine gp_quiet 8 rfl rfl rfl rfl rfl rfl (q_nilCheck rfl) ?_
  refine gp_quiet 9 rfl rfl rfl rfl rfl rfl (q_fieldAddr fa_96_2 rfl) ?_
  refine gp_effa 10 [0, 1, 2, 3, 4, 5, 6, 7, 9] [8] rfl rfl rfl rfl rfl rfl rfl (does_st Tryd.sizeOf49 rfl rfl rfl rfl) ?_
  rintro _ _ ⟨rfl, rfl⟩
  refine ⟨?_, ?_⟩
  · refine .cons rfl rfl rfl rfl rfl (q_nilCheck rfl) ?_
    exact .nil
  refine gp_end rfl rfl ?_
  refine g_region ?_
  refine l_move rfl rfl ?_
  refine l_move rfl rfl ?_
  refine l_nilCheck rfl rfl ?_
  refine l_fieldAddr rfl fa_96_2 rfl ?_
  refine l_st Tryd.sizeOf49 rfl rfl rfl rfl ?_
  refine l_nilCheck rfl rfl ?_
  refine l_fieldAddr rfl fa_96_3 rfl ?_
  refine l_st Tryd.sizeOf49 rfl rfl rfl rfl ?_
  refine l_nil ?_
  refine g_end Tryd.func50 rfl .nil ?_
  exact Gives.mki ⟨rfl, rfl⟩
theorem app_0_st (w0 : World) (F : List Atom) (sb m : Nat) (room : Int) (xb : Nat) (xk : ByteArray) (xv : (Int × Int)) (yb : Nat) (yk : ByteArray) (yv : (Int × Int)) (zb : Nat) (zk : ByteArray) (zv : (Int × Int)) (fi la p n : Option Addr) :
    CallK Tryd.prog 51 [.pointer (some ⟨sb, 0, none⟩), .pointer (some ⟨xb, 0, none⟩)] w0 (Blk sb (.cells [Value.int .i64 room, .map (some m), .pointer none, .pointer none].toArray 51 (0, 0)) :: Blk xb (.cells [Value.string xk, .int .i64 xv.1, .int .i64 xv.2, .pointer none, .pointer none].toArray 96 (0, 0)) :: F) (Gives w0 fun v F2 => v = .tuple #[] ∧ F2 = Blk sb (.cells [Value.int .i64 room, .map (some m), .pointer (some ⟨xb, 0, none⟩), .pointer (some ⟨xb, 0, none⟩)].toArray 51 (0, 0)) :: Blk xb (.cells [Value.string xk, .int .i64 xv.1, .int .i64 xv.2, .pointer none, .pointer none].toArray 96 (0, 0)) :: F) := by
  refine c_enter Tryd.func51 rfl rfl rfl ?_
  refine g_seq ?_
  refine g_region ?_
  refine l_move rfl rfl ?_
  refine l_move rfl rfl ?_
  refine l_nilCheck rfl rfl ?_
  refine l_fieldAddr rfl fa_51_3 rfl ?_
  refine l_ld rfl Tryd.isAgg49 rfl rfl ?_
  refine l_nilCheck rfl rfl ?_
  refine l_fieldAddr rfl fa_96_2 rfl ?_
  refine l_st Tryd.sizeOf49 rfl rfl rfl rfl ?_
  refine l_nil ?_
  refine g_seq ?_
  refine g_seq ?_
  refine g_region ?_
  refine l_move rfl rfl ?_
  refine l_nilCheck rfl rfl ?_
  refine l_fieldAddr rfl fa_51_3 rfl ?_
  refine l_ld rfl Tryd.isAgg49 rfl rfl ?_
  refine l_eqpn rfl Tryd.underlying49 rfl rfl ?_
  refine l_nil ?_
  refine g_cond_t rfl ?_
  refine g_region ?_
  refine l_move rfl rfl ?_
  refine l_move rfl rfl ?_
  refine l_nilCheck rfl rfl ?_
  refine l_fieldAddr rfl fa_51_2 rfl ?_
  refine l_st Tryd.sizeOf49 rfl rfl rfl rfl ?_
  refine l_nil ?_
  refine g_region ?_
  refine l_move rfl rfl ?_
  refine l_move rfl rfl ?_
  refine l_nilCheck rfl rfl ?_
  refine l_fieldAddr rfl fa_51_3 rfl ?_
  refine l_st Tryd.sizeOf49 rfl rfl rfl rfl ?_
  refine l_nil ?_
  refine g_end Tryd.func51 rfl .nil ?_
  exact Gives.mki ⟨rfl, rfl⟩
theorem app_1_st (w0 : World) (F : List Atom) (sb m : Nat) (room : Int) (xb : Nat) (xk : ByteArray) (xv : (Int × Int)) (yb : Nat) (yk : ByteArray) (yv : (Int × Int)) (zb : Nat) (zk : ByteArray) (zv : (Int × Int)) (fi la p n : Option Addr) :
    CallK Tryd.prog 51 [.pointer (some ⟨sb, 0, none⟩), .pointer (some ⟨xb, 0, none⟩)] w0 (Blk sb (.cells [Value.int .i64 room, .map (some m), .pointer fi, .pointer (some ⟨yb, 0, none⟩)].toArray 51 (0, 0)) :: Blk yb (.cells [Value.string yk, .int .i64 yv.1, .int .i64 yv.2, .pointer p, .pointer none].toArray 96 (0, 0)) :: Blk xb (.cells [Value.string xk, .int .i64 xv.1, .int .i64 xv.2, .pointer none, .pointer none].toArray 96 (0, 0)) :: F) (Gives w0 fun v F2 => v = .tuple #[] ∧ F2 = Blk sb (.cells [Value.int .i64 room, .map (some m), .pointer fi, .pointer (some ⟨xb, 0, none⟩)].toArray 51 (0, 0)) :: Blk yb (.cells [Value.string yk, .int .i64 yv.1, .int .i64 yv.2, .pointer p, .pointer (some ⟨xb, 0, none⟩)].toArray 96 (0, 0)) :: Blk xb (.cells [Value.string xk, .int .i64 xv.1, .int .i64 xv.2, .pointer (some ⟨yb, 0, none⟩), .pointer none].toArray 96 (0, 0)) :: F) := by
  refine c_enter Tryd.func51 rfl rfl rfl ?_
  refine g_seq ?_
  refine g_region ?_
  refine l_move rfl rfl ?_
  refine l_move rfl rfl ?_
  refine l_nilCheck rfl rfl ?_
  refine l_fieldAddr rfl fa_51_3 rfl ?_
  refine l_ld rfl Tryd.isAgg49 rfl rfl ?_
  refine l_nilCheck rfl rfl ?_
  refine l_fieldAddr rfl fa_96_2 rfl ?_
  refine l_st Tryd.sizeOf49 rfl rfl rfl rfl ?_
  refine l_nil ?_
  refine g_seq ?_
  refine g_seq ?_
  refine g_region ?_
  refine l_move rfl rfl ?_
  refine l_nilCheck rfl rfl ?_
  refine l_fieldAddr rfl fa_51_3 rfl ?_
  refine l_ld rfl Tryd.isAgg49 rfl rfl ?_
  refine l_eqpn rfl Tryd.underlying49 rfl rfl ?_
  refine l_nil ?_
  refine g_cond_f rfl ?_
  refine g_region ?_
  refine l_move rfl rfl ?_
  refine l_nilCheck rfl rfl ?_
  refine l_fieldAddr rfl fa_51_3 rfl ?_
  refine l_ld rfl Tryd.isAgg49 rfl rfl ?_
  refine l_move rfl rfl ?_
  refine l_nilCheck rfl rfl ?_
  refine l_fieldAddr rfl fa_96_3 rfl ?_
  refine l_st Tryd.sizeOf49 rfl rfl rfl rfl ?_
  refine l_nil ?_
  refine g_region ?_
  refine l_move rfl rfl ?_
  refine l_move rfl rfl ?_
  refine l_nilCheck rfl rfl ?_
  refine l_fieldAddr rfl fa_51_3 rfl ?_
  refine l_st Tryd.sizeOf49 rfl rfl rfl rfl ?_
  refine l_nil ?_
  refine g_end Tryd.func51 rfl .nil ?_
  exact Gives.mki ⟨rfl, rfl⟩
theorem unlink_st (w0 : World) (F : List Atom) (sb m : Nat) (room : Int) (l1 l2 : List NdS) (x : NdS) : CallK Tryd.prog 50 [.pointer (some ⟨sb, 0, none⟩), .pointer x.p] w0 (Blk sb (.cells [Value.int .i64 room, .map (some m), .pointer (fstPS (l1 ++ x :: l2) none), .pointer (lstPS (l1 ++ x :: l2) none)].toArray 51 (0, 0)) :: SegS 96 none (l1 ++ x :: l2) none :: F) (Gives w0 fun v F2 => v = .tuple #[] ∧ F2 = Blk sb (.cells [Value.int .i64 room, .map (some m), .pointer (fstPS (l1 ++ l2) none), .pointer (lstPS (l1 ++ l2) none)].toArray 51 (0, 0)) :: SegS 96 none (l1 ++ l2) none :: Blk x.b (.cells (ndCS x none none).toArray 96 (0, 0)) :: F) := by
  rcases List.eq_nil_or_concat l1 with rfl | ⟨l1, y, rfl⟩
  · cases l2 with
    | nil =>
      refine CallK.heap (F2 := Blk sb (.cells [Value.int .i64 room, .map (some m), .pointer x.p, .pointer x.p].toArray 51 (0, 0)) :: Blk x.b (.cells (ndCS x none none).toArray 96 (0, 0)) :: F) (CallK.mono (unl_a_st w0 F sb m room x.b x.k x.v 0 x.k x.v 0 x.k x.v none none none none) ?_) (fun w hw => ?_)
      · rintro en F2 ⟨v, F3, rfl, ⟨rfl, rfl⟩, h⟩
        exact ⟨_, _, rfl, ⟨rfl, rfl⟩, fun w hw => (segS_nil ((h w hw).perm (List.Perm.swap ..))).perm ((List.Perm.cons _ (List.Perm.swap ..)).trans (List.Perm.swap ..))⟩
      · exact (segS_one.1 (hw.perm (List.Perm.swap ..))).perm (List.Perm.swap ..)
    | cons z l2 =>
      refine CallK.heap (F2 := Blk sb (.cells [Value.int .i64 room, .map (some m), .pointer x.p, .pointer (lstPS l2 z.p)].toArray 51 (0, 0)) :: Blk x.b (.cells (ndCS x none z.p).toArray 96 (0, 0)) :: Blk z.b (.cells (ndCS z x.p (fstPS l2 none)).toArray 96 (0, 0)) :: SegS 96 z.p (l2) none :: F) (CallK.mono (unl_b_st w0 (SegS 96 z.p (l2) none :: F) sb m room x.b x.k x.v 0 x.k x.v z.b z.k z.v none (lstPS l2 z.p) none (fstPS l2 none)) ?_) (fun w hw => ?_)
      · rintro en F2 ⟨v, F3, rfl, ⟨rfl, rfl⟩, h⟩
        refine ⟨_, _, rfl, ⟨rfl, rfl⟩, fun w hw => ?_⟩
        have h0 : Holds w0 (Blk sb (.cells [Value.int .i64 room, .map (some m), .pointer z.p, .pointer (lstPS l2 z.p)].toArray 51 (0, 0)) :: Blk x.b (.cells (ndCS x none none).toArray 96 (0, 0)) :: Blk z.b (.cells (ndCS z none (fstPS l2 none)).toArray 96 (0, 0)) :: SegS 96 z.p (l2) none :: F) w := h w hw
        have h1 : Holds w0 (Blk z.b (.cells (ndCS z none (fstPS l2 none)).toArray 96 (0, 0)) :: SegS 96 z.p (l2) none :: Blk sb (.cells [Value.int .i64 room, .map (some m), .pointer z.p, .pointer (lstPS l2 z.p)].toArray 51 (0, 0)) :: Blk x.b (.cells (ndCS x none none).toArray 96 (0, 0)) :: F) w := SPI.holds h0
        have h2 : Holds w0 (SegS 96 none ([] ++ z :: l2) none :: Blk sb (.cells [Value.int .i64 room, .map (some m), .pointer z.p, .pointer (lstPS l2 z.p)].toArray 51 (0, 0)) :: Blk x.b (.cells (ndCS x none none).toArray 96 (0, 0)) :: F) w := segS_to rfl rfl (segS_nil h1)
        exact h2.perm (List.Perm.swap ..)
      · have h1 : Holds w0 (SegS 96 none [] x.p :: Blk x.b (.cells (ndCS x none z.p).toArray 96 (0, 0)) :: SegS 96 x.p (z :: l2) none :: Blk sb (.cells [Value.int .i64 room, .map (some m), .pointer x.p, .pointer (lstPS l2 z.p)].toArray 51 (0, 0)) :: F) w := segS_at (l1 := []) (l2 := z :: l2) (hw.perm (List.Perm.swap ..))
        have h2 : Holds w0 (SegS 96 x.p ([] ++ z :: l2) none :: Blk x.b (.cells (ndCS x none z.p).toArray 96 (0, 0)) :: Blk sb (.cells [Value.int .i64 room, .map (some m), .pointer x.p, .pointer (lstPS l2 z.p)].toArray 51 (0, 0)) :: F) w := h1.tail.perm (List.Perm.swap ..)
        have h3 : Holds w0 (SegS 96 x.p [] z.p :: Blk z.b (.cells (ndCS z x.p (fstPS l2 none)).toArray 96 (0, 0)) :: SegS 96 z.p (l2) none :: Blk x.b (.cells (ndCS x none z.p).toArray 96 (0, 0)) :: Blk sb (.cells [Value.int .i64 room, .map (some m), .pointer x.p, .pointer (lstPS l2 z.p)].toArray 51 (0, 0)) :: F) w := segS_at h2
        exact SPI.holds h3.tail
  · rw [List.concat_eq_append]
    cases l2 with
    | nil =>
      simp only [List.append_nil, fstPS_app, lstPS_app, fstPS_nil, fstPS_cons, lstPS]
      refine CallK.heap (F2 := Blk sb (.cells [Value.int .i64 room, .map (some m), .pointer (fstPS l1 y.p), .pointer x.p].toArray 51 (0, 0)) :: Blk y.b (.cells (ndCS y (lstPS l1 none) x.p).toArray 96 (0, 0)) :: Blk x.b (.cells (ndCS x y.p none).toArray 96 (0, 0)) :: SegS 96 none (l1) y.p :: F) (CallK.mono (unl_c_st w0 (SegS 96 none (l1) y.p :: F) sb m room x.b x.k x.v y.b y.k y.v 0 x.k x.v (fstPS l1 y.p) none (lstPS l1 none) none) ?_) (fun w hw => ?_)
      · rintro en F2 ⟨v, F3, rfl, ⟨rfl, rfl⟩, h⟩
        refine ⟨_, _, rfl, ⟨rfl, rfl⟩, fun w hw => ?_⟩
        have h0 : Holds w0 (Blk sb (.cells [Value.int .i64 room, .map (some m), .pointer (fstPS l1 y.p), .pointer y.p].toArray 51 (0, 0)) :: Blk y.b (.cells (ndCS y (lstPS l1 none) none).toArray 96 (0, 0)) :: Blk x.b (.cells (ndCS x none none).toArray 96 (0, 0)) :: SegS 96 none (l1) y.p :: F) w := h w hw
        have h1 : Holds w0 (SegS 96 none (l1) y.p :: Blk y.b (.cells (ndCS y (lstPS l1 none) none).toArray 96 (0, 0)) :: Blk sb (.cells [Value.int .i64 room, .map (some m), .pointer (fstPS l1 y.p), .pointer y.p].toArray 51 (0, 0)) :: Blk x.b (.cells (ndCS x none none).toArray 96 (0, 0)) :: F) w := SPI.holds h0
        have h2 : Holds w0 (SegS 96 none (l1) y.p :: Blk y.b (.cells (ndCS y (lstPS l1 none) none).toArray 96 (0, 0)) :: SegS 96 y.p [] none :: Blk sb (.cells [Value.int .i64 room, .map (some m), .pointer (fstPS l1 y.p), .pointer y.p].toArray 51 (0, 0)) :: Blk x.b (.cells (ndCS x none none).toArray 96 (0, 0)) :: F) w := (segS_nil (T := 96) (p := y.p) (n := none) h1).perm ((List.Perm.swap ..).trans (List.Perm.cons _ (List.Perm.swap ..)))
        have h3 : Holds w0 (SegS 96 none (l1 ++ [y]) none :: Blk sb (.cells [Value.int .i64 room, .map (some m), .pointer (fstPS l1 y.p), .pointer y.p].toArray 51 (0, 0)) :: Blk x.b (.cells (ndCS x none none).toArray 96 (0, 0)) :: F) w := segS_to rfl rfl h2
        exact h3.perm (List.Perm.swap ..)
      · have h1 : Holds w0 (SegS 96 none (l1 ++ [y]) x.p :: Blk x.b (.cells (ndCS x (lstPS (l1 ++ [y]) none) none).toArray 96 (0, 0)) :: SegS 96 x.p [] none :: Blk sb (.cells [Value.int .i64 room, .map (some m), .pointer (fstPS l1 y.p), .pointer x.p].toArray 51 (0, 0)) :: F) w := segS_at (l1 := l1 ++ [y]) (l2 := []) (hw.perm (List.Perm.swap ..))
        simp only [lstPS_app, lstPS] at h1
        have h2 : Holds w0 (SegS 96 none (l1) y.p :: Blk y.b (.cells (ndCS y (lstPS l1 none) x.p).toArray 96 (0, 0)) :: SegS 96 y.p [] x.p :: Blk x.b (.cells (ndCS x y.p none).toArray 96 (0, 0)) :: SegS 96 x.p [] none :: Blk sb (.cells [Value.int .i64 room, .map (some m), .pointer (fstPS l1 y.p), .pointer x.p].toArray 51 (0, 0)) :: F) w := segS_at (l1 := l1) (x := y) (l2 := []) h1
        exact SPI.holds h2
    | cons z l2 =>
      simp only [fstPS_app, lstPS_app, fstPS_nil, fstPS_cons, lstPS]
      refine CallK.heap (F2 := Blk sb (.cells [Value.int .i64 room, .map (some m), .pointer (fstPS l1 y.p), .pointer (lstPS l2 z.p)].toArray 51 (0, 0)) :: Blk y.b (.cells (ndCS y (lstPS l1 none) x.p).toArray 96 (0, 0)) :: Blk x.b (.cells (ndCS x y.p z.p).toArray 96 (0, 0)) :: Blk z.b (.cells (ndCS z x.p (fstPS l2 none)).toArray 96 (0, 0)) :: SegS 96 none (l1) y.p :: SegS 96 z.p (l2) none :: F) (CallK.mono (unl_d_st w0 (SegS 96 none (l1) y.p :: SegS 96 z.p (l2) none :: F) sb m room x.b x.k x.v y.b y.k y.v z.b z.k z.v (fstPS l1 y.p) (lstPS l2 z.p) (lstPS l1 none) (fstPS l2 none)) ?_) (fun w hw => ?_)
      · rintro en F2 ⟨v, F3, rfl, ⟨rfl, rfl⟩, h⟩
        refine ⟨_, _, rfl, ⟨rfl, rfl⟩, fun w hw => ?_⟩
        have h0 : Holds w0 (Blk sb (.cells [Value.int .i64 room, .map (some m), .pointer (fstPS l1 y.p), .pointer (lstPS l2 z.p)].toArray 51 (0, 0)) :: Blk y.b (.cells (ndCS y (lstPS l1 none) z.p).toArray 96 (0, 0)) :: Blk x.b (.cells (ndCS x none none).toArray 96 (0, 0)) :: Blk z.b (.cells (ndCS z y.p (fstPS l2 none)).toArray 96 (0, 0)) :: SegS 96 none (l1) y.p :: SegS 96 z.p (l2) none :: F) w := h w hw
        have h1 : Holds w0 (Blk z.b (.cells (ndCS z y.p (fstPS l2 none)).toArray 96 (0, 0)) :: SegS 96 z.p (l2) none :: SegS 96 none (l1) y.p :: Blk y.b (.cells (ndCS y (lstPS l1 none) z.p).toArray 96 (0, 0)) :: Blk sb (.cells [Value.int .i64 room, .map (some m), .pointer (fstPS l1 y.p), .pointer (lstPS l2 z.p)].toArray 51 (0, 0)) :: Blk x.b (.cells (ndCS x none none).toArray 96 (0, 0)) :: F) w := SPI.holds h0
        have h2 : Holds w0 (SegS 96 y.p ([] ++ z :: l2) none :: SegS 96 none (l1) y.p :: Blk y.b (.cells (ndCS y (lstPS l1 none) z.p).toArray 96 (0, 0)) :: Blk sb (.cells [Value.int .i64 room, .map (some m), .pointer (fstPS l1 y.p), .pointer (lstPS l2 z.p)].toArray 51 (0, 0)) :: Blk x.b (.cells (ndCS x none none).toArray 96 (0, 0)) :: F) w := segS_to (p := y.p) rfl rfl (segS_nil h1)
        have h3 : Holds w0 (SegS 96 none (l1) y.p :: Blk y.b (.cells (ndCS y (lstPS l1 none) z.p).toArray 96 (0, 0)) :: SegS 96 y.p (z :: l2) none :: Blk sb (.cells [Value.int .i64 room, .map (some m), .pointer (fstPS l1 y.p), .pointer (lstPS l2 z.p)].toArray 51 (0, 0)) :: Blk x.b (.cells (ndCS x none none).toArray 96 (0, 0)) :: F) w := h2.perm ((List.Perm.swap ..).trans (List.Perm.cons _ (List.Perm.swap ..)))
        have h4 : Holds w0 (SegS 96 none (l1 ++ y :: z :: l2) none :: Blk sb (.cells [Value.int .i64 room, .map (some m), .pointer (fstPS l1 y.p), .pointer (lstPS l2 z.p)].toArray 51 (0, 0)) :: Blk x.b (.cells (ndCS x none none).toArray 96 (0, 0)) :: F) w := segS_to rfl rfl h3
        rw [show l1 ++ [y] ++ z :: l2 = l1 ++ y :: z :: l2 by simp]
        exact h4.perm (List.Perm.swap ..)
      · have h1 : Holds w0 (SegS 96 none (l1 ++ [y]) x.p :: Blk x.b (.cells (ndCS x (lstPS (l1 ++ [y]) none) z.p).toArray 96 (0, 0)) :: SegS 96 x.p (z :: l2) none :: Blk sb (.cells [Value.int .i64 room, .map (some m), .pointer (fstPS l1 y.p), .pointer (lstPS l2 z.p)].toArray 51 (0, 0)) :: F) w := segS_at (l1 := l1 ++ [y]) (l2 := z :: l2) (hw.perm (List.Perm.swap ..))
        simp only [lstPS_app, lstPS] at h1
        have h2 : Holds w0 (SegS 96 none (l1) y.p :: Blk y.b (.cells (ndCS y (lstPS l1 none) x.p).toArray 96 (0, 0)) :: SegS 96 y.p [] x.p :: Blk x.b (.cells (ndCS x y.p z.p).toArray 96 (0, 0)) :: SegS 96 x.p ([] ++ z :: l2) none :: Blk sb (.cells [Value.int .i64 room, .map (some m), .pointer (fstPS l1 y.p), .pointer (lstPS l2 z.p)].toArray 51 (0, 0)) :: F) w := segS_at (l1 := l1) (x := y) (l2 := []) h1
        have h3 : Holds w0 (SegS 96 x.p ([] ++ z :: l2) none :: SegS 96 none (l1) y.p :: Blk y.b (.cells (ndCS y (lstPS l1 none) x.p).toArray 96 (0, 0)) :: Blk x.b (.cells (ndCS x y.p z.p).toArray 96 (0, 0)) :: Blk sb (.cells [Value.int .i64 room, .map (some m), .pointer (fstPS l1 y.p), .pointer (lstPS l2 z.p)].toArray 51 (0, 0)) :: F) w := SPI.holds h2
        have h4 : Holds w0 (SegS 96 x.p [] z.p :: Blk z.b (.cells (ndCS z x.p (fstPS l2 none)).toArray 96 (0, 0)) :: SegS 96 z.p (l2) none :: SegS 96 none (l1) y.p :: Blk y.b (.cells (ndCS y (lstPS l1 none) x.p).toArray 96 (0, 0)) :: Blk x.b (.cells (ndCS x y.p z.p).toArray 96 (0, 0)) :: Blk sb (.cells [Value.int .i64 room, .map (some m), .pointer (fstPS l1 y.p), .pointer (lstPS l2 z.p)].toArray 51 (0, 0)) :: F) w := segS_at h3
        exact SPI.holds h4
theorem append_st (w0 : World) (F : List Atom) (sb m : Nat) (room : Int) (xs : List NdS) (x : NdS) : CallK Tryd.prog 51 [.pointer (some ⟨sb, 0, none⟩), .pointer x.p] w0 (Blk sb (.cells [Value.int .i64 room, .map (some m), .pointer (fstPS (xs) none), .pointer (lstPS (xs) none)].toArray 51 (0, 0)) :: SegS 96 none (xs) none :: Blk x.b (.cells (ndCS x none none).toArray 96 (0, 0)) :: F) (Gives w0 fun v F2 => v = .tuple #[] ∧ F2 = Blk sb (.cells [Value.int .i64 room, .map (some m), .pointer (fstPS (xs ++ [x]) none), .pointer (lstPS (xs ++ [x]) none)].toArray 51 (0, 0)) :: SegS 96 none (xs ++ [x]) none :: F) := by
  rcases List.eq_nil_or_concat xs with rfl | ⟨l1, y, rfl⟩
  · refine CallK.heap (F2 := Blk sb (.cells [Value.int .i64 room, .map (some m), .pointer none, .pointer none].toArray 51 (0, 0)) :: Blk x.b (.cells (ndCS x none none).toArray 96 (0, 0)) :: F) (CallK.mono (app_0_st w0 F sb m room x.b x.k x.v 0 x.k x.v 0 x.k x.v none none none none) ?_) (fun w hw => (hw.perm (List.Perm.swap ..)).tail)
    rintro en F2 ⟨v, F3, rfl, ⟨rfl, rfl⟩, h⟩
    exact ⟨_, _, rfl, ⟨rfl, rfl⟩, fun w hw => (segS_one.2 ((h w hw).perm (List.Perm.swap ..))).perm (List.Perm.swap ..)⟩
  · rw [List.concat_eq_append]
    simp only [fstPS_app, lstPS_app, fstPS_nil, fstPS_cons, lstPS]
    refine CallK.heap (F2 := Blk sb (.cells [Value.int .i64 room, .map (some m), .pointer (fstPS l1 y.p), .pointer y.p].toArray 51 (0, 0)) :: Blk y.b (.cells (ndCS y (lstPS l1 none) none).toArray 96 (0, 0)) :: Blk x.b (.cells (ndCS x none none).toArray 96 (0, 0)) :: SegS 96 none (l1) y.p :: F) (CallK.mono (app_1_st w0 (SegS 96 none (l1) y.p :: F) sb m room x.b x.k x.v y.b y.k y.v 0 x.k x.v (fstPS l1 y.p) none (lstPS l1 none) none) ?_) (fun w hw => ?_)
    · rintro en F2 ⟨v, F3, rfl, ⟨rfl, rfl⟩, h⟩
      refine ⟨_, _, rfl, ⟨rfl, rfl⟩, fun w hw => ?_⟩
      have h0 : Holds w0 (Blk sb (.cells [Value.int .i64 room, .map (some m), .pointer (fstPS l1 y.p), .pointer x.p].toArray 51 (0, 0)) :: Blk y.b (.cells (ndCS y (lstPS l1 none) x.p).toArray 96 (0, 0)) :: Blk x.b (.cells (ndCS x y.p none).toArray 96 (0, 0)) :: SegS 96 none (l1) y.p :: F) w := h w hw
      have h1 : Holds w0 (Blk x.b (.cells (ndCS x y.p none).toArray 96 (0, 0)) :: SegS 96 none (l1) y.p :: Blk y.b (.cells (ndCS y (lstPS l1 none) x.p).toArray 96 (0, 0)) :: Blk sb (.cells [Value.int .i64 room, .map (some m), .pointer (fstPS l1 y.p), .pointer x.p].toArray 51 (0, 0)) :: F) w := SPI.holds h0
      have h2 : Holds w0 (SegS 96 y.p [x] none :: SegS 96 none (l1) y.p :: Blk y.b (.cells (ndCS y (lstPS l1 none) x.p).toArray 96 (0, 0)) :: Blk sb (.cells [Value.int .i64 room, .map (some m), .pointer (fstPS l1 y.p), .pointer x.p].toArray 51 (0, 0)) :: F) w := segS_one.2 h1
      have h3 : Holds w0 (SegS 96 none (l1) y.p :: Blk y.b (.cells (ndCS y (lstPS l1 none) x.p).toArray 96 (0, 0)) :: SegS 96 y.p [x] none :: Blk sb (.cells [Value.int .i64 room, .map (some m), .pointer (fstPS l1 y.p), .pointer x.p].toArray 51 (0, 0)) :: F) w := h2.perm ((List.Perm.swap ..).trans (List.Perm.cons _ (List.Perm.swap ..)))
      have h4 : Holds w0 (SegS 96 none (l1 ++ y :: [x]) none :: Blk sb (.cells [Value.int .i64 room, .map (some m), .pointer (fstPS l1 y.p), .pointer x.p].toArray 51 (0, 0)) :: F) w := segS_to rfl rfl h3
      rw [show l1 ++ [y] ++ [x] = l1 ++ y :: [x] by simp]
      exact h4.perm (List.Perm.swap ..)
    · have h1 : Holds w0 (SegS 96 none (l1 ++ [y]) none :: Blk sb (.cells [Value.int .i64 room, .map (some m), .pointer (fstPS l1 y.p), .pointer y.p].toArray 51 (0, 0)) :: Blk x.b (.cells (ndCS x none none).toArray 96 (0, 0)) :: F) w := hw.perm (List.Perm.swap ..)
      have h2 : Holds w0 (SegS 96 none (l1) y.p :: Blk y.b (.cells (ndCS y (lstPS l1 none) none).toArray 96 (0, 0)) :: SegS 96 y.p [] none :: Blk sb (.cells [Value.int .i64 room, .map (some m), .pointer (fstPS l1 y.p), .pointer y.p].toArray 51 (0, 0)) :: Blk x.b (.cells (ndCS x none none).toArray 96 (0, 0)) :: F) w := segS_at (l1 := l1) (x := y) (l2 := []) h1
      exact SPI.holds h2
theorem unl_a_pt (w0 : World) (F : List Atom) (sb m : Nat) (room : Int) (xb : Nat) (xk : (Int × Int)) (xv : ByteArray) (yb : Nat) (yk : (Int × Int)) (yv : ByteArray) (zb : Nat) (zk : (Int × Int)) (zv : ByteArray) (fi la p n : Option Addr) :
    CallK Tryd.prog 54 [.pointer (some ⟨sb, 0, none⟩), .pointer (some ⟨xb, 0, none⟩)] w0 (Blk sb (.cells [Value.int .i64 room, .map (some m), .pointer (some ⟨xb, 0, none⟩), .pointer (some ⟨xb, 0, none⟩)].toArray 55 (0, 0)) :: Blk xb (.cells [Value.int .i64 xk.1, .int .i64 xk.2, .string xv, .pointer none, .pointer none].toArray 102 (0, 0)) :: F) (Gives w0 fun v F2 => v = .tuple #[] ∧ F2 = Blk sb (.cells [Value.int .i64 room, .map (some m), .pointer none, .pointer none].toArray 55 (0, 0)) :: Blk xb (.cells [Value.int .i64 xk.1, .int .i64 xk.2, .string xv, .pointer none, .pointer none].toArray 102 (0, 0)) :: F) := by
  refine c_enter Tryd.func54 rfl rfl rfl ?_
  refine g_seq ?_
  refine g_seq ?_
  refine g_region ?_
  refine l_move rfl rfl ?_
  refine l_nilCheck rfl rfl ?_
  refine l_fieldAddr rfl fa_102_2 rfl ?_
  refine l_ld rfl Tryd.isAgg53 rfl rfl ?_
  refine l_eqpn rfl Tryd.underlying53 rfl rfl ?_
  refine l_nil ?_
  refine g_cond_t rfl ?_
  refine g_region ?_
  refine l_move rfl rfl ?_
  refine l_move rfl rfl ?_
  refine l_nilCheck rfl rfl ?_
  refine l_fieldAddr rfl fa_102_3 rfl ?_
  refine l_ld rfl Tryd.isAgg53 rfl rfl ?_
  refine l_nilCheck rfl rfl ?_
  refine l_fieldAddr rfl fa_55_2 rfl ?_
  refine l_st Tryd.sizeOf53 rfl rfl rfl rfl ?_
  refine l_nil ?_
  refine g_seq ?_
  refine g_seq ?_
  refine g_region ?_
  refine l_move rfl rfl ?_
  refine l_nilCheck rfl rfl ?_
  refine l_fieldAddr rfl fa_102_3 rfl ?_
  refine l_ld rfl Tryd.isAgg53 rfl rfl ?_
  refine l_eqpn rfl Tryd.underlying53 rfl rfl ?_
  refine l_nil ?_
  refine g_cond_t rfl ?_
  refine g_region ?_
  refine l_move rfl rfl ?_
  refine l_move rfl rfl ?_
  refine l_nilCheck rfl rfl ?_
  refine l_fieldAddr rfl fa_102_2 rfl ?_
  refine l_ld rfl Tryd.isAgg53 rfl rfl ?_
  refine l_nilCheck rfl rfl ?_
  refine l_fieldAddr rfl fa_55_3 rfl ?_
  refine l_st Tryd.sizeOf53 rfl rfl rfl rfl ?_
  refine l_nil ?_
  refine g_region ?_
  refine l_move rfl rfl ?_
  refine l_move rfl rfl ?_
  refine l_nilCheck rfl rfl ?_
  refine l_fieldAddr rfl fa_102_2 rfl ?_
  refine l_st Tryd.sizeOf53 rfl rfl rfl rfl ?_
  refine l_nilCheck rfl rfl ?_
  refine l_fieldAddr rfl fa_102_3 rfl ?_
  refine l_st Tryd.sizeOf53 rfl rfl rfl rfl ?_
  refine l_nil ?_
  refine g_end Tryd.func54 rfl .nil ?_
  exact Gives.mki ⟨rfl, rfl⟩
theorem unl_b_pt (w0 : World) (F : List Atom) (sb m : Nat) (room : Int) (xb : Nat) (xk : (Int × Int)) (xv : ByteArray) (yb : Nat) (yk : (Int × Int)) (yv : ByteArray) (zb : Nat) (zk : (Int × Int)) (zv : ByteArray) (fi la p n : Option Addr) :
    CallK Tryd.prog 54 [.pointer (some ⟨sb, 0, none⟩), .pointer (some ⟨xb, 0, none⟩)] w0 (Blk sb (.cells [Value.int .i64 room, .map (some m), .pointer (some ⟨xb, 0, none⟩), .pointer la].toArray 55 (0, 0)) :: Blk xb (.cells [Value.int .i64 xk.1, .int .i64 xk.2, .string xv, .pointer none, .pointer (some ⟨zb, 0, none⟩)].toArray 102 (0, 0)) :: Blk zb (.cells [Value.int .i64 zk.1, .int .i64 zk.2, .string zv, .pointer (some ⟨xb, 0, none⟩), .pointer n].toArray 102 (0, 0)) :: F) (Gives w0 fun v F2 => v = .tuple #[] ∧ F2 = Blk sb (.cells [Value.int .i64 room, .map (some m), .pointer (some ⟨zb, 0, none⟩), .pointer la].toArray 55 (0, 0)) :: Blk xb (.cells [Value.int .i64 xk.1, .int .i64 xk.2, .string xv, .pointer none, .pointer none].toArray 102 (0, 0)) :: Blk zb (.cells [Value.int .i64 zk.1, .int .i64 zk.2, .string zv, .pointer none, .pointer n].toArray 102 (0, 0)) :: F) := by
  refine c_enter Tryd.func54 rfl rfl rfl ?_
  refine g_seq ?_
  refine g_seq ?_
  refine g_region ?_
  refine l_move rfl rfl ?_
  refine l_nilCheck rfl rfl ?_
  refine l_fieldAddr rfl fa_102_2 rfl ?_
  refine l_ld rfl Tryd.isAgg53 rfl rfl ?_
  refine l_eqpn rfl Tryd.underlying53 rfl rfl ?_
  refine l_nil ?_
  refine g_cond_t rfl ?_
  refine g_region ?_
  refine l_move rfl rfl ?_
  refine l_move rfl rfl ?_
  refine l_nilCheck rfl rfl ?_
  refine l_fieldAddr rfl fa_102_3 rfl ?_
  refine l_ld rfl Tryd.isAgg53 rfl rfl ?_
  refine l_nilCheck rfl rfl ?_
  refine l_fieldAddr rfl fa_55_2 rfl ?_
  refine l_st Tryd.sizeOf53 rfl rfl rfl rfl ?_
  refine l_nil ?_
  refine g_seq ?_
  refine g_seq ?_
  refine g_region ?_
  refine l_move rfl rfl ?_
  refine l_nilCheck rfl rfl ?_
  refine l_fieldAddr rfl fa_102_3 rfl ?_
  refine l_ld rfl Tryd.isAgg53 rfl rfl ?_
  refine l_eqpn rfl Tryd.underlying53 rfl rfl ?_
  refine l_nil ?_
  refine g_cond_f rfl ?_
  refine gp_start mo (by kernel_rfl) (by kernel_rfl) ?_
  refine gp_quiet 0 rfl rfl rfl rfl rfl rfl (q_move rfl) ?_
  refine gp_quiet 1 rfl rfl rfl rfl rfl rfl (q_nilCheck rfl) ?_
  refine gp_quiet 2 rfl rfl rfl rfl rfl rfl (q_fieldAddr fa_102_3 rfl) ?_
  refine gp_quiet 3 rfl rfl rfl rfl rfl rfl (q_ld Tryd.isAgg53 rfl rfl) ?_
  refine gp_quiet 4 rfl rfl rfl rfl rfl rfl (q_move rfl) ?_
  refine gp_quiet 5 rfl rfl rfl rfl rfl rfl (q_nilCheck rfl) ?_
  refine gp_quiet 6 rfl rfl rfl rfl rfl rfl (q_fieldAddr fa_102_2 rfl) ?_
  refine gp_quiet 7 rfl rfl rfl rfl rfl rfl (q_ld Tryd.isAgg53 rfl rfl) ?_
  refine gp_quiet 8 rfl rfl rfl rfl rfl rfl (q_nilCheck rfl) ?_
  refine gp_quiet 9 rfl rfl rfl rfl rfl rfl (q_fieldAddr fa_102_2 rfl) ?_
  refine gp_effa 10 [0, 1, 2, 3, 4, 5, 6, 7, 9] [8] rfl rfl rfl rfl rfl rfl rfl (does_st Tryd.sizeOf53 rfl rfl rfl rfl) ?_
  rintro _ _ ⟨rfl, rfl⟩
  refine ⟨?_, ?_⟩
  · refine .cons rfl rfl rfl rfl rfl (q_nilCheck rfl) ?_
    exact .nil
  refine gp_end rfl rfl ?_
  refine g_region ?_
  refine l_move rfl rfl ?_
  refine l_move rfl rfl ?_
  refine l_nilCheck rfl rfl ?_
  refine l_fieldAddr rfl fa_102_2 rfl ?_
  refine l_st Tryd.sizeOf53 rfl rfl rfl rfl ?_
  refine l_nilCheck rfl rfl ?_
  refine l_fieldAddr rfl fa_102_3 rfl ?_
  refine l_st Tryd.sizeOf53 rfl rfl rfl rfl ?_
  refine l_nil ?_
  refine g_end Tryd.func54 rfl .nil ?_
  exact Gives.mki ⟨rfl, rfl⟩
theorem unl_c_pt (w0 : World) (F : List Atom) (sb m : Nat) (room : Int) (xb : Nat) (xk : (Int × Int)) (xv : ByteArray) (yb : Nat) (yk : (Int × Int)) (yv : ByteArray) (zb : Nat) (zk : (Int × Int)) (zv : ByteArray) (fi la p n : Option Addr) :
    CallK Tryd.prog 54 [.pointer (some ⟨sb, 0, none⟩), .pointer (some ⟨xb, 0, none⟩)] w0 (Blk sb (.cells [Value.int .i64 room, .map (some m), .pointer fi, .pointer (some ⟨xb, 0, none⟩)].toArray 55 (0, 0)) :: Blk yb (.cells [Value.int .i64 yk.1, .int .i64 yk.2, .string yv, .pointer p, .pointer (some ⟨xb, 0, none⟩)].toArray 102 (0, 0)) :: Blk xb (.cells [Value.int .i64 xk.1, .int .i64 xk.2, .string xv, .pointer (some ⟨yb, 0, none⟩), .pointer none].toArray 102 (0, 0)) :: F) (Gives w0 fun v F2 => v = .tuple #[] ∧ F2 = Blk sb (.cells [Value.int .i64 room, .map (some m), .pointer fi, .pointer (some ⟨yb, 0, none⟩)].toArray 55 (0, 0)) :: Blk yb (.cells [Value.int .i64 yk.1, .int .i64 yk.2, .string yv, .pointer p, .pointer none].toArray 102 (0, 0)) :: Blk xb (.cells [Value.int .i64 xk.1, .int .i64 xk.2, .string xv, .pointer none, .pointer none].toArray 102 (0, 0)) :: F) := by
  refine c_enter Tryd.func54 rfl rfl rfl ?_
  refine g_seq ?_
  refine g_seq ?_
  refine g_region ?_
  refine l_move rfl rfl ?_
  refine l_nilCheck rfl rfl ?_
  refine l_fieldAddr rfl fa_102_2 rfl ?_
  refine l_ld rfl Tryd.isAgg53 rfl rfl ?_
  refine l_eqpn rfl Tryd.underlying53 rfl rfl ?_
  refine l_nil ?_
  refine g_cond_f rfl ?_
  refine gp_start mo (by kernel_rfl) (by kernel_rfl) ?_
  refine gp_quiet 0 rfl rfl rfl rfl rfl rfl (q_move rfl) ?_
  refine gp_quiet 1 rfl rfl rfl rfl rfl rfl (q_nilCheck rfl) ?_
  refine gp_quiet 2 rfl rfl rfl rfl rfl rfl (q_fieldAddr fa_102_2 rfl) ?_
  refine gp_quiet 3 rfl rfl rfl rfl rfl rfl (q_ld Tryd.isAgg53 rfl rfl) ?_
  refine gp_quiet 4 rfl rfl rfl rfl rfl rfl (q_move rfl) ?_
  refine gp_quiet 5 rfl rfl rfl rfl rfl rfl (q_nilCheck rfl) ?_
  refine gp_quiet 6 rfl rfl rfl rfl rfl rfl (q_fieldAddr fa_102_3 rfl) ?_
  refine gp_quiet 7 rfl rfl rfl rfl rfl rfl (q_ld Tryd.isAgg53 rfl rfl) ?_
  refine gp_quiet 8 rfl rfl rfl rfl rfl rfl (q_nilCheck rfl) ?_
  refine gp_quiet 9 rfl rfl rfl rfl rfl rfl (q_fieldAddr fa_102_3 rfl) ?_
  refine gp_effa 10 [0, 1, 2, 3, 4, 5, 6, 7, 9] [8] rfl rfl rfl rfl rfl rfl rfl (does_st Tryd.sizeOf53 rfl rfl rfl rfl) ?_
  rintro _ _ ⟨rfl, rfl⟩
  refine ⟨?_, ?_⟩
  · refine .cons rfl rfl rfl rfl rfl (q_nilCheck rfl) ?_
    exact .nil
  refine gp_end rfl rfl ?_
  refine g_seq ?_
  refine g_seq ?_
  refine g_region ?_
  refine l_move rfl rfl ?_
  refine l_nilCheck rfl rfl ?_
  refine l_fieldAddr rfl fa_102_3 rfl ?_
  refine l_ld rfl Tryd.isAgg53 rfl rfl ?_
  refine l_eqpn rfl Tryd.underlying53 rfl rfl ?_
  refine l_nil ?_
  refine g_cond_t rfl ?_
  refine g_region ?_
  refine l_move rfl rfl ?_
  refine l_move rfl rfl ?_
  refine l_nilCheck rfl rfl ?_
  refine l_fieldAddr rfl fa_102_2 rfl ?_
  refine l_ld rfl Tryd.isAgg53 rfl rfl ?_
  refine l_nilCheck rfl rfl ?_
  refine l_fieldAddr rfl fa_55_3 rfl ?_
  refine l_st Tryd.sizeOf53 rfl rfl rfl rfl ?_
  refine l_nil ?_
  refine g_region ?_
  refine l_move rfl rfl ?_
  refine l_move rfl rfl ?_
  refine l_nilCheck rfl rfl ?_
  refine l_fieldAddr rfl fa_102_2 rfl ?_
  refine l_st Tryd.sizeOf53 rfl rfl rfl rfl ?_
  refine l_nilCheck rfl rfl ?_
  refine l_fieldAddr rfl fa_102_3 rfl ?_
  refine l_st Tryd.sizeOf53 rfl rfl rfl rfl ?_
  refine l_nil ?_
  refine g_end Tryd.func54 rfl .nil ?_
  exact Gives.mki ⟨rfl, rfl⟩
theorem unl_d_pt (w0 : World) (F : List Atom) (sb m : Nat) (room : Int) (xb : Nat) (xk : (Int × Int)) (xv : ByteArray) (yb : Nat) (yk : (Int × Int)) (yv : ByteArray) (zb : Nat) (zk : (Int × Int)) (zv : ByteArray) (fi la p n : Option Addr) :
    CallK Tryd.prog 54 [.pointer (some ⟨sb, 0, none⟩), .pointer (some ⟨xb, 0, none⟩)] w0 (Blk sb (.cells [Value.int .i64 room, .map (some m), .pointer fi, .pointer la].toArray 55 (0, 0)) :: Blk yb (.cells [Value.int .i64 yk.1, .int .i64 yk.2, .string yv, .pointer p, .pointer (some ⟨xb, 0, none⟩)].toArray 102 (0, 0)) :: Blk xb (.cells [Value.int .i64 xk.1, .int .i64 xk.2, .string xv, .pointer (some ⟨yb, 0, none⟩), .pointer (some ⟨zb, 0, none⟩)].toArray 102 (0, 0)) :: Blk zb (.cells [Value.int .i64 zk.1, .int .i64 zk.2, .string zv, .pointer (some ⟨xb, 0, none⟩), .pointer n].toArray 102 (0, 0)) :: F) (Gives w0 fun v F2 => v = .tuple #[] ∧ F2 = Blk sb (.cells [Value.int .i64 room, .map (some m), .pointer fi, .pointer la].toArray 55 (0, 0)) :: Blk yb (.cells [Value.int .i64 yk.1, .int .i64 yk.2, .string yv, .pointer p, .pointer (some ⟨zb, 0, none⟩)].toArray 102 (0, 0)) :: Blk xb (.cells [Value.int .i64 xk.1, .int .i64 xk.2, .string xv, .pointer none, .pointer none].toArray 102 (0, 0)) :: Blk zb (.cells [Value.int .i64 zk.1, .int .i64 zk.2, .string zv, .pointer (some ⟨yb, 0, none⟩), .pointer n].toArray 102 (0, 0)) :: F) := by
  refine c_enter Tryd.func54 rfl rfl rfl ?_
  refine g_seq ?_
  refine g_seq ?_
  refine g_region ?_
  refine l_move rfl rfl ?_
  refine l_nilCheck rfl rfl ?_
  refine l_fieldAddr rfl fa_102_2 rfl ?_
  refine l_ld rfl Tryd.isAgg53 rfl rfl ?_
  refine l_eqpn rfl Tryd.underlying53 rfl rfl ?_
  refine l_nil ?_
  refine g_cond_f rfl ?_
  refine gp_start mo (by kernel_rfl) (by kernel_rfl) ?_
  refine gp_quiet 0 rfl rfl rfl rfl rfl rfl (q_move rfl) ?_
  refine gp_quiet 1 rfl rfl rfl rfl rfl rfl (q_nilCheck rfl) ?_
  refine gp_quiet 2 rfl rfl rfl rfl rfl rfl (q_fieldAddr fa_102_2 rfl) ?_
  refine gp_quiet 3 rfl rfl rfl rfl rfl rfl (q_ld Tryd.isAgg53 rfl rfl) ?_
  refine gp_quiet 4 rfl rfl rfl rfl rfl rfl (q_move rfl) ?_
  refine gp_quiet 5 rfl rfl rfl rfl rfl rfl (q_nilCheck rfl) ?_
  refine gp_quiet 6 rfl rfl rfl rfl rfl rfl (q_fieldAddr fa_102_3 rfl) ?_
  refine gp_quiet 7 rfl rfl rfl rfl rfl rfl (q_ld Tryd.isAgg53 rfl rfl) ?_
  refine gp_quiet 8 rfl rfl rfl rfl rfl rfl (q_nilCheck rfl) ?_
  refine gp_quiet 9 rfl rfl rfl rfl rfl rfl (q_fieldAddr fa_102_3 rfl) ?_
  refine gp_effa 10 [0, 1, 2, 3, 4, 5, 6, 7, 9] [8] rfl rfl rfl rfl rfl rfl rfl (does_st Tryd.sizeOf53 rfl rfl rfl rfl) ?_
  rintro _ _ ⟨rfl, rfl⟩
  refine ⟨?_, ?_⟩
  · refine .cons rfl rfl rfl rfl rfl (q_nilCheck rfl) ?_
    exact .nil
  refine gp_end rfl rfl ?_
  refine g_seq ?_
  refine g_seq ?_
  refine g_region ?_
  refine l_move rfl rfl ?_
  refine l_nilCheck rfl rfl ?_
  refine l_fieldAddr rfl fa_102_3 rfl ?_
  refine l_ld rfl Tryd.isAgg53 rfl rfl ?_
  refine l_eqpn rfl Tryd.underlying53 rfl rfl ?_
  refine l_nil ?_
  refine g_cond_f rfl ?_
  refine gp_start mo (by kernel_rfl) (by kernel_rfl) ?_
  refine gp_quiet 0 rfl rfl rfl rfl rfl rfl (q_move rfl) ?_
  refine gp_quiet 1 rfl rfl rfl rfl rfl rfl (q_nilCheck rfl) ?_
  refine gp_quiet 2 rfl rfl rfl rfl rfl rfl (q_fieldAddr fa_102_3 rfl) ?_
  refine gp_quiet 3 rfl rfl rfl rfl rfl rfl (q_ld Tryd.isAgg53 rfl rfl) ?_
  refine gp_quiet 4 rfl rfl rfl rfl rfl rfl (q_move rfl) ?_
  refine gp_quiet 5 rfl rfl rfl rfl rfl rfl (q_nilCheck rfl) ?_
  refine gp_quiet 6 rfl rfl rfl rfl rfl rfl (q_fieldAddr fa_102_2 rfl) ?_
  refine gp_quiet 7 rfl rfl rfl rfl rfl rfl (q_ld Tryd.isAgg53 rfl rfl) ?_
  refine gp_quiet 8 rfl rfl rfl rfl rfl rfl (q_nilCheck rfl) ?_
  refine gp_quiet 9 rfl rfl rfl rfl rfl rfl (q_fieldAddr fa_102_2 rfl) ?_
  refine gp_effa 10 [0, 1, 2, 3, 4, 5, 6, 7, 9] [8] rfl rfl rfl rfl rfl rfl rfl (does_st Tryd.sizeOf53 rfl rfl rfl rfl) ?_
  rintro _ _ ⟨rfl, rfl⟩
  refine ⟨?_, ?_⟩
  · refine .cons rfl rfl rfl rfl rfl (q_nilCheck rfl) ?_
    exact .nil
  refine gp_end rfl rfl ?_
  refine g_region ?_
  refine l_move rfl rfl ?_
  refine l_move rfl rfl ?_
  refine l_nilCheck rfl rfl ?_
  refine l_fieldAddr rfl fa_102_2 rfl ?_
  refine l_st Tryd.sizeOf53 rfl rfl rfl rfl ?_
  refine l_nilCheck rfl rfl ?_
  refine l_fieldAddr rfl fa_102_3 rfl ?_
  refine l_st Tryd.sizeOf53 rfl rfl rfl rfl ?_
  refine l_nil ?_
  refine g_end Tryd.func54 rfl .nil ?_
  exact Gives.mki ⟨rfl, rfl⟩
theorem app_0_pt (w0 : World) (F : List Atom) (sb m : Nat) (room : Int) (xb : Nat) (xk : (Int × Int)) (xv : ByteArray) (yb : Nat) (yk : (Int × Int)) (yv : ByteArray) (zb : Nat) (zk : (Int × Int)) (zv : ByteArray) (fi la p n : Option Addr) :
    CallK Tryd.prog 55 [.pointer (some ⟨sb, 0, none⟩), .pointer (some ⟨xb, 0, none⟩)] w0 (Blk sb (.cells [Value.int .i64 room, .map (some m), .pointer none, .pointer none].toArray 55 (0, 0)) :: Blk xb (.cells [Value.int .i64 xk.1, .int .i64 xk.2, .string xv, .pointer none, .pointer none].toArray 102 (0, 0)) :: F) (Gives w0 fun v F2 => v = .tuple #[] ∧ F2 = Blk sb (.cells [Value.int .i64 room, .map (some m), .pointer (some ⟨xb, 0, none⟩), .pointer (some ⟨xb, 0, none⟩)].toArray 55 (0, 0)) :: Blk xb (.cells [Value.int .i64 xk.1, .int .i64 xk.2, .string xv, .pointer none, .pointer none].toArray 102 (0, 0)) :: F) := by
  refine c_enter Tryd.func55 rfl rfl rfl ?_
  refine g_seq ?_
  refine g_region ?_
  refine l_move rfl rfl ?_
  refine l_move rfl rfl ?_
  refine l_nilCheck rfl rfl ?_
  refine l_fieldAddr rfl fa_55_3 rfl ?_
  refine l_ld rfl Tryd.isAgg53 rfl rfl ?_
  refine l_nilCheck rfl rfl ?_
  refine l_fieldAddr rfl fa_102_2 rfl ?_
  refine l_st Tryd.sizeOf53 rfl rfl rfl rfl ?_
  refine l_nil ?_
  refine g_seq ?_
  refine g_seq ?_
  refine g_region ?_
  refine l_move rfl rfl ?_
  refine l_nilCheck rfl rfl ?_
  refine l_fieldAddr rfl fa_55_3 rfl ?_
  refine l_ld rfl Tryd.isAgg53 rfl rfl ?_
  refine l_eqpn rfl Tryd.underlying53 rfl rfl ?_
  refine l_nil ?_
  refine g_cond_t rfl ?_
  refine g_region ?_
  refine l_move rfl rfl ?_
  refine l_move rfl rfl ?_
  refine l_nilCheck rfl rfl ?_
  refine l_fieldAddr rfl fa_55_2 rfl ?_
  refine l_st Tryd.sizeOf53 rfl rfl rfl rfl ?_
  refine l_nil ?_
  refine g_region ?_
  refine l_move rfl rfl ?_
  refine l_move rfl rfl ?_
  refine l_nilCheck rfl rfl ?_
  refine l_fieldAddr rfl fa_55_3 rfl ?_
  refine l_st Tryd.sizeOf53 rfl rfl rfl rfl ?_
  refine l_nil ?_
  refine g_end Tryd.func55 rfl .nil ?_
  exact Gives.mki ⟨rfl, rfl⟩
theorem app_1_pt (w0 : World) (F : List Atom) (sb m : Nat) (room : Int) (xb : Nat) (xk : (Int × Int)) (xv : ByteArray) (yb : Nat) (yk : (Int × Int)) (yv : ByteArray) (zb : Nat) (zk : (Int × Int)) (zv : ByteArray) (fi la p n : Option Addr) :
    CallK Tryd.prog 55 [.pointer (some ⟨sb, 0, none⟩), .pointer (some ⟨xb, 0, none⟩)] w0 (Blk sb (.cells [Value.int .i64 room, .map (some m), .pointer fi, .pointer (some ⟨yb, 0, none⟩)].toArray 55 (0, 0)) :: Blk yb (.cells [Value.int .i64 yk.1, .int .i64 yk.2, .string yv, .pointer p, .pointer none].toArray 102 (0, 0)) :: Blk xb (.cells [Value.int .i64 xk.1, .int .i64 xk.2, .string xv, .pointer none, .pointer none].toArray 102 (0, 0)) :: F) (Gives w0 fun v F2 => v = .tuple #[] ∧ F2 = Blk sb (.cells [Value.int .i64 room, .map (some m), .pointer fi, .pointer (some ⟨xb, 0, none⟩)].toArray 55 (0, 0)) :: Blk yb (.cells [Value.int .i64 yk.1, .int .i64 yk.2, .string yv, .pointer p, .pointer (some ⟨xb, 0, none⟩)].toArray 102 (0, 0)) :: Blk xb (.cells [Value.int .i64 xk.1, .int .i64 xk.2, .string xv, .pointer (some ⟨yb, 0, none⟩), .pointer none].toArray 102 (0, 0)) :: F) := by
  refine c_enter Tryd.func55 rfl rfl rfl ?_
  refine g_seq ?_
  refine g_region ?_
  refine l_move rfl rfl ?_
  refine l_move rfl rfl ?_
  refine l_nilCheck rfl rfl ?_
  refine l_fieldAddr rfl fa_55_3 rfl ?_
  refine l_ld rfl Tryd.isAgg53 rfl rfl ?_
  refine l_nilCheck rfl rfl ?_
  refine l_fieldAddr rfl fa_102_2 rfl ?_
  refine l_st Tryd.sizeOf53 rfl rfl rfl rfl ?_
  refine l_nil ?_
  refine g_seq ?_
  refine g_seq ?_
  refine g_region ?_
  refine l_move rfl rfl ?_
  refine l_nilCheck rfl rfl ?_
  refine l_fieldAddr rfl fa_55_3 rfl ?_
  refine l_ld rfl Tryd.isAgg53 rfl rfl ?_
  refine l_eqpn rfl Tryd.underlying53 rfl rfl ?_
  refine l_nil ?_
  refine g_cond_f rfl ?_
  refine g_region ?_
  refine l_move rfl rfl ?_
  refine l_nilCheck rfl rfl ?_
  refine l_fieldAddr rfl fa_55_3 rfl ?_
  refine l_ld rfl Tryd.isAgg53 rfl rfl ?_
  refine l_move rfl rfl ?_
  refine l_nilCheck rfl rfl ?_
  refine l_fieldAddr rfl fa_102_3 rfl ?_
  refine l_st Tryd.sizeOf53 rfl rfl rfl rfl ?_
  refine l_nil ?_
  refine g_region ?_
  refine l_move rfl rfl ?_
  refine l_move rfl rfl ?_
  refine l_nilCheck rfl rfl ?_
  refine l_fieldAddr rfl fa_55_3 rfl ?_
  refine l_st Tryd.sizeOf53 rfl rfl rfl rfl ?_
  refine l_nil ?_
  refine g_end Tryd.func55 rfl .nil ?_
  exact Gives.mki ⟨rfl, rfl⟩
theorem unlink_pt (w0 : World) (F : List Atom) (sb m : Nat) (room : Int) (l1 l2 : List NdQ) (x : NdQ) : CallK Tryd.prog 54 [.pointer (some ⟨sb, 0, none⟩), .pointer x.p] w0 (Blk sb (.cells [Value.int .i64 room, .map (some m), .pointer (fstPQ (l1 ++ x :: l2) none), .pointer (lstPQ (l1 ++ x :: l2) none)].toArray 55 (0, 0)) :: SegQ 102 none (l1 ++ x :: l2) none :: F) (Gives w0 fun v F2 => v = .tuple #[] ∧ F2 = Blk sb (.cells [Value.int .i64 room, .map (some m), .pointer (fstPQ (l1 ++ l2) none), .pointer (lstPQ (l1 ++ l2) none)].toArray 55 (0, 0)) :: SegQ 102 none (l1 ++ l2) none :: Blk x.b (.cells (ndCQ x none none).toArray 102 (0, 0)) :: F) := by
  rcases List.eq_nil_or_concat l1 with rfl | ⟨l1, y, rfl⟩
  · cases l2 with
    | nil =>
      refine CallK.heap (F2 := Blk sb (.cells [Value.int .i64 room, .map (some m), .pointer x.p, .pointer x.p].toArray 55 (0, 0)) :: Blk x.b (.cells (ndCQ x none none).toArray 102 (0, 0)) :: F) (CallK.mono (unl_a_pt w0 F sb m room x.b x.k x.v 0 x.k x.v 0 x.k x.v none none none none) ?_) (fun w hw => ?_)
      · rintro en F2 ⟨v, F3, rfl, ⟨rfl, rfl⟩, h⟩
        exact ⟨_, _, rfl, ⟨rfl, rfl⟩, fun w hw => (segQ_nil ((h w hw).perm (List.Perm.swap ..))).perm ((List.Perm.cons _ (List.Perm.swap ..)).trans (List.Perm.swap ..))⟩
      · exact (segQ_one.1 (hw.perm (List.Perm.swap ..))).perm (List.Perm.swap ..)
    | cons z l2 =>
      refine CallK.heap (F2 := Blk sb (.cells [Value.int .i64 room, .map (some m), .pointer x.p, .pointer (lstPQ l2 z.p)].toArray 55 (0, 0)) :: Blk x.b (.cells (ndCQ x none z.p).toArray 102 (0, 0)) :: Blk z.b (.cells (ndCQ z x.p (fstPQ l2 none)).toArray 102 (0, 0)) :: SegQ 102 z.p (l2) none :: F) (CallK.mono (unl_b_pt w0 (SegQ 102 z.p (l2) none :: F) sb m room x.b x.k x.v 0 x.k x.v z.b z.k z.v none (lstPQ l2 z.p) none (fstPQ l2 none)) ?_) (fun w hw => ?_)
      · rintro en F2 ⟨v, F3, rfl, ⟨rfl, rfl⟩, h⟩
        refine ⟨_, _, rfl, ⟨rfl, rfl⟩, fun w hw => ?_⟩
        have h0 : Holds w0 (Blk sb (.cells [Value.int .i64 room, .map (some m), .pointer z.p, .pointer (lstPQ l2 z.p)].toArray 55 (0, 0)) :: Blk x.b (.cells (ndCQ x none none).toArray 102 (0, 0)) :: Blk z.b (.cells (ndCQ z none (fstPQ l2 none)).toArray 102 (0, 0)) :: SegQ 102 z.p (l2) none :: F) w := h w hw
        have h1 : Holds w0 (Blk z.b (.cells (ndCQ z none (fstPQ l2 none)).toArray 102 (0, 0)) :: SegQ 102 z.p (l2) none :: Blk sb (.cells [Value.int .i64 room, .map (some m), .pointer z.p, .pointer (lstPQ l2 z.p)].toArray 55 (0, 0)) :: Blk x.b (.cells (ndCQ x none none).toArray 102 (0, 0)) :: F) w := SPI.holds h0
        have h2 : Holds w0 (SegQ 102 none ([] ++ z :: l2) none :: Blk sb (.cells [Value.int .i64 room, .map (some m), .pointer z.p, .pointer (lstPQ l2 z.p)].toArray 55 (0, 0)) :: Blk x.b (.cells (ndCQ x none none).toArray 102 (0, 0)) :: F) w := segQ_to rfl rfl (segQ_nil h1)
        exact h2.perm (List.Perm.swap ..)
      · have h1 : Holds w0 (SegQ 102 none [] x.p :: Blk x.b (.cells (ndCQ x none z.p).toArray 102 (0, 0)) :: SegQ 102 x.p (z :: l2) none :: Blk sb (.cells [Value.int .i64 room, .map (some m), .pointer x.p, .pointer (lstPQ l2 z.p)].toArray 55 (0, 0)) :: F) w := segQ_at (l1 := []) (l2 := z :: l2) (hw.perm (List.Perm.swap ..))
        have h2 : Holds w0 (SegQ 102 x.p ([] ++ z :: l2) none :: Blk x.b (.cells (ndCQ x none z.p).toArray 102 (0, 0)) :: Blk sb (.cells [Value.int .i64 room, .map (some m), .pointer x.p, .pointer (lstPQ l2 z.p)].toArray 55 (0, 0)) :: F) w := h1.tail.perm (List.Perm.swap ..)
        have h3 : Holds w0 (SegQ 102 x.p [] z.p :: Blk z.b (.cells (ndCQ z x.p (fstPQ l2 none)).toArray 102 (0, 0)) :: SegQ 102 z.p (l2) none :: Blk x.b (.cells (ndCQ x none z.p).toArray 102 (0, 0)) :: Blk sb (.cells [Value.int .i64 room, .map (some m), .pointer x.p, .pointer (lstPQ l2 z.p)].toArray 55 (0, 0)) :: F) w := segQ_at h2
        exact SPI.holds h3.tail
  · rw [List.concat_eq_append]
    cases l2 with
    | nil =>
      simp only [List.append_nil, fstPQ_app, lstPQ_app, fstPQ_nil, fstPQ_cons, lstPQ]
      refine CallK.heap (F2 := Blk sb (.cells [Value.int .i64 room, .map (some m), .pointer (fstPQ l1 y.p), .pointer x.p].toArray 55 (0, 0)) :: Blk y.b (.cells (ndCQ y (lstPQ l1 none) x.p).toArray 102 (0, 0)) :: Blk x.b (.cells (ndCQ x y.p none).toArray 102 (0, 0)) :: SegQ 102 none (l1) y.p :: F) (CallK.mono (unl_c_pt w0 (SegQ 102 none (l1) y.p :: F) sb m room x.b x.k x.v y.b y.k y.v 0 x.k x.v (fstPQ l1 y.p) none (lstPQ l1 none) none) ?_) (fun w hw => ?_)
      · rintro en F2 ⟨v, F3, rfl, ⟨rfl, rfl⟩, h⟩
        refine ⟨_, _, rfl, ⟨rfl, rfl⟩, fun w hw => ?_⟩
        have h0 : Holds w0 (Blk sb (.cells [Value.int .i64 room, .map (some m), .pointer (fstPQ l1 y.p), .pointer y.p].toArray 55 (0, 0)) :: Blk y.b (.cells (ndCQ y (lstPQ l1 none) none).toArray 102 (0, 0)) :: Blk x.b (.cells (ndCQ x none none).toArray 102 (0, 0)) :: SegQ 102 none (l1) y.p :: F) w := h w hw
        have h1 : Holds w0 (SegQ 102 none (l1) y.p :: Blk y.b (.cells (ndCQ y (lstPQ l1 none) none).toArray 102 (0, 0)) :: Blk sb (.cells [Value.int .i64 room, .map (some m), .pointer (fstPQ l1 y.p), .pointer y.p].toArray 55 (0, 0)) :: Blk x.b (.cells (ndCQ x none none).toArray 102 (0, 0)) :: F) w := SPI.holds h0
        have h2 : Holds w0 (SegQ 102 none (l1) y.p :: Blk y.b (.cells (ndCQ y (lstPQ l1 none) none).toArray 102 (0, 0)) :: SegQ 102 y.p [] none :: Blk sb (.cells [Value.int .i64 room, .map (some m), .pointer (fstPQ l1 y.p), .pointer y.p].toArray 55 (0, 0)) :: Blk x.b (.cells (ndCQ x none none).toArray 102 (0, 0)) :: F) w := (segQ_nil (T := 102) (p := y.p) (n := none) h1).perm ((List.Perm.swap ..).trans (List.Perm.cons _ (List.Perm.swap ..)))
        have h3 : Holds w0 (SegQ 102 none (l1 ++ [y]) none :: Blk sb (.cells [Value.int .i64 room, .map (some m), .pointer (fstPQ l1 y.p), .pointer y.p].toArray 55 (0, 0)) :: Blk x.b (.cells (ndCQ x none none).toArray 102 (0, 0)) :: F) w := segQ_to rfl rfl h2
        exact h3.perm (List.Perm.swap ..)
      · have h1 : Holds w0 (SegQ 102 none (l1 ++ [y]) x.p :: Blk x.b (.cells (ndCQ x (lstPQ (l1 ++ [y]) none) none).toArray 102 (0, 0)) :: SegQ 102 x.p [] none :: Blk sb (.cells [Value.int .i64 room, .map (some m), .pointer (fstPQ l1 y.p), .pointer x.p].toArray 55 (0, 0)) :: F) w := segQ_at (l1 := l1 ++ [y]) (l2 := []) (hw.perm (List.Perm.swap ..))
        simp only [lstPQ_app, lstPQ] at h1
        have h2 : Holds w0 (SegQ 102 none (l1) y.p :: Blk y.b (.cells (ndCQ y (lstPQ l1 none) x.p).toArray 102 (0, 0)) :: SegQ 102 y.p [] x.p :: Blk x.b (.cells (ndCQ x y.p none).toArray 102 (0, 0)) :: SegQ 102 x.p [] none :: Blk sb (.cells [Value.int .i64 room, .map (some m), .pointer (fstPQ l1 y.p), .pointer x.p].toArray 55 (0, 0)) :: F) w := segQ_at (l1 := l1) (x := y) (l2 := []) h1
        exact SPI.holds h2
    | cons z l2 =>
      simp only [fstPQ_app, lstPQ_app, fstPQ_nil, fstPQ_cons, lstPQ]
      refine CallK.heap (F2 := Blk sb (.cells [Value.int .i64 room, .map (some m), .pointer (fstPQ l1 y.p), .pointer (lstPQ l2 z.p)].toArray 55 (0, 0)) :: Blk y.b (.cells (ndCQ y (lstPQ l1 none) x.p).toArray 102 (0, 0)) :: Blk x.b (.cells (ndCQ x y.p z.p).toArray 102 (0, 0)) :: Blk z.b (.cells (ndCQ z x.p (fstPQ l2 none)).toArray 102 (0, 0)) :: SegQ 102 none (l1) y.p :: SegQ 102 z.p (l2) none :: F) (CallK.mono (unl_d_pt w0 (SegQ 102 none (l1) y.p :: SegQ 102 z.p (l2) none :: F) sb m room x.b x.k x.v y.b y.k y.v z.b z.k z.v (fstPQ l1 y.p) (lstPQ l2 z.p) (lstPQ l1 none) (fstPQ l2 none)) ?_) (fun w hw => ?_)
      · rintro en F2 ⟨v, F3, rfl, ⟨rfl, rfl⟩, h⟩
        refine ⟨_, _, rfl, ⟨rfl, rfl⟩, fun w hw => ?_⟩
        have h0 : Holds w0 (Blk sb (.cells [Value.int .i64 room, .map (some m), .pointer (fstPQ l1 y.p), .pointer (lstPQ l2 z.p)].toArray 55 (0, 0)) :: Blk y.b (.cells (ndCQ y (lstPQ l1 none) z.p).toArray 102 (0, 0)) :: Blk x.b (.cells (ndCQ x none none).toArray 102 (0, 0)) :: Blk z.b (.cells (ndCQ z y.p (fstPQ l2 none)).toArray 102 (0, 0)) :: SegQ 102 none (l1) y.p :: SegQ 102 z.p (l2) none :: F) w := h w hw
        have h1 : Holds w0 (Blk z.b (.cells (ndCQ z y.p (fstPQ l2 none)).toArray 102 (0, 0)) :: SegQ 102 z.p (l2) none :: SegQ 102 none (l1) y.p :: Blk y.b (.cells (ndCQ y (lstPQ l1 none) z.p).toArray 102 (0, 0)) :: Blk sb (.cells [Value.int .i64 room, .map (some m), .pointer (fstPQ l1 y.p), .pointer (lstPQ l2 z.p)].toArray 55 (0, 0)) :: Blk x.b (.cells (ndCQ x none none).toArray 102 (0, 0)) :: F) w := SPI.holds h0
        have h2 : Holds w0 (SegQ 102 y.p ([] ++ z :: l2) none :: SegQ 102 none (l1) y.p :: Blk y.b (.cells (ndCQ y (lstPQ l1 none) z.p).toArray 102 (0, 0)) :: Blk sb (.cells [Value.int .i64 room, .map (some m), .pointer (fstPQ l1 y.p), .pointer (lstPQ l2 z.p)].toArray 55 (0, 0)) :: Blk x.b (.cells (ndCQ x none none).toArray 102 (0, 0)) :: F) w := segQ_to (p := y.p) rfl rfl (segQ_nil h1)
        have h3 : Holds w0 (SegQ 102 none (l1) y.p :: Blk y.b (.cells (ndCQ y (lstPQ l1 none) z.p).toArray 102 (0, 0)) :: SegQ 102 y.p (z :: l2) none :: Blk sb (.cells [Value.int .i64 room, .map (some m), .pointer (fstPQ l1 y.p), .pointer (lstPQ l2 z.p)].toArray 55 (0, 0)) :: Blk x.b (.cells (ndCQ x none none).toArray 102 (0, 0)) :: F) w := h2.perm ((List.Perm.swap ..).trans (List.Perm.cons _ (List.Perm.swap ..)))
        have h4 : Holds w0 (SegQ 102 none (l1 ++ y :: z :: l2) none :: Blk sb (.cells [Value.int .i64 room, .map (some m), .pointer (fstPQ l1 y.p), .pointer (lstPQ l2 z.p)].toArray 55 (0, 0)) :: Blk x.b (.cells (ndCQ x none none).toArray 102 (0, 0)) :: F) w := segQ_to rfl rfl h3
        rw [show l1 ++ [y] ++ z :: l2 = l1 ++ y :: z :: l2 by simp]
        exact h4.perm (List.Perm.swap ..)
      · have h1 : Holds w0 (SegQ 102 none (l1 ++ [y]) x.p :: Blk x.b (.cells (ndCQ x (lstPQ (l1 ++ [y]) none) z.p).toArray 102 (0, 0)) :: SegQ 102 x.p (z :: l2) none :: Blk sb (.cells [Value.int .i64 room, .map (some m), .pointer (fstPQ l1 y.p), .pointer (lstPQ l2 z.p)].toArray 55 (0, 0)) :: F) w := segQ_at (l1 := l1 ++ [y]) (l2 := z :: l2) (hw.perm (List.Perm.swap ..))
        simp only [lstPQ_app, lstPQ] at h1
        have h2 : Holds w0 (SegQ 102 none (l1) y.p :: Blk y.b (.cells (ndCQ y (lstPQ l1 none) x.p).toArray 102 (0, 0)) :: SegQ 102 y.p [] x.p :: Blk x.b (.cells (ndCQ x y.p z.p).toArray 102 (0, 0)) :: SegQ 102 x.p ([] ++ z :: l2) none :: Blk sb (.cells [Value.int .i64 room, .map (some m), .pointer (fstPQ l1 y.p), .pointer (lstPQ l2 z.p)].toArray 55 (0, 0)) :: F) w := segQ_at (l1 := l1) (x := y) (l2 := []) h1
        have h3 : Holds w0 (SegQ 102 x.p ([] ++ z :: l2) none :: SegQ 102 none (l1) y.p :: Blk y.b (.cells (ndCQ y (lstPQ l1 none) x.p).toArray 102 (0, 0)) :: Blk x.b (.cells (ndCQ x y.p z.p).toArray 102 (0, 0)) :: Blk sb (.cells [Value.int .i64 room, .map (some m), .pointer (fstPQ l1 y.p), .pointer (lstPQ l2 z.p)].toArray 55 (0, 0)) :: F) w := SPI.holds h2
        have h4 : Holds w0 (SegQ 102 x.p [] z.p :: Blk z.b (.cells (ndCQ z x.p (fstPQ l2 none)).toArray 102 (0, 0)) :: SegQ 102 z.p (l2) none :: SegQ 102 none (l1) y.p :: Blk y.b (.cells (ndCQ y (lstPQ l1 none) x.p).toArray 102 (0, 0)) :: Blk x.b (.cells (ndCQ x y.p z.p).toArray 102 (0, 0)) :: Blk sb (.cells [Value.int .i64 room, .map (some m), .pointer (fstPQ l1 y.p), .pointer (lstPQ l2 z.p)].toArray 55 (0, 0)) :: F) w := segQ_at h3
        exact SPI.holds h4
theorem append_pt (w0 : World) (F : List Atom) (sb m : Nat) (room : Int) (xs : List NdQ) (x : NdQ) : CallK Tryd.prog 55 [.pointer (some ⟨sb, 0, none⟩), .pointer x.p] w0 (Blk sb (.cells [Value.int .i64 room, .map (some m), .pointer (fstPQ (xs) none), .pointer (lstPQ (xs) none)].toArray 55 (0, 0)) :: SegQ 102 none (xs) none :: Blk x.b (.cells (ndCQ x none none).toArray 102 (0, 0)) :: F) (Gives w0 fun v F2 => v = .tuple #[] ∧ F2 = Blk sb (.cells [Value.int .i64 room, .map (some m), .pointer (fstPQ (xs ++ [x]) none), .pointer (lstPQ (xs ++ [x]) none)].toArray 55 (0, 0)) :: SegQ 102 none (xs ++ [x]) none :: F) := by
  rcases List.eq_nil_or_concat xs with rfl | ⟨l1, y, rfl⟩
  · refine CallK.heap (F2 := Blk sb (.cells [Value.int .i64 room, .map (some m), .pointer none, .pointer none].toArray 55 (0, 0)) :: Blk x.b (.cells (ndCQ x none none).toArray 102 (0, 0)) :: F) (CallK.mono (app_0_pt w0 F sb m room x.b x.k x.v 0 x.k x.v 0 x.k x.v none none none none) ?_) (fun w hw => (hw.perm (List.Perm.swap ..)).tail)
    rintro en F2 ⟨v, F3, rfl, ⟨rfl, rfl⟩, h⟩
    exact ⟨_, _, rfl, ⟨rfl, rfl⟩, fun w hw => (segQ_one.2 ((h w hw).perm (List.Perm.swap ..))).perm (List.Perm.swap ..)⟩
  · rw [List.concat_eq_append]
    simp only [fstPQ_app, lstPQ_app, fstPQ_nil, fstPQ_cons, lstPQ]
    refine CallK.heap (F2 := Blk sb (.cells [Value.int .i64 room, .map (some m), .pointer (fstPQ l1 y.p), .pointer y.p].toArray 55 (0, 0)) :: Blk y.b (.cells (ndCQ y (lstPQ l1 none) none).toArray 102 (0, 0)) :: Blk x.b (.cells (ndCQ x none none).toArray 102 (0, 0)) :: SegQ 102 none (l1) y.p :: F) (CallK.mono (app_1_pt w0 (SegQ 102 none (l1) y.p :: F) sb m room x.b x.k x.v y.b y.k y.v 0 x.k x.v (fstPQ l1 y.p) none (lstPQ l1 none) none) ?_) (fun w hw => ?_)
    · rintro en F2 ⟨v, F3, rfl, ⟨rfl, rfl⟩, h⟩
      refine ⟨_, _, rfl, ⟨rfl, rfl⟩, fun w hw => ?_⟩
      have h0 : Holds w0 (Blk sb (.cells [Value.int .i64 room, .map (some m), .pointer (fstPQ l1 y.p), .pointer x.p].toArray 55 (0, 0)) :: Blk y.b (.cells (ndCQ y (lstPQ l1 none) x.p).toArray 102 (0, 0)) :: Blk x.b (.cells (ndCQ x y.p none).toArray 102 (0, 0)) :: SegQ 102 none (l1) y.p :: F) w := h w hw
      have h1 : Holds w0 (Blk x.b (.cells (ndCQ x y.p none).toArray 102 (0, 0)) :: SegQ 102 none (l1) y.p :: Blk y.b (.cells (ndCQ y (lstPQ l1 none) x.p).toArray 102 (0, 0)) :: Blk sb (.cells [Value.int .i64 room, .map (some m), .pointer (fstPQ l1 y.p), .pointer x.p].toArray 55 (0, 0)) :: F) w := SPI.holds h0
      have h2 : Holds w0 (SegQ 102 y.p [x] none :: SegQ 102 none (l1) y.p :: Blk y.b (.cells (ndCQ y (lstPQ l1 none) x.p).toArray 102 (0, 0)) :: Blk sb (.cells [Value.int .i64 room, .map (some m), .pointer (fstPQ l1 y.p), .pointer x.p].toArray 55 (0, 0)) :: F) w := segQ_one.2 h1
      have h3 : Holds w0 (SegQ 102 none (l1) y.p :: Blk y.b (.cells (ndCQ y (lstPQ l1 none) x.p).toArray 102 (0, 0)) :: SegQ 102 y.p [x] none :: Blk sb (.cells [Value.int .i64 room, .map (some m), .pointer (fstPQ l1 y.p), .pointer x.p].toArray 55 (0, 0)) :: F) w := h2.perm ((List.Perm.swap ..).trans (List.Perm.cons _ (List.Perm.swap ..)))
      have h4 : Holds w0 (SegQ 102 none (l1 ++ y :: [x]) none :: Blk sb (.cells [Value.int .i64 room, .map (some m), .pointer (fstPQ l1 y.p), .pointer x.p].toArray 55 (0, 0)) :: F) w := segQ_to rfl rfl h3
      rw [show l1 ++ [y] ++ [x] = l1 ++ y :: [x] by simp]
      exact h4.perm (List.Perm.swap ..)
    · have h1 : Holds w0 (SegQ 102 none (l1 ++ [y]) none :: Blk sb (.cells [Value.int .i64 room, .map (some m), .pointer (fstPQ l1 y.p), .pointer y.p].toArray 55 (0, 0)) :: Blk x.b (.cells (ndCQ x none none).toArray 102 (0, 0)) :: F) w := hw.perm (List.Perm.swap ..)
      have h2 : Holds w0 (SegQ 102 none (l1) y.p :: Blk y.b (.cells (ndCQ y (lstPQ l1 none) none).toArray 102 (0, 0)) :: SegQ 102 y.p [] none :: Blk sb (.cells [Value.int .i64 room, .map (some m), .pointer (fstPQ l1 y.p), .pointer y.p].toArray 55 (0, 0)) :: Blk x.b (.cells (ndCQ x none none).toArray 102 (0, 0)) :: F) w := segQ_at (l1 := l1) (x := y) (l2 := []) h1
      exact SPI.holds h2
end Go.Proofs.YtjfibfbknfeflaaDoor.Fw
