import Derived.Test.YthemlddepepekaaWorld
namespace Go.Proofs.Ythemlddepepekaa.Fw
open Go Go.Proofs
set_option linter.unusedVariables false
set_option linter.unusedSimpArgs false
set_option maxRecDepth 10000
theorem fa_63_0 (a : Addr) (w : World) : (Instr.fieldAt 63 (.pointer (some a)) 0).run Try.prog w = .ok (.pointer (some (a.add 0))) w := by
  simp [Instr.fieldAt, Try.runUnderlying63, Instr.sureAddr, fieldPlace, Try.sizeOf24, Sem.run_bind, Sem.run_pure]
theorem fa_63_1 (a : Addr) (w : World) : (Instr.fieldAt 63 (.pointer (some a)) 1).run Try.prog w = .ok (.pointer (some (a.add 1))) w := by
  simp [Instr.fieldAt, Try.runUnderlying63, Instr.sureAddr, fieldPlace, Try.sizeOf56, Sem.run_bind, Sem.run_pure]
theorem fa_63_2 (a : Addr) (w : World) : (Instr.fieldAt 63 (.pointer (some a)) 2).run Try.prog w = .ok (.pointer (some (a.add 2))) w := by
  simp [Instr.fieldAt, Try.runUnderlying63, Instr.sureAddr, fieldPlace, Try.sizeOf24, Sem.run_bind, Sem.run_pure]
theorem fa_63_3 (a : Addr) (w : World) : (Instr.fieldAt 63 (.pointer (some a)) 3).run Try.prog w = .ok (.pointer (some (a.add 3))) w := by
  simp [Instr.fieldAt, Try.runUnderlying63, Instr.sureAddr, fieldPlace, Try.sizeOf56, Sem.run_bind, Sem.run_pure]
theorem there_nil (w0 : World) (F : List Atom) (at_ k : Int) :
    CallK Try.prog 63 [.pointer none, .int .i64 at_, .int .i64 k] w0 (F) (Gives w0 fun v F2 => v = .int .i64 3 ∧ F2 = F) := by
  refine c_enter Try.func63 rfl rfl rfl ?_
  refine g_seq ?_
  refine g_region ?_
  refine l_assign rfl rfl ?_
  refine l_nil ?_
  refine g_seq ?_
  refine g_seq ?_
  refine g_region ?_
  refine l_move rfl rfl ?_
  refine l_eqpn rfl Try.underlying24 rfl rfl ?_
  refine l_nil ?_
  refine g_cond rfl ?_ ?_
  · intro hbr
    have hb8 := hbr
    refine g_seq ?_
    refine g_region ?_
    refine l_assign rfl rfl ?_
    refine l_nil ?_
    refine g_ret Try.func63 rfl (.tmp rfl .nil) ?_
    exact Gives.mki ⟨(by first | rfl | (simp [resVal]; done)), rfl⟩
  · intro hbr
    first | (exfalso; simp at hbr; done) | (exfalso; simp at hbr; omega) | (exfalso; first | omega | (simp at hbr; done))
theorem mtake_nil (w0 : World) (F : List Atom) (at_ k : Int) :
    CallK Try.prog 61 [.pointer none, .int .i64 at_, .int .i64 k] w0 (F) (Gives w0 fun v F2 => v = .tuple #[.slice none 0 0, .int .i64 3] ∧ F2 = F) := by
  refine c_enter Try.func61 rfl rfl rfl ?_
  refine g_seq ?_
  refine g_region ?_
  refine l_assign rfl rfl ?_
  refine l_assign rfl rfl ?_
  refine l_nil ?_
  refine g_seq ?_
  refine g_seq ?_
  refine g_region ?_
  refine l_move rfl rfl ?_
  refine l_move rfl rfl ?_
  refine l_move rfl rfl ?_
  refine l_call rfl Try.call63 rfl (there_nil _ _ at_ k) ?_; rintro _ _ ⟨rfl, rfl⟩
  refine l_assign rfl rfl ?_
  refine l_nil ?_
  refine g_seq ?_
  refine g_region ?_
  refine l_move rfl rfl ?_
  refine l_neq rfl rfl rfl ?_
  refine l_nil ?_
  refine g_cond rfl ?_ ?_
  · intro hbr
    have hbr := of_decide_eq_true hbr
    refine g_seq ?_
    refine g_region ?_
    refine l_move rfl rfl ?_
    refine l_assign rfl rfl ?_
    refine l_assign rfl rfl ?_
    refine l_nil ?_
    refine g_ret Try.func61 rfl (.tmp rfl (.tmp rfl .nil)) ?_
    exact Gives.mki ⟨(by first | rfl | (simp [resVal]; done)), rfl⟩
  · intro hbr
    have hbr := of_decide_eq_false hbr
    (exfalso; first | omega | (simp at hbr; done))
theorem lwords_nil (w0 : World) (F : List Atom) (at_ : Int) :
    CallK Try.prog 36 [.pointer none, .int .i64 at_] w0 (F) (Gives w0 fun v F2 => v = .tuple #[.int .u32 0, .int .u32 0, .int .i64 3] ∧ F2 = F) := by
  refine c_enter Try.func36 rfl rfl rfl ?_
  refine g_seq ?_
  refine g_region ?_
  refine l_assign rfl rfl ?_
  refine l_assign rfl rfl ?_
  refine l_assign rfl rfl ?_
  refine l_nil ?_
  refine g_seq ?_
  refine g_region ?_
  refine l_move rfl rfl ?_
  refine l_move rfl rfl ?_
  refine l_call rfl Try.call61 rfl (mtake_nil _ _ at_ 2) ?_; rintro _ _ ⟨rfl, rfl⟩
  refine l_move rfl rfl ?_
  refine l_extract rfl rfl rfl ?_
  refine l_extract rfl rfl rfl ?_
  refine l_assign rfl rfl ?_
  refine l_assign rfl rfl ?_
  refine l_nil ?_
  refine g_seq ?_
  refine g_seq ?_
  refine g_region ?_
  refine l_move rfl rfl ?_
  refine l_neq rfl rfl rfl ?_
  refine l_nil ?_
  refine g_cond rfl ?_ ?_
  · intro hbr
    have hbr := of_decide_eq_true hbr
    refine g_seq ?_
    refine g_region ?_
    refine l_move rfl rfl ?_
    refine l_assign rfl rfl ?_
    refine l_assign rfl rfl ?_
    refine l_assign rfl rfl ?_
    refine l_nil ?_
    refine g_ret Try.func36 rfl (.tmp rfl (.tmp rfl (.tmp rfl .nil))) ?_
    exact Gives.mki ⟨(by first | rfl | (simp [resVal]; done)), rfl⟩
  · intro hbr
    have hbr := of_decide_eq_false hbr
    (exfalso; first | omega | (simp at hbr; done))
theorem take_nil (w0 : World) (F : List Atom) (at_ : Int) :
    CallK Try.prog 26 [.pointer none, .int .i64 at_] w0 (F) (Gives w0 fun v F2 => v = .tuple #[.int .u32 0, .int .i64 3] ∧ F2 = F) := by
  refine c_enter Try.func26 rfl rfl rfl ?_
  refine g_seq ?_
  refine g_region ?_
  refine l_assign rfl rfl ?_
  refine l_assign rfl rfl ?_
  refine l_nil ?_
  refine g_seq ?_
  refine g_region ?_
  refine l_move rfl rfl ?_
  refine l_move rfl rfl ?_
  refine l_call rfl Try.call36 rfl (lwords_nil _ _ at_) ?_; rintro _ _ ⟨rfl, rfl⟩
  refine l_move rfl rfl ?_
  refine l_extract rfl rfl rfl ?_
  refine l_extract rfl rfl rfl ?_
  refine l_extract rfl rfl rfl ?_
  refine l_assign rfl rfl ?_
  refine l_assign rfl rfl ?_
  refine l_assign rfl rfl ?_
  refine l_nil ?_
  refine g_seq ?_
  refine g_seq ?_
  refine g_region ?_
  refine l_move rfl rfl ?_
  refine l_neq rfl rfl rfl ?_
  refine l_nil ?_
  refine g_cond rfl ?_ ?_
  · intro hbr
    have hbr := of_decide_eq_true hbr
    refine g_seq ?_
    refine g_region ?_
    refine l_move rfl rfl ?_
    refine l_assign rfl rfl ?_
    refine l_assign rfl rfl ?_
    refine l_nil ?_
    refine g_ret Try.func26 rfl (.tmp rfl (.tmp rfl .nil)) ?_
    exact Gives.mki ⟨(by first | rfl | (simp [resVal]; done)), rfl⟩
  · intro hbr
    have hbr := of_decide_eq_false hbr
    (exfalso; first | omega | (simp at hbr; done))
theorem mine_nil (w0 : World) (F : List Atom) (at_ : Int) (t : Int) :
    CallK Try.prog 39 [.pointer none, .int .i64 at_, .int .u32 t] w0 (F) (Gives w0 fun v F2 => v = .tuple #[.bool false, .int .i64 3] ∧ F2 = F) := by
  refine c_enter Try.func39 rfl rfl rfl ?_
  refine g_seq ?_
  refine g_region ?_
  refine l_assign rfl rfl ?_
  refine l_assign rfl rfl ?_
  refine l_nil ?_
  refine g_seq ?_
  refine g_region ?_
  refine l_move rfl rfl ?_
  refine l_move rfl rfl ?_
  refine l_call rfl Try.call36 rfl (lwords_nil _ _ at_) ?_; rintro _ _ ⟨rfl, rfl⟩
  refine l_move rfl rfl ?_
  refine l_extract rfl rfl rfl ?_
  refine l_extract rfl rfl rfl ?_
  refine l_extract rfl rfl rfl ?_
  refine l_assign rfl rfl ?_
  refine l_assign rfl rfl ?_
  refine l_assign rfl rfl ?_
  refine l_nil ?_
  refine g_seq ?_
  refine g_region ?_
  refine l_move rfl rfl ?_
  refine l_eql rfl rfl rfl ?_
  refine l_move rfl rfl ?_
  refine l_split 20 rfl ?_ ?_
  · intro hbr
    have hbr := of_decide_eq_true hbr
    (exfalso; first | omega | (simp at hbr; done))
  intro hbr
  have hbr := of_decide_eq_false hbr
  refine l_guard_no rfl rfl rfl ?_
  refine l_guard_no rfl rfl rfl ?_
  refine l_guard_no rfl rfl rfl ?_
  refine l_pick_f rfl rfl rfl ?_
  refine l_move rfl rfl ?_
  refine l_assign rfl rfl ?_
  refine l_assign rfl rfl ?_
  refine l_nil ?_
  refine g_ret Try.func39 rfl (.tmp rfl (.tmp rfl .nil)) ?_
  exact Gives.mki ⟨(by first | rfl | (simp [resVal]; done)), rfl⟩
theorem free_nil (w0 : World) (F : List Atom) (at_ : Int) (t : Int) :
    CallK Try.prog 41 [.pointer none, .int .i64 at_, .int .u32 t] w0 (F) (Gives w0 fun v F2 => v = .int .i64 3 ∧ F2 = F) := by
  refine c_enter Try.func41 rfl rfl rfl ?_
  refine g_seq ?_
  refine g_region ?_
  refine l_assign rfl rfl ?_
  refine l_nil ?_
  refine g_seq ?_
  refine g_region ?_
  refine l_move rfl rfl ?_
  refine l_move rfl rfl ?_
  refine l_call rfl Try.call36 rfl (lwords_nil _ _ at_) ?_; rintro _ _ ⟨rfl, rfl⟩
  refine l_move rfl rfl ?_
  refine l_extract rfl rfl rfl ?_
  refine l_extract rfl rfl rfl ?_
  refine l_extract rfl rfl rfl ?_
  refine l_assign rfl rfl ?_
  refine l_assign rfl rfl ?_
  refine l_assign rfl rfl ?_
  refine l_nil ?_
  refine g_seq ?_
  refine g_seq ?_
  refine g_region ?_
  refine l_move rfl rfl ?_
  refine l_neq rfl rfl rfl ?_
  refine l_nil ?_
  refine g_cond rfl ?_ ?_
  · intro hbr
    have hbr := of_decide_eq_true hbr
    refine g_seq ?_
    refine g_region ?_
    refine l_move rfl rfl ?_
    refine l_assign rfl rfl ?_
    refine l_nil ?_
    refine g_ret Try.func41 rfl (.tmp rfl .nil) ?_
    exact Gives.mki ⟨(by first | rfl | (simp [resVal]; done)), rfl⟩
  · intro hbr
    have hbr := of_decide_eq_false hbr
    (exfalso; first | omega | (simp at hbr; done))
theorem wait_nil (w0 : World) (F : List Atom) (at_ : Int) :
    CallK Try.prog 15 [.pointer none, .int .i64 at_] w0 (F) (Gives w0 fun v F2 => v = .tuple #[.int .i64 0, .int .i64 3] ∧ F2 = F) := by
  refine c_enter Try.func15 rfl rfl rfl ?_
  refine g_seq ?_
  refine g_region ?_
  refine l_assign rfl rfl ?_
  refine l_assign rfl rfl ?_
  refine l_nil ?_
  refine g_seq ?_
  refine g_region ?_
  refine l_move rfl rfl ?_
  refine l_move rfl rfl ?_
  refine l_call rfl Try.call36 rfl (lwords_nil _ _ at_) ?_; rintro _ _ ⟨rfl, rfl⟩
  refine l_move rfl rfl ?_
  refine l_extract rfl rfl rfl ?_
  refine l_extract rfl rfl rfl ?_
  refine l_extract rfl rfl rfl ?_
  refine l_assign rfl rfl ?_
  refine l_assign rfl rfl ?_
  refine l_assign rfl rfl ?_
  refine l_nil ?_
  refine g_seq ?_
  refine g_region ?_
  refine l_move rfl rfl ?_
  refine l_move rfl rfl ?_
  refine l_subm (m := 4294967296) rfl wr_u32 rfl rfl ?_
  refine l_conv rfl Try.underlying51 Try.underlying3 rfl (w_i64 (by omega) (by omega)) ?_
  refine l_move rfl rfl ?_
  refine l_assign rfl rfl ?_
  refine l_assign rfl rfl ?_
  refine l_nil ?_
  refine g_ret Try.func15 rfl (.tmp rfl (.tmp rfl .nil)) ?_
  exact Gives.mki ⟨(by first | rfl | (simp [resVal]; done)), rfl⟩
theorem step_nil (w0 : World) (F : List Atom) (b : Nat) :
    CallK Try.prog 32 [.pointer none, .pointer (some ⟨b, 0, none⟩)] w0 (F) (Gives w0 fun v F2 => v = .tuple #[.bool false, .int .i64 3] ∧ F2 = F) := by
  refine c_enter Try.func32 rfl rfl rfl ?_
  refine g_seq ?_
  refine g_region ?_
  refine l_assign rfl rfl ?_
  refine l_assign rfl rfl ?_
  refine l_nil ?_
  refine g_seq ?_
  refine g_seq ?_
  refine g_region ?_
  refine l_move rfl rfl ?_
  refine l_eqpn rfl Try.underlying28 rfl rfl ?_
  refine l_move rfl rfl ?_
  refine l_split 12 rfl ?_ ?_
  · intro hbr
    have hb12 := hbr
    refine l_guard_no rfl rfl rfl ?_
    refine l_guard_no rfl rfl rfl ?_
    refine l_pick_t rfl rfl rfl ?_
    refine l_nil ?_
    first | refine g_cond_t rfl ?_ | refine g_cond_t (congrArg (fun b => some (Value.bool b)) (decide_eq_true hbr)) ?_
    refine g_seq ?_
    refine g_region ?_
    refine l_assign rfl rfl ?_
    refine l_assign rfl rfl ?_
    refine l_nil ?_
    refine g_ret Try.func32 rfl (.tmp rfl (.tmp rfl .nil)) ?_
    exact Gives.mki ⟨(by first | rfl | (simp [resVal]; done)), rfl⟩
  · intro hbr
    first | (exfalso; simp at hbr; done) | (exfalso; simp at hbr; omega) | (exfalso; first | omega | (simp at hbr; done))
theorem step_nom (w0 : World) (F : List Atom) (b : Nat) :
    CallK Try.prog 32 [.pointer (some ⟨b, 0, none⟩), .pointer none] w0 (F) (Gives w0 fun v F2 => v = .tuple #[.bool false, .int .i64 3] ∧ F2 = F) := by
  refine c_enter Try.func32 rfl rfl rfl ?_
  refine g_seq ?_
  refine g_region ?_
  refine l_assign rfl rfl ?_
  refine l_assign rfl rfl ?_
  refine l_nil ?_
  refine g_seq ?_
  refine g_seq ?_
  refine g_region ?_
  refine l_move rfl rfl ?_
  refine l_eqpn rfl Try.underlying28 rfl rfl ?_
  refine l_move rfl rfl ?_
  refine l_split 12 rfl ?_ ?_
  · intro hbr
    first | (exfalso; simp at hbr; done) | (exfalso; simp at hbr; omega) | (exfalso; first | omega | (simp at hbr; done))
  intro hbr
  have hb12 := hbr
  refine l_guard_yes rfl rfl ?_
  refine l_move rfl rfl ?_
  refine l_guard_yes rfl rfl ?_
  refine l_eqpn rfl Try.underlying24 rfl rfl ?_
  refine l_pick_f rfl rfl rfl ?_
  refine l_nil ?_
  refine g_cond rfl ?_ ?_
  · intro hbr
    have hb15 := hbr
    refine g_seq ?_
    refine g_region ?_
    refine l_assign rfl rfl ?_
    refine l_assign rfl rfl ?_
    refine l_nil ?_
    refine g_ret Try.func32 rfl (.tmp rfl (.tmp rfl .nil)) ?_
    exact Gives.mki ⟨(by first | rfl | (simp [resVal]; done)), rfl⟩
  · intro hbr
    first | (exfalso; simp at hbr; done) | (exfalso; simp at hbr; omega) | (exfalso; first | omega | (simp at hbr; done))
theorem back_nil (w0 : World) (F : List Atom) (b : Nat) :
    CallK Try.prog 34 [.pointer none, .pointer (some ⟨b, 0, none⟩)] w0 (F) (Gives w0 fun v F2 => v = .tuple #[.bool false, .int .i64 3] ∧ F2 = F) := by
  refine c_enter Try.func34 rfl rfl rfl ?_
  refine g_seq ?_
  refine g_region ?_
  refine l_assign rfl rfl ?_
  refine l_assign rfl rfl ?_
  refine l_nil ?_
  refine g_seq ?_
  refine g_block ?_
  refine g_seq ?_
  refine g_region ?_
  refine l_move rfl rfl ?_
  refine l_eqpn rfl Try.underlying28 rfl rfl ?_
  refine l_move rfl rfl ?_
  refine l_split 11 rfl ?_ ?_
  · intro hbr
    have hb11 := hbr
    refine l_guard_no rfl rfl rfl ?_
    refine l_guard_no rfl rfl rfl ?_
    refine l_pick_t rfl rfl rfl ?_
    refine l_assign rfl rfl ?_
    refine l_nil ?_
    first | refine g_cond_t rfl ?_ | refine g_cond_t (congrArg (fun b => some (Value.bool b)) (decide_eq_true hbr)) ?_
    refine g_seq ?_
    refine g_region ?_
    refine l_assign rfl rfl ?_
    refine l_assign rfl rfl ?_
    refine l_nil ?_
    refine g_ret Try.func34 rfl (.tmp rfl (.tmp rfl .nil)) ?_
    exact Gives.mki ⟨(by first | rfl | (simp [resVal]; done)), rfl⟩
  · intro hbr
    first | (exfalso; simp at hbr; done) | (exfalso; simp at hbr; omega) | (exfalso; first | omega | (simp at hbr; done))
theorem back_nom (w0 : World) (F : List Atom) (b : Nat) :
    CallK Try.prog 34 [.pointer (some ⟨b, 0, none⟩), .pointer none] w0 (F) (Gives w0 fun v F2 => v = .tuple #[.bool false, .int .i64 3] ∧ F2 = F) := by
  refine c_enter Try.func34 rfl rfl rfl ?_
  refine g_seq ?_
  refine g_region ?_
  refine l_assign rfl rfl ?_
  refine l_assign rfl rfl ?_
  refine l_nil ?_
  refine g_seq ?_
  refine g_block ?_
  refine g_seq ?_
  refine g_region ?_
  refine l_move rfl rfl ?_
  refine l_eqpn rfl Try.underlying28 rfl rfl ?_
  refine l_move rfl rfl ?_
  refine l_split 11 rfl ?_ ?_
  · intro hbr
    first | (exfalso; simp at hbr; done) | (exfalso; simp at hbr; omega) | (exfalso; first | omega | (simp at hbr; done))
  intro hbr
  have hb11 := hbr
  refine l_guard_yes rfl rfl ?_
  refine l_move rfl rfl ?_
  refine l_guard_yes rfl rfl ?_
  refine l_eqpn rfl Try.underlying24 rfl rfl ?_
  refine l_pick_f rfl rfl rfl ?_
  refine l_assign rfl rfl ?_
  refine l_nil ?_
  refine g_cond rfl ?_ ?_
  · intro hbr
    have hb8 := hbr
    refine g_seq ?_
    refine g_region ?_
    refine l_assign rfl rfl ?_
    refine l_assign rfl rfl ?_
    refine l_nil ?_
    refine g_ret Try.func34 rfl (.tmp rfl (.tmp rfl .nil)) ?_
    exact Gives.mki ⟨(by first | rfl | (simp [resVal]; done)), rfl⟩
  · intro hbr
    first | (exfalso; simp at hbr; done) | (exfalso; simp at hbr; omega) | (exfalso; first | omega | (simp at hbr; done))
theorem all_nil (w0 : World) (F : List Atom)  :
    CallK Try.prog 10 [.pointer none] w0 (F) (Gives w0 fun v F2 => v = .bool false ∧ F2 = F) := by
  refine c_enter Try.func10 rfl rfl rfl ?_
  refine g_seq ?_
  refine g_region ?_
  refine l_assign rfl rfl ?_
  refine l_nil ?_
  refine g_seq ?_
  refine g_region ?_
  refine l_move rfl rfl ?_
  refine l_nepn rfl Try.underlying28 rfl rfl ?_
  refine l_move rfl rfl ?_
  refine l_split 5 rfl ?_ ?_
  · intro hbr
    first | (exfalso; simp at hbr; done) | (exfalso; simp at hbr; omega) | (exfalso; first | omega | (simp at hbr; done))
  intro hbr
  have hb5 := hbr
  refine l_guard_no rfl rfl rfl ?_
  refine l_guard_no rfl rfl rfl ?_
  refine l_guard_no rfl rfl rfl ?_
  refine l_pick_f rfl rfl rfl ?_
  refine l_assign rfl rfl ?_
  refine l_nil ?_
  refine g_ret Try.func10 rfl (.tmp rfl .nil) ?_
  exact Gives.mki ⟨(by first | rfl | (simp [resVal]; done)), rfl⟩
theorem state_nil (w0 : World) (F : List Atom)  :
    CallK Try.prog 14 [.pointer none] w0 (F) (Gives w0 fun v F2 => v = .tuple #[.int .i64 0, .bool false, .slice none 0 0] ∧ F2 = F) := by
  refine c_enter Try.func14 rfl rfl rfl ?_
  refine g_seq ?_
  refine g_region ?_
  refine l_assign rfl rfl ?_
  refine l_assign rfl rfl ?_
  refine l_assign rfl rfl ?_
  refine l_nil ?_
  refine g_seq ?_
  refine g_seq ?_
  refine g_region ?_
  refine l_move rfl rfl ?_
  refine l_eqpn rfl Try.underlying28 rfl rfl ?_
  refine l_nil ?_
  refine g_cond rfl ?_ ?_
  · intro hbr
    have hb6 := hbr
    refine g_seq ?_
    refine g_region ?_
    refine l_assign rfl rfl ?_
    refine l_assign rfl rfl ?_
    refine l_assign rfl rfl ?_
    refine l_nil ?_
    refine g_ret Try.func14 rfl (.tmp rfl (.tmp rfl (.tmp rfl .nil))) ?_
    exact Gives.mki ⟨(by first | rfl | (simp [resVal]; done)), rfl⟩
  · intro hbr
    first | (exfalso; simp at hbr; done) | (exfalso; simp at hbr; omega) | (exfalso; first | omega | (simp at hbr; done))
theorem swap_ok (w0 : World) (F : List Atom) (wb : Nat) (S : WS) :
    CallK Try.prog 22 [.pointer (some ⟨wb, 0, none⟩)] w0 (Blk wb (.cells [Value.pointer (some ⟨S.m.x, 0, none⟩), .pointer (some ⟨S.m.y, 0, none⟩), .pointer (some ⟨S.p.x, 0, none⟩), .pointer (some ⟨S.p.y, 0, none⟩), .slice S.la S.N S.lc, .slice S.ka S.K S.kc, .slice none 0 0].toArray 63 (0, 0)) :: mpA S.m :: mpA S.p :: Own 95 2 (.slice S.la S.N S.lc) S.N (rowsN S.N (fun j => chR (S.C j))) :: BigF S.N (fun j => chA (S.C j)) :: Own 111 4 (.slice S.ka S.K S.kc) S.K (rowsN S.K (fun j => bkR (S.B j))) :: BigF S.K (fun j => bkA (S.B j)) :: F) (Gives w0 fun v F2 => F2 = Blk wb (.cells [Value.pointer (some ⟨(⟨S.p, S.m, S.N, S.C, S.la, S.lc, S.K, S.B, S.ka, S.kc⟩ : WS).m.x, 0, none⟩), .pointer (some ⟨(⟨S.p, S.m, S.N, S.C, S.la, S.lc, S.K, S.B, S.ka, S.kc⟩ : WS).m.y, 0, none⟩), .pointer (some ⟨(⟨S.p, S.m, S.N, S.C, S.la, S.lc, S.K, S.B, S.ka, S.kc⟩ : WS).p.x, 0, none⟩), .pointer (some ⟨(⟨S.p, S.m, S.N, S.C, S.la, S.lc, S.K, S.B, S.ka, S.kc⟩ : WS).p.y, 0, none⟩), .slice (⟨S.p, S.m, S.N, S.C, S.la, S.lc, S.K, S.B, S.ka, S.kc⟩ : WS).la (⟨S.p, S.m, S.N, S.C, S.la, S.lc, S.K, S.B, S.ka, S.kc⟩ : WS).N (⟨S.p, S.m, S.N, S.C, S.la, S.lc, S.K, S.B, S.ka, S.kc⟩ : WS).lc, .slice (⟨S.p, S.m, S.N, S.C, S.la, S.lc, S.K, S.B, S.ka, S.kc⟩ : WS).ka (⟨S.p, S.m, S.N, S.C, S.la, S.lc, S.K, S.B, S.ka, S.kc⟩ : WS).K (⟨S.p, S.m, S.N, S.C, S.la, S.lc, S.K, S.B, S.ka, S.kc⟩ : WS).kc, .slice none 0 0].toArray 63 (0, 0)) :: mpA (⟨S.p, S.m, S.N, S.C, S.la, S.lc, S.K, S.B, S.ka, S.kc⟩ : WS).m :: mpA (⟨S.p, S.m, S.N, S.C, S.la, S.lc, S.K, S.B, S.ka, S.kc⟩ : WS).p :: Own 95 2 (.slice (⟨S.p, S.m, S.N, S.C, S.la, S.lc, S.K, S.B, S.ka, S.kc⟩ : WS).la (⟨S.p, S.m, S.N, S.C, S.la, S.lc, S.K, S.B, S.ka, S.kc⟩ : WS).N (⟨S.p, S.m, S.N, S.C, S.la, S.lc, S.K, S.B, S.ka, S.kc⟩ : WS).lc) (⟨S.p, S.m, S.N, S.C, S.la, S.lc, S.K, S.B, S.ka, S.kc⟩ : WS).N (rowsN (⟨S.p, S.m, S.N, S.C, S.la, S.lc, S.K, S.B, S.ka, S.kc⟩ : WS).N (fun j => chR ((⟨S.p, S.m, S.N, S.C, S.la, S.lc, S.K, S.B, S.ka, S.kc⟩ : WS).C j))) :: BigF (⟨S.p, S.m, S.N, S.C, S.la, S.lc, S.K, S.B, S.ka, S.kc⟩ : WS).N (fun j => chA ((⟨S.p, S.m, S.N, S.C, S.la, S.lc, S.K, S.B, S.ka, S.kc⟩ : WS).C j)) :: Own 111 4 (.slice (⟨S.p, S.m, S.N, S.C, S.la, S.lc, S.K, S.B, S.ka, S.kc⟩ : WS).ka (⟨S.p, S.m, S.N, S.C, S.la, S.lc, S.K, S.B, S.ka, S.kc⟩ : WS).K (⟨S.p, S.m, S.N, S.C, S.la, S.lc, S.K, S.B, S.ka, S.kc⟩ : WS).kc) (⟨S.p, S.m, S.N, S.C, S.la, S.lc, S.K, S.B, S.ka, S.kc⟩ : WS).K (rowsN (⟨S.p, S.m, S.N, S.C, S.la, S.lc, S.K, S.B, S.ka, S.kc⟩ : WS).K (fun j => bkR ((⟨S.p, S.m, S.N, S.C, S.la, S.lc, S.K, S.B, S.ka, S.kc⟩ : WS).B j))) :: BigF (⟨S.p, S.m, S.N, S.C, S.la, S.lc, S.K, S.B, S.ka, S.kc⟩ : WS).K (fun j => bkA ((⟨S.p, S.m, S.N, S.C, S.la, S.lc, S.K, S.B, S.ka, S.kc⟩ : WS).B j)) :: F) := by
  refine c_enter Try.func22 rfl rfl rfl ?_
  refine g_seq ?_
  refine gp_start mo (by kernel_rfl) (by kernel_rfl) ?_
  refine gp_quiet 0 rfl rfl rfl rfl rfl rfl (q_move rfl) ?_
  refine gp_quiet 1 rfl rfl rfl rfl rfl rfl (q_nilCheck rfl) ?_
  refine gp_quiet 2 rfl rfl rfl rfl rfl rfl (q_fieldAddr fa_63_0 rfl) ?_
  refine gp_quiet 3 rfl rfl rfl rfl rfl rfl (q_ld Try.isAgg24 rfl rfl) ?_
  refine gp_quiet 4 rfl rfl rfl rfl rfl rfl (q_move rfl) ?_
  refine gp_quiet 5 rfl rfl rfl rfl rfl rfl (q_nilCheck rfl) ?_
  refine gp_quiet 6 rfl rfl rfl rfl rfl rfl (q_fieldAddr fa_63_1 rfl) ?_
  refine gp_quiet 7 rfl rfl rfl rfl rfl rfl (q_ld Try.isAgg56 rfl rfl) ?_
  refine gp_quiet 8 rfl rfl rfl rfl rfl rfl (q_assign rfl) ?_
  refine gp_quiet 9 rfl rfl rfl rfl rfl rfl (q_assign rfl) ?_
  refine gp_end rfl rfl ?_
  refine g_seq ?_
  refine gp_start mo (by kernel_rfl) (by kernel_rfl) ?_
  refine gp_quiet 0 rfl rfl rfl rfl rfl rfl (q_move rfl) ?_
  refine gp_quiet 1 rfl rfl rfl rfl rfl rfl (q_move rfl) ?_
  refine gp_quiet 2 rfl rfl rfl rfl rfl rfl (q_move rfl) ?_
  refine gp_quiet 3 rfl rfl rfl rfl rfl rfl (q_nilCheck rfl) ?_
  refine gp_quiet 4 rfl rfl rfl rfl rfl rfl (q_fieldAddr fa_63_2 rfl) ?_
  refine gp_quiet 5 rfl rfl rfl rfl rfl rfl (q_ld Try.isAgg24 rfl rfl) ?_
  refine gp_quiet 6 rfl rfl rfl rfl rfl rfl (q_move rfl) ?_
  refine gp_quiet 7 rfl rfl rfl rfl rfl rfl (q_nilCheck rfl) ?_
  refine gp_quiet 8 rfl rfl rfl rfl rfl rfl (q_fieldAddr fa_63_3 rfl) ?_
  refine gp_quiet 9 rfl rfl rfl rfl rfl rfl (q_ld Try.isAgg56 rfl rfl) ?_
  refine gp_quiet 10 rfl rfl rfl rfl rfl rfl (q_nilCheck rfl) ?_
  refine gp_quiet 11 rfl rfl rfl rfl rfl rfl (q_fieldAddr fa_63_0 rfl) ?_
  refine gp_effa 12 [0, 2, 3, 4, 5, 9, 11] [10, 8, 7, 6, 1] rfl rfl rfl rfl rfl rfl rfl (does_st Try.sizeOf24 rfl rfl rfl rfl) ?_
  rintro _ _ ⟨rfl, rfl⟩
  refine ⟨?_, ?_⟩
  · refine .cons rfl rfl rfl rfl rfl (q_nilCheck rfl) ?_
    refine .cons rfl rfl rfl rfl rfl (q_fieldAddr fa_63_3 rfl) ?_
    refine .cons rfl rfl rfl rfl rfl (q_nilCheck rfl) ?_
    refine .cons rfl rfl rfl rfl rfl (q_move rfl) ?_
    refine .cons rfl rfl rfl rfl rfl (q_move rfl) ?_
    exact .nil
  refine gp_quiet 13 rfl rfl rfl rfl rfl rfl (q_nilCheck rfl) ?_
  refine gp_quiet 14 rfl rfl rfl rfl rfl rfl (q_fieldAddr fa_63_1 rfl) ?_
  refine gp_effa 15 [1, 6, 7, 8, 10, 14] [13] rfl rfl rfl rfl rfl rfl rfl (does_st Try.sizeOf56 rfl rfl rfl rfl) ?_
  rintro _ _ ⟨rfl, rfl⟩
  refine ⟨?_, ?_⟩
  · refine .cons rfl rfl rfl rfl rfl (q_nilCheck rfl) ?_
    exact .nil
  refine gp_end rfl rfl ?_
  refine g_region ?_
  refine l_move rfl rfl ?_
  refine l_move rfl rfl ?_
  refine l_move rfl rfl ?_
  refine l_move rfl rfl ?_
  refine l_nilCheck rfl rfl ?_
  refine l_fieldAddr rfl fa_63_2 rfl ?_
  refine l_st Try.sizeOf24 rfl rfl rfl rfl ?_
  refine l_nilCheck rfl rfl ?_
  refine l_fieldAddr rfl fa_63_3 rfl ?_
  refine l_st Try.sizeOf56 rfl rfl rfl rfl ?_
  refine l_nil ?_
  refine g_end Try.func22 rfl .nil ?_
  exact Gives.mki rfl
end Go.Proofs.Ythemlddepepekaa.Fw
