import Derived.Test.YthngpcaljljlaaaRefH0
namespace Go.Proofs.Ythngpcaljljlaaa.Fw
open Go Go.Proofs
set_option linter.unusedVariables false
set_option linter.unusedSimpArgs false
set_option maxRecDepth 10000

theorem may_nil (w0 : World) (F : List Atom) (wd : Int) :
    CallK Try.prog 28 [.pointer none, .int .i64 wd] w0 (F) (Gives w0 fun v F2 => v = .int .i64 3 ∧ F2 = F) := by
  refine c_enter Try.func28 rfl rfl rfl ?_
  refine g_seq ?_
  refine g_region ?_
  refine l_assign rfl rfl ?_
  refine l_nil ?_
  refine g_seq ?_
  refine g_block ?_
  refine g_seq ?_
  refine g_region ?_
  refine l_move rfl rfl ?_
  refine l_eqpn rfl Try.underlying22 rfl rfl ?_
  refine l_assign rfl rfl ?_
  refine l_nil ?_
  refine g_cond_t rfl ?_
  refine g_seq ?_
  refine g_region ?_
  refine l_assign rfl rfl ?_
  refine l_nil ?_
  refine g_ret Try.func28 rfl (.tmp rfl .nil) ?_
  exact Gives.mki ⟨rfl, rfl⟩
theorem rstand_nil (w0 : World) (F : List Atom) (wd : Int) :
    CallK Try.prog 47 [.pointer none, .int .i64 wd] w0 (F) (Gives w0 fun v F2 => v = .int .i64 3 ∧ F2 = F) := by
  refine c_enter Try.func47 rfl rfl rfl ?_
  refine g_seq ?_
  refine g_region ?_
  refine l_assign rfl rfl ?_
  refine l_nil ?_
  refine g_seq ?_
  refine g_seq ?_
  refine g_region ?_
  refine l_move rfl rfl ?_
  refine l_eqpn rfl Try.underlying50 rfl rfl ?_
  refine l_nil ?_
  refine g_cond_t rfl ?_
  refine g_seq ?_
  refine g_region ?_
  refine l_assign rfl rfl ?_
  refine l_nil ?_
  refine g_ret Try.func47 rfl (.tmp rfl .nil) ?_
  exact Gives.mki ⟨rfl, rfl⟩
theorem put_nil (w0 : World) (F : List Atom) (at_ wd : Int) (a : Option Addr) (q qc : Nat) :
    CallK Try.prog 9 [.pointer none, .int .i64 at_, .int .i64 wd, .slice a q qc] w0 (F) (Gives w0 fun v F2 => v = .int .i64 3 ∧ F2 = F) := by
  refine c_enter Try.func9 rfl rfl rfl ?_
  refine g_seq ?_
  refine g_region ?_
  refine l_assign rfl rfl ?_
  refine l_nil ?_
  refine g_seq ?_
  refine g_seq ?_
  refine g_region ?_
  refine l_move rfl rfl ?_
  refine l_move rfl rfl ?_
  refine l_call rfl Try.call28 rfl (may_nil _ _ wd) ?_; rintro _ _ ⟨rfl, rfl⟩
  refine l_assign rfl rfl ?_
  refine l_nil ?_
  refine g_seq ?_
  refine g_region ?_
  refine l_move rfl rfl ?_
  refine l_neq rfl rfl rfl ?_
  refine l_nil ?_
  refine g_cond rfl ?_ ?_
  · intro hbr
    have hbr := of_decide_eq_true hbr
    refine g_seq ?_
    refine g_region ?_
    refine l_move rfl rfl ?_
    refine l_assign rfl rfl ?_
    refine l_nil ?_
    refine g_ret Try.func9 rfl (.tmp rfl .nil) ?_
    exact Gives.mki ⟨rfl, rfl⟩
  · intro hbr
    have hbr := of_decide_eq_false hbr
    (exfalso; omega)
theorem staged_nil (w0 : World) (F : List Atom) (at_ wd : Int) :
    CallK Try.prog 20 [.pointer none, .int .i64 at_, .int .i64 wd] w0 (F) (Gives w0 fun v F2 => v = .tuple #[.int .i64 0, .int .i64 3] ∧ F2 = F) := by
  refine c_enter Try.func20 rfl rfl rfl ?_
  refine g_seq ?_
  refine g_region ?_
  refine l_assign rfl rfl ?_
  refine l_assign rfl rfl ?_
  refine l_nil ?_
  refine g_seq ?_
  refine g_seq ?_
  refine g_region ?_
  refine l_move rfl rfl ?_
  refine l_move rfl rfl ?_
  refine l_call rfl Try.call28 rfl (may_nil _ _ wd) ?_; rintro _ _ ⟨rfl, rfl⟩
  refine l_assign rfl rfl ?_
  refine l_nil ?_
  refine g_seq ?_
  refine g_region ?_
  refine l_move rfl rfl ?_
  refine l_neq rfl rfl rfl ?_
  refine l_nil ?_
  refine g_cond rfl ?_ ?_
  · intro hbr
    have hbr := of_decide_eq_true hbr
    refine g_seq ?_
    refine g_region ?_
    refine l_move rfl rfl ?_
    refine l_assign rfl rfl ?_
    refine l_assign rfl rfl ?_
    refine l_nil ?_
    refine g_ret Try.func20 rfl (.tmp rfl (.tmp rfl .nil)) ?_
    exact Gives.mki ⟨rfl, rfl⟩
  · intro hbr
    have hbr := of_decide_eq_false hbr
    (exfalso; omega)
theorem readp_nil (w0 : World) (F : List Atom) (at_ wd : Int) :
    CallK Try.prog 18 [.pointer none, .int .i64 at_, .int .i64 wd] w0 (F) (Gives w0 fun v F2 => v = .tuple #[.slice none 0 0, .bool false, .bool false, .int .i64 3] ∧ F2 = F) := by
  refine c_enter Try.func18 rfl rfl rfl ?_
  refine g_seq ?_
  refine g_region ?_
  refine l_assign rfl rfl ?_
  refine l_assign rfl rfl ?_
  refine l_assign rfl rfl ?_
  refine l_assign rfl rfl ?_
  refine l_nil ?_
  refine g_seq ?_
  refine g_seq ?_
  refine g_region ?_
  refine l_move rfl rfl ?_
  refine l_move rfl rfl ?_
  refine l_call rfl Try.call28 rfl (may_nil _ _ wd) ?_; rintro _ _ ⟨rfl, rfl⟩
  refine l_assign rfl rfl ?_
  refine l_nil ?_
  refine g_seq ?_
  refine g_region ?_
  refine l_move rfl rfl ?_
  refine l_neq rfl rfl rfl ?_
  refine l_nil ?_
  refine g_cond rfl ?_ ?_
  · intro hbr
    have hbr := of_decide_eq_true hbr
    refine g_seq ?_
    refine g_region ?_
    refine l_move rfl rfl ?_
    refine l_assign rfl rfl ?_
    refine l_assign rfl rfl ?_
    refine l_assign rfl rfl ?_
    refine l_assign rfl rfl ?_
    refine l_nil ?_
    refine g_ret Try.func18 rfl (.tmp rfl (.tmp rfl (.tmp rfl (.tmp rfl .nil)))) ?_
    exact Gives.mki ⟨rfl, rfl⟩
  · intro hbr
    have hbr := of_decide_eq_false hbr
    (exfalso; omega)
theorem ready_nil (w0 : World) (F : List Atom) (at_ wd : Int) (a : Option Addr) (q qc : Nat) :
    CallK Try.prog 34 [.pointer none, .int .i64 at_, .int .i64 wd, .slice a q qc] w0 (F) (Gives w0 fun v F2 => v = .int .i64 3 ∧ F2 = F) := by
  refine c_enter Try.func34 rfl rfl rfl ?_
  refine g_seq ?_
  refine g_region ?_
  refine l_assign rfl rfl ?_
  refine l_nil ?_
  refine g_seq ?_
  refine g_seq ?_
  refine g_region ?_
  refine l_move rfl rfl ?_
  refine l_move rfl rfl ?_
  refine l_call rfl Try.call28 rfl (may_nil _ _ wd) ?_; rintro _ _ ⟨rfl, rfl⟩
  refine l_assign rfl rfl ?_
  refine l_nil ?_
  refine g_seq ?_
  refine g_region ?_
  refine l_move rfl rfl ?_
  refine l_neq rfl rfl rfl ?_
  refine l_nil ?_
  refine g_cond rfl ?_ ?_
  · intro hbr
    have hbr := of_decide_eq_true hbr
    refine g_seq ?_
    refine g_region ?_
    refine l_move rfl rfl ?_
    refine l_assign rfl rfl ?_
    refine l_nil ?_
    refine g_ret Try.func34 rfl (.tmp rfl .nil) ?_
    exact Gives.mki ⟨rfl, rfl⟩
  · intro hbr
    have hbr := of_decide_eq_false hbr
    (exfalso; omega)
theorem deliver_nil (w0 : World) (F : List Atom) (at_ wd : Int) (a : Option Addr) (q qc : Nat) :
    CallK Try.prog 16 [.pointer none, .int .i64 at_, .int .i64 wd, .slice a q qc] w0 (F) (Gives w0 fun v F2 => v = .int .i64 3 ∧ F2 = F) := by
  refine c_enter Try.func16 rfl rfl rfl ?_
  refine g_seq ?_
  refine g_region ?_
  refine l_assign rfl rfl ?_
  refine l_nil ?_
  refine g_seq ?_
  refine g_seq ?_
  refine g_region ?_
  refine l_move rfl rfl ?_
  refine l_move rfl rfl ?_
  refine l_move rfl rfl ?_
  refine l_move rfl rfl ?_
  refine l_call rfl Try.call34 rfl (ready_nil _ _ at_ wd a q qc) ?_; rintro _ _ ⟨rfl, rfl⟩
  refine l_assign rfl rfl ?_
  refine l_nil ?_
  refine g_seq ?_
  refine g_region ?_
  refine l_move rfl rfl ?_
  refine l_neq rfl rfl rfl ?_
  refine l_nil ?_
  refine g_cond rfl ?_ ?_
  · intro hbr
    have hbr := of_decide_eq_true hbr
    refine g_seq ?_
    refine g_region ?_
    refine l_move rfl rfl ?_
    refine l_assign rfl rfl ?_
    refine l_nil ?_
    refine g_ret Try.func16 rfl (.tmp rfl .nil) ?_
    exact Gives.mki ⟨rfl, rfl⟩
  · intro hbr
    have hbr := of_decide_eq_false hbr
    (exfalso; omega)
theorem rput_nil (w0 : World) (F : List Atom) (at_ wd : Int) (a : Option Addr) (q qc : Nat) :
    CallK Try.prog 38 [.pointer none, .int .i64 at_, .int .i64 wd, .slice a q qc] w0 (F) (Gives w0 fun v F2 => v = .int .i64 3 ∧ F2 = F) := by
  refine c_enter Try.func38 rfl rfl rfl ?_
  refine g_seq ?_
  refine g_region ?_
  refine l_assign rfl rfl ?_
  refine l_nil ?_
  refine g_seq ?_
  refine g_region ?_
  refine l_move rfl rfl ?_
  refine l_move rfl rfl ?_
  refine l_call rfl Try.call47 rfl (rstand_nil _ _ wd) ?_; rintro _ _ ⟨rfl, rfl⟩
  refine l_assign rfl rfl ?_
  refine l_nil ?_
  refine g_seq ?_
  refine g_seq ?_
  refine g_region ?_
  refine l_move rfl rfl ?_
  refine l_neq rfl rfl rfl ?_
  refine l_nil ?_
  refine g_cond rfl ?_ ?_
  · intro hbr
    have hbr := of_decide_eq_true hbr
    refine g_seq ?_
    refine g_region ?_
    refine l_move rfl rfl ?_
    refine l_assign rfl rfl ?_
    refine l_nil ?_
    refine g_ret Try.func38 rfl (.tmp rfl .nil) ?_
    exact Gives.mki ⟨rfl, rfl⟩
  · intro hbr
    have hbr := of_decide_eq_false hbr
    (exfalso; omega)
theorem rstaged_nil (w0 : World) (F : List Atom) (at_ wd : Int) :
    CallK Try.prog 39 [.pointer none, .int .i64 at_, .int .i64 wd] w0 (F) (Gives w0 fun v F2 => v = .tuple #[.int .i64 0, .int .i64 3] ∧ F2 = F) := by
  refine c_enter Try.func39 rfl rfl rfl ?_
  refine g_seq ?_
  refine g_region ?_
  refine l_assign rfl rfl ?_
  refine l_assign rfl rfl ?_
  refine l_nil ?_
  refine g_seq ?_
  refine g_region ?_
  refine l_move rfl rfl ?_
  refine l_move rfl rfl ?_
  refine l_call rfl Try.call47 rfl (rstand_nil _ _ wd) ?_; rintro _ _ ⟨rfl, rfl⟩
  refine l_assign rfl rfl ?_
  refine l_nil ?_
  refine g_seq ?_
  refine g_seq ?_
  refine g_region ?_
  refine l_move rfl rfl ?_
  refine l_neq rfl rfl rfl ?_
  refine l_nil ?_
  refine g_cond rfl ?_ ?_
  · intro hbr
    have hbr := of_decide_eq_true hbr
    refine g_seq ?_
    refine g_region ?_
    refine l_move rfl rfl ?_
    refine l_assign rfl rfl ?_
    refine l_assign rfl rfl ?_
    refine l_nil ?_
    refine g_ret Try.func39 rfl (.tmp rfl (.tmp rfl .nil)) ?_
    exact Gives.mki ⟨rfl, rfl⟩
  · intro hbr
    have hbr := of_decide_eq_false hbr
    (exfalso; omega)
theorem rreadp_nil (w0 : World) (F : List Atom) (at_ wd : Int) :
    CallK Try.prog 42 [.pointer none, .int .i64 at_, .int .i64 wd] w0 (F) (Gives w0 fun v F2 => v = .tuple #[.slice none 0 0, .bool false, .bool false, .int .i64 3] ∧ F2 = F) := by
  refine c_enter Try.func42 rfl rfl rfl ?_
  refine g_seq ?_
  refine g_region ?_
  refine l_assign rfl rfl ?_
  refine l_assign rfl rfl ?_
  refine l_assign rfl rfl ?_
  refine l_assign rfl rfl ?_
  refine l_nil ?_
  refine g_seq ?_
  refine g_region ?_
  refine l_move rfl rfl ?_
  refine l_move rfl rfl ?_
  refine l_call rfl Try.call47 rfl (rstand_nil _ _ wd) ?_; rintro _ _ ⟨rfl, rfl⟩
  refine l_assign rfl rfl ?_
  refine l_nil ?_
  refine g_seq ?_
  refine g_seq ?_
  refine g_region ?_
  refine l_move rfl rfl ?_
  refine l_neq rfl rfl rfl ?_
  refine l_nil ?_
  refine g_cond rfl ?_ ?_
  · intro hbr
    have hbr := of_decide_eq_true hbr
    refine g_seq ?_
    refine g_region ?_
    refine l_move rfl rfl ?_
    refine l_assign rfl rfl ?_
    refine l_assign rfl rfl ?_
    refine l_assign rfl rfl ?_
    refine l_assign rfl rfl ?_
    refine l_nil ?_
    refine g_ret Try.func42 rfl (.tmp rfl (.tmp rfl (.tmp rfl (.tmp rfl .nil)))) ?_
    exact Gives.mki ⟨rfl, rfl⟩
  · intro hbr
    have hbr := of_decide_eq_false hbr
    (exfalso; omega)
theorem rdeliver_nil (w0 : World) (F : List Atom) (at_ wd : Int) (a : Option Addr) (q qc : Nat) :
    CallK Try.prog 40 [.pointer none, .int .i64 at_, .int .i64 wd, .slice a q qc] w0 (F) (Gives w0 fun v F2 => v = .int .i64 3 ∧ F2 = F) := by
  refine c_enter Try.func40 rfl rfl rfl ?_
  refine g_seq ?_
  refine g_region ?_
  refine l_assign rfl rfl ?_
  refine l_nil ?_
  refine g_seq ?_
  refine g_region ?_
  refine l_move rfl rfl ?_
  refine l_move rfl rfl ?_
  refine l_call rfl Try.call47 rfl (rstand_nil _ _ wd) ?_; rintro _ _ ⟨rfl, rfl⟩
  refine l_assign rfl rfl ?_
  refine l_nil ?_
  refine g_seq ?_
  refine g_seq ?_
  refine g_region ?_
  refine l_move rfl rfl ?_
  refine l_neq rfl rfl rfl ?_
  refine l_nil ?_
  refine g_cond rfl ?_ ?_
  · intro hbr
    have hbr := of_decide_eq_true hbr
    refine g_seq ?_
    refine g_region ?_
    refine l_move rfl rfl ?_
    refine l_assign rfl rfl ?_
    refine l_nil ?_
    refine g_ret Try.func40 rfl (.tmp rfl .nil) ?_
    exact Gives.mki ⟨rfl, rfl⟩
  · intro hbr
    have hbr := of_decide_eq_false hbr
    (exfalso; omega)
theorem there_nil (w0 : World) (F : List Atom) (at_ k : Int) :
    CallK Try.prog 32 [.pointer none, .int .i64 at_, .int .i64 k] w0 (F) (Gives w0 fun v F2 => v = .int .i64 3 ∧ F2 = F) := by
  refine c_enter Try.func32 rfl rfl rfl ?_
  refine g_seq ?_
  refine g_region ?_
  refine l_assign rfl rfl ?_
  refine l_nil ?_
  refine g_seq ?_
  refine g_seq ?_
  refine g_region ?_
  refine l_move rfl rfl ?_
  refine l_eqpn rfl Try.underlying22 rfl rfl ?_
  refine l_nil ?_
  refine g_cond rfl ?_ ?_
  · intro hbr
    have hb8 := hbr
    refine g_seq ?_
    refine g_region ?_
    refine l_assign rfl rfl ?_
    refine l_nil ?_
    refine g_ret Try.func32 rfl (.tmp rfl .nil) ?_
    exact Gives.mki ⟨rfl, rfl⟩
  · intro hbr
    first | (exfalso; simp at hbr; done) | (exfalso; simp at hbr; omega)
theorem write_nil (w0 : World) (F : List Atom) (at_ x : Int) :
    CallK Try.prog 10 [.pointer none, .int .i64 at_, .int .u32 x] w0 (F) (Gives w0 fun v F2 => v = .int .i64 3 ∧ F2 = F) := by
  refine c_enter Try.func10 rfl rfl rfl ?_
  refine g_seq ?_
  refine g_region ?_
  refine l_assign rfl rfl ?_
  refine l_nil ?_
  refine g_seq ?_
  refine g_region ?_
  refine l_move rfl rfl ?_
  refine l_move rfl rfl ?_
  refine l_call rfl Try.call32 rfl (there_nil _ _ at_ 1) ?_; rintro _ _ ⟨rfl, rfl⟩
  refine l_assign rfl rfl ?_
  refine l_nil ?_
  refine g_seq ?_
  refine g_seq ?_
  refine g_region ?_
  refine l_move rfl rfl ?_
  refine l_eql rfl rfl rfl ?_
  refine l_nil ?_
  refine g_cond rfl ?_ ?_
  · intro hbr
    have hbr := of_decide_eq_true hbr
    (exfalso; omega)
  intro hbr
  have hbr := of_decide_eq_false hbr
  refine g_skip ?_
  refine g_seq ?_
  refine g_region ?_
  refine l_move rfl rfl ?_
  refine l_assign rfl rfl ?_
  refine l_nil ?_
  refine g_ret Try.func10 rfl (.tmp rfl .nil) ?_
  exact Gives.mki ⟨rfl, rfl⟩
theorem rwrite_nil (w0 : World) (F : List Atom) (at_ x : Int) :
    CallK Try.prog 41 [.pointer none, .int .i64 at_, .int .u32 x] w0 (F) (Gives w0 fun v F2 => v = .int .i64 3 ∧ F2 = F) := by
  refine c_enter Try.func41 rfl rfl rfl ?_
  refine g_seq ?_
  refine g_region ?_
  refine l_assign rfl rfl ?_
  refine l_nil ?_
  refine g_seq ?_
  refine g_seq ?_
  refine g_region ?_
  refine l_move rfl rfl ?_
  refine l_eqpn rfl Try.underlying50 rfl rfl ?_
  refine l_nil ?_
  refine g_cond_t rfl ?_
  refine g_seq ?_
  refine g_region ?_
  refine l_assign rfl rfl ?_
  refine l_nil ?_
  refine g_ret Try.func41 rfl (.tmp rfl .nil) ?_
  exact Gives.mki ⟨rfl, rfl⟩
end Go.Proofs.Ythngpcaljljlaaa.Fw
