import Derived.Test.YtfccfjgnoeocnaaBase
namespace Go.Proofs.Ytfccfjgnoeocnaa.Fw
open Go Go.Proofs
set_option linter.unusedVariables false
set_option linter.unusedSimpArgs false
set_option maxRecDepth 10000
theorem fa_40_1 (a : Addr) (w : World) : (Instr.fieldAt 40 (.pointer (some a)) 1).run Try.prog w = .ok (.pointer (some (a.add 1))) w := by
  simp [Instr.fieldAt, Try.runUnderlying40, Instr.sureAddr, fieldPlace, Try.sizeOf3, Sem.run_bind, Sem.run_pure]
theorem fa_40_2 (a : Addr) (w : World) : (Instr.fieldAt 40 (.pointer (some a)) 2).run Try.prog w = .ok (.pointer (some (a.add 2))) w := by
  simp [Instr.fieldAt, Try.runUnderlying40, Instr.sureAddr, fieldPlace, Try.sizeOf3, Sem.run_bind, Sem.run_pure]
theorem mo : Try.prog.follows .mixedOrders = true := by kernel_rfl
theorem may_ok (w0 : World) (F : List Atom) (a : Option Addr) (n c : Nat) (L : List Win) (hW : WR w0 F a n L) (hn : n ≤ 9223372036854775807) (hm : May L) :
    CallK Try.prog 35 [.slice a n c] w0 (F) (Gives w0 fun v F2 => v = .bool true ∧ F2 = F) := by
  have hL := hW.1
  have hI := hW.2.1
  unfold I64 at hI
  obtain ⟨m1, m2, _⟩ := id hm
  refine c_enter Try.func35 rfl rfl rfl ?_
  refine g_seq ?_
  refine g_region ?_
  refine l_assign rfl rfl ?_
  refine l_nil ?_
  refine g_seq ?_
  refine g_seq ?_
  refine g_region ?_
  refine l_move rfl rfl ?_
  refine l_len rfl Try.underlying38 rfl ?_
  refine l_lss rfl rfl rfl ?_
  refine l_move rfl rfl ?_
  refine l_split 7 rfl ?_ ?_
  · intro hbr
    have hbr := of_decide_eq_true hbr
    (exfalso; omega)
  intro hbr
  have hbr := of_decide_eq_false hbr
  refine l_guard_yes rfl rfl ?_
  refine l_move rfl rfl ?_
  refine l_guard_yes rfl rfl ?_
  refine l_len rfl Try.underlying38 rfl ?_
  refine l_guard_yes rfl rfl ?_
  refine l_gtr rfl rfl rfl ?_
  refine l_pick_f rfl rfl rfl ?_
  refine l_nil ?_
  refine g_cond rfl ?_ ?_
  · intro hbr
    have hbr := of_decide_eq_true hbr
    (exfalso; omega)
  intro hbr
  have hbr := of_decide_eq_false hbr
  refine g_skip ?_
  refine g_seq ?_
  refine g_seq ?_
  refine g_region ?_
  refine l_assign rfl rfl ?_
  refine l_nil ?_
  refine g_block ?_
  refine g_loop (X := Int) (fun i => 0 ≤ i ∧ i ≤ n) (fun i => (n - i).toNat) (fun i => [(0, .slice a n c), (3, .int .i64 i)]) (fun i => F) 0 (by omega) (.cons rfl (.cons rfl (.nil))) (fun w hw => SPI.holds hw) ?_
  rintro i ⟨i0, i1⟩ ih
  have hmi := fun h => hm.2.2 i.toNat h
  unfold okW at hmi
  refine g_seq ?_
  refine g_seq ?_
  refine g_region ?_
  refine l_move rfl rfl ?_
  refine l_move rfl rfl ?_
  refine l_len rfl Try.underlying38 rfl ?_
  refine l_lss rfl rfl rfl ?_
  refine l_nil ?_
  refine g_cond rfl ?_ ?_
  · intro hbr
    have hbr := of_decide_eq_true hbr
    refine g_skip ?_
    refine g_seq ?_
    refine g_block ?_
    refine g_seq ?_
    refine g_region ?_
    refine l_move rfl rfl ?_
    refine l_move rfl rfl ?_
    have hIi := hI i.toNat (by omega)
    obtain ⟨b9, o9, rfl, hr9⟩ := hW.some (i := i.toNat) (by omega)
    refine l_ixs rfl Try.underlying38 Try.sizeOf40 rfl rfl (by omega) (by omega) ?_
    refine l_fieldAddr rfl fa_40_1 rfl ?_
    refine l_loadc rfl Try.isAgg3 rfl ((row_elem hr9.ex (win_len L) (win_at (i := i.toNat) (by omega))).cell (j := 1) (v := .int .i64 (wat L i.toNat).2.1) rfl) ?_
    refine l_lss rfl rfl rfl ?_
    refine l_move rfl rfl ?_
    refine l_split 24 rfl ?_ ?_
    · intro hbr
      have hbr := of_decide_eq_true hbr
      (exfalso; omega)
    intro hbr
    have hbr := of_decide_eq_false hbr
    refine l_guard_yes rfl rfl ?_
    refine l_move rfl rfl ?_
    refine l_guard_yes rfl rfl ?_
    refine l_move rfl rfl ?_
    refine l_guard_yes rfl rfl ?_
    refine l_ixs rfl Try.underlying38 Try.sizeOf40 rfl rfl (by omega) (by omega) ?_
    refine l_guard_yes rfl rfl ?_
    refine l_fieldAddr rfl fa_40_1 rfl ?_
    refine l_guard_yes rfl rfl ?_
    refine l_loadc rfl Try.isAgg3 rfl ((row_elem hr9.ex (win_len L) (win_at (i := i.toNat) (by omega))).cell (j := 1) (v := .int .i64 (wat L i.toNat).2.1) rfl) ?_
    refine l_guard_yes rfl rfl ?_
    refine l_gtr rfl rfl rfl ?_
    refine l_pick_f rfl rfl rfl ?_
    refine l_move rfl rfl ?_
    refine l_split 32 rfl ?_ ?_
    · intro hbr
      have hbr := of_decide_eq_true hbr
      (exfalso; omega)
    intro hbr
    have hbr := of_decide_eq_false hbr
    refine l_guard_yes rfl rfl ?_
    refine l_move rfl rfl ?_
    refine l_guard_yes rfl rfl ?_
    refine l_move rfl rfl ?_
    refine l_guard_yes rfl rfl ?_
    refine l_ixs rfl Try.underlying38 Try.sizeOf40 rfl rfl (by omega) (by omega) ?_
    refine l_guard_yes rfl rfl ?_
    refine l_fieldAddr rfl fa_40_2 rfl ?_
    refine l_guard_yes rfl rfl ?_
    refine l_loadc rfl Try.isAgg3 rfl ((row_elem hr9.ex (win_len L) (win_at (i := i.toNat) (by omega))).cell (j := 2) (v := .int .i64 (wat L i.toNat).2.2) rfl) ?_
    refine l_guard_yes rfl rfl ?_
    refine l_lss rfl rfl rfl ?_
    refine l_pick_f rfl rfl rfl ?_
    refine l_move rfl rfl ?_
    refine l_split 40 rfl ?_ ?_
    · intro hbr
      have hbr := of_decide_eq_true hbr
      (exfalso; omega)
    intro hbr
    have hbr := of_decide_eq_false hbr
    refine l_guard_yes rfl rfl ?_
    refine l_move rfl rfl ?_
    refine l_guard_yes rfl rfl ?_
    refine l_move rfl rfl ?_
    refine l_guard_yes rfl rfl ?_
    refine l_ixs rfl Try.underlying38 Try.sizeOf40 rfl rfl (by omega) (by omega) ?_
    refine l_guard_yes rfl rfl ?_
    refine l_fieldAddr rfl fa_40_2 rfl ?_
    refine l_guard_yes rfl rfl ?_
    refine l_loadc rfl Try.isAgg3 rfl ((row_elem hr9.ex (win_len L) (win_at (i := i.toNat) (by omega))).cell (j := 2) (v := .int .i64 (wat L i.toNat).2.2) rfl) ?_
    refine l_guard_yes rfl rfl ?_
    refine l_gtr rfl rfl rfl ?_
    refine l_pick_f rfl rfl rfl ?_
    refine l_nil ?_
    refine g_cond rfl ?_ ?_
    · intro hbr
      have hbr := of_decide_eq_true hbr
      (exfalso; omega)
    intro hbr
    have hbr := of_decide_eq_false hbr
    refine g_skip ?_
    refine g_inBlock ?_
    refine g_region ?_
    refine l_move rfl rfl ?_
    first | refine l_add rfl rfl rfl (w_i64 (by omega) (by omega)) ?_ | refine l_addw rfl rfl rfl ?_
    refine l_assign rfl rfl ?_
    refine l_nil ?_
    exact g_againi (ih (i + 1) (by omega) (by omega)) (.cons rfl (.cons rfl (.nil)))
  intro hbr
  have hbr := of_decide_eq_false hbr
  refine g_exit rfl ?_
  refine g_seq ?_
  refine g_region ?_
  refine l_assign rfl rfl ?_
  refine l_nil ?_
  refine g_ret Try.func35 rfl (.tmp rfl .nil) ?_
  exact Gives.mki ⟨rfl, rfl⟩
theorem may_bad (w0 : World) (F : List Atom) (a : Option Addr) (n c : Nat) (L : List Win) (hW : WR w0 F a n L) (hn : n ≤ 9223372036854775807) (hm : ¬ May L) :
    CallK Try.prog 35 [.slice a n c] w0 (F) (Gives w0 fun v F2 => v = .bool false ∧ F2 = F) := by
  have hL := hW.1
  have hI := hW.2.1
  unfold I64 at hI
  refine c_enter Try.func35 rfl rfl rfl ?_
  refine g_seq ?_
  refine g_region ?_
  refine l_assign rfl rfl ?_
  refine l_nil ?_
  refine g_seq ?_
  refine g_seq ?_
  refine g_region ?_
  refine l_move rfl rfl ?_
  refine l_len rfl Try.underlying38 rfl ?_
  refine l_lss rfl rfl rfl ?_
  refine l_move rfl rfl ?_
  refine l_split 7 rfl ?_ ?_
  · intro hbr
    have hbr := of_decide_eq_true hbr
    refine l_guard_no rfl rfl rfl ?_
    refine l_guard_no rfl rfl rfl ?_
    refine l_guard_no rfl rfl rfl ?_
    refine l_pick_t rfl rfl rfl ?_
    refine l_nil ?_
    first | refine g_cond_t rfl ?_ | refine g_cond_t (congrArg (fun b => some (Value.bool b)) (decide_eq_true hbr)) ?_
    refine g_seq ?_
    refine g_region ?_
    refine l_assign rfl rfl ?_
    refine l_nil ?_
    refine g_ret Try.func35 rfl (.tmp rfl .nil) ?_
    (first | exact Gives.mki ⟨rfl, rfl⟩ | (exfalso; exact not_may hm (by omega) (by omega) (fun j hj => hok j (by omega))))
  intro hbr
  have hbr := of_decide_eq_false hbr
  refine l_guard_yes rfl rfl ?_
  refine l_move rfl rfl ?_
  refine l_guard_yes rfl rfl ?_
  refine l_len rfl Try.underlying38 rfl ?_
  refine l_guard_yes rfl rfl ?_
  refine l_gtr rfl rfl rfl ?_
  refine l_pick_f rfl rfl rfl ?_
  refine l_nil ?_
  refine g_cond rfl ?_ ?_
  · intro hbr
    have hbr := of_decide_eq_true hbr
    refine g_seq ?_
    refine g_region ?_
    refine l_assign rfl rfl ?_
    refine l_nil ?_
    refine g_ret Try.func35 rfl (.tmp rfl .nil) ?_
    (first | exact Gives.mki ⟨rfl, rfl⟩ | (exfalso; exact not_may hm (by omega) (by omega) (fun j hj => hok j (by omega))))
  intro hbr
  have hbr := of_decide_eq_false hbr
  refine g_skip ?_
  refine g_seq ?_
  refine g_seq ?_
  refine g_region ?_
  refine l_assign rfl rfl ?_
  refine l_nil ?_
  refine g_block ?_
  refine g_loop (X := Int) (fun i => 0 ≤ i ∧ i ≤ n ∧ ∀ j : Nat, (j : Int) < i → okW (wat L j)) (fun i => (n - i).toNat) (fun i => [(0, .slice a n c), (3, .int .i64 i)]) (fun i => F) 0 ⟨by omega, by omega, fun j hj => by omega⟩ (.cons rfl (.cons rfl (.nil))) (fun w hw => SPI.holds hw) ?_
  rintro i ⟨i0, i1, hok⟩ ih
  refine g_seq ?_
  refine g_seq ?_
  refine g_region ?_
  refine l_move rfl rfl ?_
  refine l_move rfl rfl ?_
  refine l_len rfl Try.underlying38 rfl ?_
  refine l_lss rfl rfl rfl ?_
  refine l_nil ?_
  refine g_cond rfl ?_ ?_
  · intro hbr
    have hbr := of_decide_eq_true hbr
    refine g_skip ?_
    refine g_seq ?_
    refine g_block ?_
    refine g_seq ?_
    refine g_region ?_
    refine l_move rfl rfl ?_
    refine l_move rfl rfl ?_
    have hIi := hI i.toNat (by omega)
    obtain ⟨b9, o9, rfl, hr9⟩ := hW.some (i := i.toNat) (by omega)
    refine l_ixs rfl Try.underlying38 Try.sizeOf40 rfl rfl (by omega) (by omega) ?_
    refine l_fieldAddr rfl fa_40_1 rfl ?_
    refine l_loadc rfl Try.isAgg3 rfl ((row_elem hr9.ex (win_len L) (win_at (i := i.toNat) (by omega))).cell (j := 1) (v := .int .i64 (wat L i.toNat).2.1) rfl) ?_
    refine l_lss rfl rfl rfl ?_
    refine l_move rfl rfl ?_
    refine l_split 24 rfl ?_ ?_
    · intro hbr
      have hbr := of_decide_eq_true hbr
      refine l_guard_no rfl rfl rfl ?_
      refine l_guard_no rfl rfl rfl ?_
      refine l_guard_no rfl rfl rfl ?_
      refine l_guard_no rfl rfl rfl ?_
      refine l_guard_no rfl rfl rfl ?_
      refine l_guard_no rfl rfl rfl ?_
      refine l_pick_t rfl rfl rfl ?_
      refine l_move rfl rfl ?_
      refine l_guard_no rfl rfl rfl ?_
      refine l_guard_no rfl rfl rfl ?_
      refine l_guard_no rfl rfl rfl ?_
      refine l_guard_no rfl rfl rfl ?_
      refine l_guard_no rfl rfl rfl ?_
      refine l_guard_no rfl rfl rfl ?_
      refine l_pick_t rfl rfl rfl ?_
      refine l_move rfl rfl ?_
      refine l_guard_no rfl rfl rfl ?_
      refine l_guard_no rfl rfl rfl ?_
      refine l_guard_no rfl rfl rfl ?_
      refine l_guard_no rfl rfl rfl ?_
      refine l_guard_no rfl rfl rfl ?_
      refine l_guard_no rfl rfl rfl ?_
      refine l_pick_t rfl rfl rfl ?_
      refine l_nil ?_
      first | refine g_cond_t rfl ?_ | refine g_cond_t (congrArg (fun b => some (Value.bool b)) (decide_eq_true hbr)) ?_
      refine g_seq ?_
      refine g_region ?_
      refine l_assign rfl rfl ?_
      refine l_nil ?_
      refine g_ret Try.func35 rfl (.tmp rfl .nil) ?_
      (first | exact Gives.mki ⟨rfl, rfl⟩ | (exfalso; exact not_may hm (by omega) (by omega) (fun j hj => hok j (by omega))))
    intro hbr
    have hbr := of_decide_eq_false hbr
    refine l_guard_yes rfl rfl ?_
    refine l_move rfl rfl ?_
    refine l_guard_yes rfl rfl ?_
    refine l_move rfl rfl ?_
    refine l_guard_yes rfl rfl ?_
    refine l_ixs rfl Try.underlying38 Try.sizeOf40 rfl rfl (by omega) (by omega) ?_
    refine l_guard_yes rfl rfl ?_
    refine l_fieldAddr rfl fa_40_1 rfl ?_
    refine l_guard_yes rfl rfl ?_
    refine l_loadc rfl Try.isAgg3 rfl ((row_elem hr9.ex (win_len L) (win_at (i := i.toNat) (by omega))).cell (j := 1) (v := .int .i64 (wat L i.toNat).2.1) rfl) ?_
    refine l_guard_yes rfl rfl ?_
    refine l_gtr rfl rfl rfl ?_
    refine l_pick_f rfl rfl rfl ?_
    refine l_move rfl rfl ?_
    refine l_split 32 rfl ?_ ?_
    · intro hbr
      have hbr := of_decide_eq_true hbr
      refine l_guard_no rfl rfl rfl ?_
      refine l_guard_no rfl rfl rfl ?_
      refine l_guard_no rfl rfl rfl ?_
      refine l_guard_no rfl rfl rfl ?_
      refine l_guard_no rfl rfl rfl ?_
      refine l_guard_no rfl rfl rfl ?_
      refine l_pick_t rfl rfl rfl ?_
      refine l_move rfl rfl ?_
      refine l_guard_no rfl rfl rfl ?_
      refine l_guard_no rfl rfl rfl ?_
      refine l_guard_no rfl rfl rfl ?_
      refine l_guard_no rfl rfl rfl ?_
      refine l_guard_no rfl rfl rfl ?_
      refine l_guard_no rfl rfl rfl ?_
      refine l_pick_t rfl rfl rfl ?_
      refine l_nil ?_
      first | refine g_cond_t rfl ?_ | refine g_cond_t (congrArg (fun b => some (Value.bool b)) (decide_eq_true hbr)) ?_
      refine g_seq ?_
      refine g_region ?_
      refine l_assign rfl rfl ?_
      refine l_nil ?_
      refine g_ret Try.func35 rfl (.tmp rfl .nil) ?_
      (first | exact Gives.mki ⟨rfl, rfl⟩ | (exfalso; exact not_may hm (by omega) (by omega) (fun j hj => hok j (by omega))))
    intro hbr
    have hbr := of_decide_eq_false hbr
    refine l_guard_yes rfl rfl ?_
    refine l_move rfl rfl ?_
    refine l_guard_yes rfl rfl ?_
    refine l_move rfl rfl ?_
    refine l_guard_yes rfl rfl ?_
    refine l_ixs rfl Try.underlying38 Try.sizeOf40 rfl rfl (by omega) (by omega) ?_
    refine l_guard_yes rfl rfl ?_
    refine l_fieldAddr rfl fa_40_2 rfl ?_
    refine l_guard_yes rfl rfl ?_
    refine l_loadc rfl Try.isAgg3 rfl ((row_elem hr9.ex (win_len L) (win_at (i := i.toNat) (by omega))).cell (j := 2) (v := .int .i64 (wat L i.toNat).2.2) rfl) ?_
    refine l_guard_yes rfl rfl ?_
    refine l_lss rfl rfl rfl ?_
    refine l_pick_f rfl rfl rfl ?_
    refine l_move rfl rfl ?_
    refine l_split 40 rfl ?_ ?_
    · intro hbr
      have hbr := of_decide_eq_true hbr
      refine l_guard_no rfl rfl rfl ?_
      refine l_guard_no rfl rfl rfl ?_
      refine l_guard_no rfl rfl rfl ?_
      refine l_guard_no rfl rfl rfl ?_
      refine l_guard_no rfl rfl rfl ?_
      refine l_guard_no rfl rfl rfl ?_
      refine l_pick_t rfl rfl rfl ?_
      refine l_nil ?_
      first | refine g_cond_t rfl ?_ | refine g_cond_t (congrArg (fun b => some (Value.bool b)) (decide_eq_true hbr)) ?_
      refine g_seq ?_
      refine g_region ?_
      refine l_assign rfl rfl ?_
      refine l_nil ?_
      refine g_ret Try.func35 rfl (.tmp rfl .nil) ?_
      (first | exact Gives.mki ⟨rfl, rfl⟩ | (exfalso; exact not_may hm (by omega) (by omega) (fun j hj => hok j (by omega))))
    intro hbr
    have hbr := of_decide_eq_false hbr
    refine l_guard_yes rfl rfl ?_
    refine l_move rfl rfl ?_
    refine l_guard_yes rfl rfl ?_
    refine l_move rfl rfl ?_
    refine l_guard_yes rfl rfl ?_
    refine l_ixs rfl Try.underlying38 Try.sizeOf40 rfl rfl (by omega) (by omega) ?_
    refine l_guard_yes rfl rfl ?_
    refine l_fieldAddr rfl fa_40_2 rfl ?_
    refine l_guard_yes rfl rfl ?_
    refine l_loadc rfl Try.isAgg3 rfl ((row_elem hr9.ex (win_len L) (win_at (i := i.toNat) (by omega))).cell (j := 2) (v := .int .i64 (wat L i.toNat).2.2) rfl) ?_
    refine l_guard_yes rfl rfl ?_
    refine l_gtr rfl rfl rfl ?_
    refine l_pick_f rfl rfl rfl ?_
    refine l_nil ?_
    refine g_cond rfl ?_ ?_
    · intro hbr
      have hbr := of_decide_eq_true hbr
      refine g_seq ?_
      refine g_region ?_
      refine l_assign rfl rfl ?_
      refine l_nil ?_
      refine g_ret Try.func35 rfl (.tmp rfl .nil) ?_
      (first | exact Gives.mki ⟨rfl, rfl⟩ | (exfalso; exact not_may hm (by omega) (by omega) (fun j hj => hok j (by omega))))
    intro hbr
    have hbr := of_decide_eq_false hbr
    refine g_skip ?_
    refine g_inBlock ?_
    refine g_region ?_
    refine l_move rfl rfl ?_
    first | refine l_add rfl rfl rfl (w_i64 (by omega) (by omega)) ?_ | refine l_addw rfl rfl rfl ?_
    refine l_assign rfl rfl ?_
    refine l_nil ?_
    exact g_againi (ih (i + 1) ⟨by omega, by omega, ok_next i0 hok (by unfold okW; omega)⟩ (by omega)) (.cons rfl (.cons rfl (.nil)))
  intro hbr
  have hbr := of_decide_eq_false hbr
  refine g_exit rfl ?_
  refine g_seq ?_
  refine g_region ?_
  refine l_assign rfl rfl ?_
  refine l_nil ?_
  refine g_ret Try.func35 rfl (.tmp rfl .nil) ?_
  (first | exact Gives.mki ⟨rfl, rfl⟩ | (exfalso; exact not_may hm (by omega) (by omega) (fun j hj => hok j (by omega))))
theorem begin_ok (w0 : World) (F : List Atom) (a : Option Addr) (n c : Nat) (L : List Win) (hW : WR w0 F a n L) (hn : n ≤ 9223372036854775807) (hm : May L) (k : Int) (k0 : 0 ≤ k) (k1 : k ≤ n) :
    CallK Try.prog 36 [.slice a n c, .int .i64 k] w0 (F) (Gives w0 fun v F2 => v = .int .i64 (bg L k.toNat) ∧ F2 = F) := by
  have hL := hW.1
  have hI := hW.2.1
  unfold I64 at hI
  obtain ⟨m1, m2, _⟩ := id hm
  refine c_enter Try.func36 rfl rfl rfl ?_
  refine g_seq ?_
  refine g_region ?_
  refine l_assign rfl rfl ?_
  refine l_nil ?_
  refine g_seq ?_
  refine g_region ?_
  refine l_assign rfl rfl ?_
  refine l_nil ?_
  refine g_seq ?_
  refine g_seq ?_
  refine g_region ?_
  refine l_assign rfl rfl ?_
  refine l_nil ?_
  refine g_block ?_
  refine g_loop (X := Int) (fun i => 0 ≤ i ∧ i ≤ k) (fun i => (k - i).toNat) (fun i => [(0, .slice a n c), (1, .int .i64 k), (5, .int .i64 (bg L i.toNat)), (6, .int .i64 i)]) (fun i => F) 0 (by omega) (.cons rfl (.cons rfl (.cons rfl (.cons rfl (.nil))))) (fun w hw => SPI.holds hw) ?_
  rintro i ⟨i0, i1⟩ ih
  have hb1 := bg_bound hm.2.2 i.toNat (by omega)
  have hb2 := fun h => hm.2.2 i.toNat h
  unfold okW at hb2
  refine g_seq ?_
  refine g_seq ?_
  refine g_region ?_
  refine l_move rfl rfl ?_
  refine l_move rfl rfl ?_
  refine l_lss rfl rfl rfl ?_
  refine l_nil ?_
  refine g_cond rfl ?_ ?_
  · intro hbr
    have hbr := of_decide_eq_true hbr
    refine g_skip ?_
    refine g_seq ?_
    refine g_block ?_
    refine gp_start mo (by kernel_rfl) (by kernel_rfl) ?_
    refine gp_quiet 0 rfl rfl rfl rfl rfl rfl (q_move rfl) ?_
    refine gp_quiet 1 rfl rfl rfl rfl rfl rfl (q_move rfl) ?_
    refine gp_quiet 2 rfl rfl rfl rfl rfl rfl (q_move rfl) ?_
    have hIi := hI i.toNat (by omega)
    obtain ⟨b9, o9, rfl, hr9⟩ := hW.some (i := i.toNat) (by omega)
    refine gp_quiet 3 rfl rfl rfl rfl rfl rfl (q_ixs Try.underlying38 Try.sizeOf40 rfl rfl (by omega) (by omega)) ?_
    refine gp_quiet 4 rfl rfl rfl rfl rfl rfl (q_fieldAddr fa_40_1 rfl) ?_
    refine gp_quiet 5 rfl rfl rfl rfl rfl rfl (q_loadc Try.isAgg3 rfl ((row_elem hr9.ex (win_len L) (win_at (i := i.toNat) (by omega))).cell (j := 1) (v := .int .i64 (wat L i.toNat).2.1) rfl)) ?_
    refine gp_quiet 6 rfl rfl rfl rfl rfl rfl (q_move rfl) ?_
    refine gp_quiet 7 rfl rfl rfl rfl rfl rfl (q_move rfl) ?_
    refine gp_quiet 8 rfl rfl rfl rfl rfl rfl (q_ixs Try.underlying38 Try.sizeOf40 rfl rfl (by omega) (by omega)) ?_
    refine gp_quiet 9 rfl rfl rfl rfl rfl rfl (q_fieldAddr fa_40_2 rfl) ?_
    refine gp_quiet 10 rfl rfl rfl rfl rfl rfl (q_loadc Try.isAgg3 rfl ((row_elem hr9.ex (win_len L) (win_at (i := i.toNat) (by omega))).cell (j := 2) (v := .int .i64 (wat L i.toNat).2.2) rfl)) ?_
    first | refine gp_quiet 11 rfl rfl rfl rfl rfl rfl (q_add rfl rfl (w_i64 (by omega) (by omega))) ?_ | refine gp_quiet 11 rfl rfl rfl rfl rfl rfl (q_addw rfl rfl) ?_
    first | refine gp_quiet 12 rfl rfl rfl rfl rfl rfl (q_add rfl rfl (w_i64 (by omega) (by omega))) ?_ | refine gp_quiet 12 rfl rfl rfl rfl rfl rfl (q_addw rfl rfl) ?_
    refine gp_after 13 rfl rfl rfl rfl rfl rfl rfl rfl (q_assign rfl) ?_
    refine gp_end rfl rfl ?_
    refine g_inBlock ?_
    refine g_region ?_
    refine l_move rfl rfl ?_
    first | refine l_add rfl rfl rfl (w_i64 (by omega) (by omega)) ?_ | refine l_addw rfl rfl rfl ?_
    refine l_assign rfl rfl ?_
    refine l_nil ?_
    have hbs := @bg_step L i.toNat
    rw [show i.toNat + 1 = (i + 1).toNat by omega] at hbs
    rw [← hbs]
    exact g_againi (ih (i + 1) (by omega) (by omega)) (.cons rfl (.cons rfl (.cons rfl (.cons rfl (.nil)))))
  intro hbr
  have hbr := of_decide_eq_false hbr
  refine g_exit rfl ?_
  obtain rfl : k = i := by omega
  refine g_seq ?_
  refine g_region ?_
  refine l_move rfl rfl ?_
  refine l_assign rfl rfl ?_
  refine l_nil ?_
  refine g_ret Try.func36 rfl (.tmp rfl .nil) ?_
  exact Gives.mki ⟨rfl, rfl⟩
end Go.Proofs.Ytfccfjgnoeocnaa.Fw
