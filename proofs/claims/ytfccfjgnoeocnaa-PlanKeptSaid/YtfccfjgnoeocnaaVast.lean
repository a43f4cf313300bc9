import Derived.Test.YtfccfjgnoeocnaaCfg
namespace Go.Proofs.Ytfccfjgnoeocnaa.Fw
open Go Go.Proofs
set_option linter.unusedVariables false
set_option linter.unusedSimpArgs false
set_option maxRecDepth 10000
theorem fa_27_4 (a : Addr) (w : World) : (Instr.fieldAt 27 (.pointer (some a)) 4).run Try.prog w = .ok (.pointer (some (a.add 4))) w := by
  simp [Instr.fieldAt, Try.runUnderlying27, Instr.sureAddr, fieldPlace, Try.sizeOf23, Sem.run_bind, Sem.run_pure]
theorem fa_27_5 (a : Addr) (w : World) : (Instr.fieldAt 27 (.pointer (some a)) 5).run Try.prog w = .ok (.pointer (some (a.add 5))) w := by
  simp [Instr.fieldAt, Try.runUnderlying27, Instr.sureAddr, fieldPlace, Try.sizeOf24, Sem.run_bind, Sem.run_pure]
theorem fa_27_6 (a : Addr) (w : World) : (Instr.fieldAt 27 (.pointer (some a)) 6).run Try.prog w = .ok (.pointer (some (a.add 6))) w := by
  simp [Instr.fieldAt, Try.runUnderlying27, Instr.sureAddr, fieldPlace, Try.sizeOf25, Sem.run_bind, Sem.run_pure]
theorem mo : Try.prog.follows .mixedOrders = true := by kernel_rfl
theorem fa_69_6 (a : Addr) (w : World) : (Instr.fieldAt 69 (.pointer (some a)) 6).run Try.prog w = .ok (.pointer (some (a.add 6))) w := by
  simp [Instr.fieldAt, Try.runUnderlying69, Instr.sureAddr, fieldPlace, Try.sizeOf66, Sem.run_bind, Sem.run_pure]
theorem fa_69_7 (a : Addr) (w : World) : (Instr.fieldAt 69 (.pointer (some a)) 7).run Try.prog w = .ok (.pointer (some (a.add 7))) w := by
  simp [Instr.fieldAt, Try.runUnderlying69, Instr.sureAddr, fieldPlace, Try.sizeOf67, Sem.run_bind, Sem.run_pure]
def PR (w0 : World) (F : List Atom) (a : Option Addr) (n : Nat) (rows : List (List Value)) : Prop := rows.length = n ∧ (∀ r ∈ rows, ∃ x0 x1 x2 x3 x4 x5 a6 n6 c6 a7 n7 c7, r = [x0, x1, x2, x3, x4, x5, .slice a6 n6 c6, .slice a7 n7 c7]) ∧ (n = 0 ∨ ∃ b o, a = some ⟨b, o, none⟩ ∧ RowAt w0 F b o rows.flatten)
theorem PR.ex {w0 : World} {F0 F : List Atom} {a n rows} (h : PR w0 F0 a n rows) [e : Ext F0 F] : PR w0 F a n rows := ⟨h.1, h.2.1, h.2.2.imp id fun ⟨b, o, h1, h2⟩ => ⟨b, o, h1, h2.ex⟩⟩
theorem PR.len {w0 : World} {F : List Atom} {a n rows} (h : PR w0 F a n rows) : ∀ r ∈ rows, r.length = 8 := by
  intro r hr
  obtain ⟨_, _, _, _, _, _, _, _, _, _, _, _, rfl⟩ := h.2.1 r hr
  rfl
theorem PR.some {w0 : World} {F : List Atom} {a n rows} (h : PR w0 F a n rows) {i : Nat} (hi : i < n) : ∃ b o, a = some ⟨b, o, none⟩ ∧ RowAt w0 F b o rows.flatten := by
  rcases h.2.2 with h | h
  · omega
  · exact h
theorem PR.at {w0 : World} {F : List Atom} {a n rows} (h : PR w0 F a n rows) {i : Nat} (hi : i < n) : ∃ x0 x1 x2 x3 x4 x5 a6 n6 c6 a7 n7 c7, rows[i]? = Option.some [x0, x1, x2, x3, x4, x5, .slice a6 n6 c6, .slice a7 n7 c7] := by
  have hl := h.1
  obtain ⟨x0, x1, x2, x3, x4, x5, a6, n6, c6, a7, n7, c7, hr⟩ := h.2.1 rows[i] (List.getElem_mem (by omega))
  exact ⟨x0, x1, x2, x3, x4, x5, a6, n6, c6, a7, n7, c7, by rw [List.getElem?_eq_getElem (by omega), hr]⟩
theorem vast_any (w0 : World) (F : List Atom) (fr mj kr rm : Int) (ca pa ha : Option Addr) (cn cc pn pc hn hc : Nat) (Ks : List CoreR) (hCR : CR w0 F ca cn Ks) (hcn : cn ≤ 9223372036854775807) (hpn : pn ≤ 9223372036854775807) (hmj : I64 mj) (rows : List (List Value)) (hPR : PR w0 F pa pn rows) :
    CallK Try.prog 12 [.agg [Value.int .i64 fr, .int .i64 mj, .int .i64 kr, .int .i64 rm, .slice ca cn cc, .slice pa pn pc, .slice ha hn hc].toArray] w0 (F) (Gives w0 fun v F2 => ∃ x, v = .bool x ∧ F2 = F) := by
  have hCl := hCR.1
  have hPl := hPR.1
  refine c_enter Try.func12 rfl rfl rfl ?_
  refine g_seq ?_
  refine g_region ?_
  refine l_boxs rfl rfl ?_; intro b1
  refine l_assign rfl rfl ?_
  refine l_nil ?_
  refine g_seq ?_
  refine g_region ?_
  refine l_fieldAddr rfl fa_27_4 rfl ?_
  refine l_ld rfl Try.isAgg23 rfl rfl ?_
  refine l_len rfl Try.underlying23 rfl ?_
  refine l_fieldAddr rfl fa_27_5 rfl ?_
  refine l_ld rfl Try.isAgg24 rfl rfl ?_
  refine l_len rfl Try.underlying24 rfl ?_
  first | refine l_add rfl rfl rfl (w_i64 (by omega) (by omega)) ?_ | refine l_addw rfl rfl rfl ?_
  refine l_fieldAddr rfl fa_27_6 rfl ?_
  refine l_ld rfl Try.isAgg25 rfl rfl ?_
  refine l_len rfl Try.underlying25 rfl ?_
  first | refine l_add rfl rfl rfl (w_i64 (by omega) (by omega)) ?_ | refine l_addw rfl rfl rfl ?_
  refine l_assign rfl rfl ?_
  refine l_nil ?_
  refine g_seq ?_
  refine g_seq ?_
  refine g_region ?_
  refine l_assign rfl rfl ?_
  refine l_nil ?_
  refine g_block ?_
  refine g_loop (X := Int × Int) (fun z => 0 ≤ z.1 ∧ z.1 ≤ cn) (fun z => (cn - z.1).toNat) (fun z => [(1, .pointer (some ⟨b1, 0, none⟩)), (3, .int .i64 z.2), (4, .int .i64 z.1)]) (fun z => Blk b1 (.cells [.int .i64 fr, .int .i64 mj, .int .i64 kr, .int .i64 rm, .slice ca cn cc, .slice pa pn pc, .slice ha hn hc].toArray 27 (0, 0)) :: F) (0, _) ⟨by simp only; omega, by simp only; omega⟩ (.cons rfl (.cons rfl (.cons rfl (.nil)))) (fun w hw => SPI.holds hw) ?_
  rintro ⟨i, m⟩ ⟨i0, i1⟩ ih
  dsimp only
  simp only at i0 i1
  obtain ⟨⟨a, n, c, L⟩, hk⟩ : ∃ K, kat Ks i.toNat = K := ⟨_, rfl⟩
  refine g_seq ?_
  refine g_seq ?_
  refine g_region ?_
  refine l_move rfl rfl ?_
  refine l_fieldAddr rfl fa_27_4 rfl ?_
  refine l_ld rfl Try.isAgg23 rfl rfl ?_
  refine l_len rfl Try.underlying23 rfl ?_
  refine l_lss rfl rfl rfl ?_
  refine l_move rfl rfl ?_
  refine l_split 22 rfl ?_ ?_
  · intro hbr
    have hbr := of_decide_eq_true hbr
    refine l_guard_yes rfl rfl ?_
    refine l_move rfl rfl ?_
    refine l_guard_yes rfl rfl ?_
    refine l_leq rfl rfl rfl ?_
    refine l_pick_t rfl rfl rfl ?_
    refine l_nil ?_
    refine g_cond rfl ?_ ?_
    · intro hbr
      have hbr := of_decide_eq_true hbr
      refine g_skip ?_
      refine g_seq ?_
      refine g_block ?_
      refine g_region ?_
      refine l_move rfl rfl ?_
      refine l_fieldAddr rfl fa_27_4 rfl ?_
      refine l_ld rfl Try.isAgg23 rfl rfl ?_
      refine l_move rfl rfl ?_
      obtain ⟨b8, o8, rfl, hr8⟩ := hCR.some (i := i.toNat) (by omega)
      refine l_ixs rfl Try.underlying23 Try.sizeOf38 rfl rfl (by omega) (by omega) ?_
      refine l_loadc rfl Try.isAgg38 rfl (core_cell hr8.ex hk (by omega)) ?_
      refine l_len rfl Try.underlying38 rfl ?_
      first | refine l_add rfl rfl rfl (w_i64 (by omega) (by omega)) ?_ | refine l_addw rfl rfl rfl ?_
      refine l_assign rfl rfl ?_
      refine l_nil ?_
      refine g_inBlock ?_
      refine g_region ?_
      refine l_move rfl rfl ?_
      first | refine l_add rfl rfl rfl (w_i64 (by omega) (by omega)) ?_ | refine l_addw rfl rfl rfl ?_
      refine l_assign rfl rfl ?_
      refine l_nil ?_
      exact g_againi (ih (i + 1, _) ⟨by simp only; omega, by simp only; omega⟩ (by simp only; omega)) (.cons rfl (.cons rfl (.cons rfl (.nil))))
    intro hbr
    have hbr := of_decide_eq_false hbr
    refine g_exit rfl ?_
    refine g_seq ?_
    refine g_seq ?_
    refine g_region ?_
    refine l_assign rfl rfl ?_
    refine l_nil ?_
    refine g_block ?_
    refine g_loop (X := Int × Int) (fun z => 0 ≤ z.1 ∧ z.1 ≤ pn) (fun z => (pn - z.1).toNat) (fun z => [(1, .pointer (some ⟨b1, 0, none⟩)), (3, .int .i64 z.2), (5, .int .i64 z.1)]) (fun z => Blk b1 (.cells [.int .i64 fr, .int .i64 mj, .int .i64 kr, .int .i64 rm, .slice ca cn cc, .slice pa pn pc, .slice ha hn hc].toArray 27 (0, 0)) :: F) (0, m) ⟨by simp only; omega, by simp only; omega⟩ (.cons rfl (.cons rfl (.cons rfl (.nil)))) (fun w hw => SPI.holds hw) ?_
    rintro ⟨j, m⟩ ⟨j0, j1⟩ ihj
    dsimp only
    simp only at j0 j1
    refine g_seq ?_
    refine g_seq ?_
    refine g_region ?_
    refine l_move rfl rfl ?_
    refine l_fieldAddr rfl fa_27_5 rfl ?_
    refine l_ld rfl Try.isAgg24 rfl rfl ?_
    refine l_len rfl Try.underlying24 rfl ?_
    refine l_lss rfl rfl rfl ?_
    refine l_move rfl rfl ?_
    refine l_split 41 rfl ?_ ?_
    · intro hbr
      have hbr := of_decide_eq_true hbr
      refine l_guard_yes rfl rfl ?_
      refine l_move rfl rfl ?_
      refine l_guard_yes rfl rfl ?_
      refine l_leq rfl rfl rfl ?_
      refine l_pick_t rfl rfl rfl ?_
      refine l_nil ?_
      refine g_cond rfl ?_ ?_
      · intro hbr
        have hbr := of_decide_eq_true hbr
        refine g_skip ?_
        refine g_seq ?_
        refine g_block ?_
        refine gp_start mo (by kernel_rfl) (by kernel_rfl) ?_
        refine gp_quiet 0 rfl rfl rfl rfl rfl rfl (q_move rfl) ?_
        refine gp_quiet 1 rfl rfl rfl rfl rfl rfl (q_fieldAddr fa_27_5 rfl) ?_
        refine gp_quiet 2 rfl rfl rfl rfl rfl rfl (q_ld Try.isAgg24 rfl rfl) ?_
        refine gp_quiet 3 rfl rfl rfl rfl rfl rfl (q_move rfl) ?_
        obtain ⟨b7, o7, rfl, hr7⟩ := hPR.some (i := j.toNat) (by omega)
        obtain ⟨x0, x1, x2, x3, x4, x5, a6, n6, c6, a7, n7, c7, hrow⟩ := hPR.at (i := j.toNat) (by omega)
        refine gp_quiet 4 rfl rfl rfl rfl rfl rfl (q_ixs Try.underlying24 Try.sizeOf69 rfl rfl (by omega) (by omega)) ?_
        refine gp_quiet 5 rfl rfl rfl rfl rfl rfl (q_fieldAddr fa_69_6 rfl) ?_
        refine gp_quiet 6 rfl rfl rfl rfl rfl rfl (q_loadc Try.isAgg66 rfl ((row_elem hr7.ex hPR.len hrow).cell (j := 6) (v := .slice a6 n6 c6) rfl)) ?_
        refine gp_quiet 7 rfl rfl rfl rfl rfl rfl (q_len Try.underlying66 rfl) ?_
        first | refine gp_quiet 8 rfl rfl rfl rfl rfl rfl (q_add rfl rfl (w_i64 (by omega) (by omega))) ?_ | refine gp_quiet 8 rfl rfl rfl rfl rfl rfl (q_addw rfl rfl) ?_
        refine gp_quiet 9 rfl rfl rfl rfl rfl rfl (q_fieldAddr fa_27_5 rfl) ?_
        refine gp_quiet 10 rfl rfl rfl rfl rfl rfl (q_ld Try.isAgg24 rfl rfl) ?_
        refine gp_quiet 11 rfl rfl rfl rfl rfl rfl (q_move rfl) ?_
        refine gp_quiet 12 rfl rfl rfl rfl rfl rfl (q_ixs Try.underlying24 Try.sizeOf69 rfl rfl (by omega) (by omega)) ?_
        refine gp_quiet 13 rfl rfl rfl rfl rfl rfl (q_fieldAddr fa_69_7 rfl) ?_
        refine gp_quiet 14 rfl rfl rfl rfl rfl rfl (q_loadc Try.isAgg67 rfl ((row_elem hr7.ex hPR.len hrow).cell (j := 7) (v := .slice a7 n7 c7) rfl)) ?_
        refine gp_quiet 15 rfl rfl rfl rfl rfl rfl (q_len Try.underlying67 rfl) ?_
        first | refine gp_quiet 16 rfl rfl rfl rfl rfl rfl (q_add rfl rfl (w_i64 (by omega) (by omega))) ?_ | refine gp_quiet 16 rfl rfl rfl rfl rfl rfl (q_addw rfl rfl) ?_
        refine gp_after 17 rfl rfl rfl rfl rfl rfl rfl rfl (q_assign rfl) ?_
        refine gp_end rfl rfl ?_
        refine g_inBlock ?_
        refine g_region ?_
        refine l_move rfl rfl ?_
        first | refine l_add rfl rfl rfl (w_i64 (by omega) (by omega)) ?_ | refine l_addw rfl rfl rfl ?_
        refine l_assign rfl rfl ?_
        refine l_nil ?_
        exact g_againi (ihj (j + 1, _) ⟨by simp only; omega, by simp only; omega⟩ (by simp only; omega)) (.cons rfl (.cons rfl (.cons rfl (.nil))))
      intro hbr
      have hbr := of_decide_eq_false hbr
      refine g_exit rfl ?_
      refine g_seq ?_
      refine g_region ?_
      refine l_move rfl rfl ?_
      refine l_gtr rfl rfl rfl ?_
      refine l_assign rfl rfl ?_
      refine l_nil ?_
      refine g_ret Try.func12 rfl (.tmp rfl .nil) ?_
      exact Gives.mki ⟨_, rfl, rfl⟩
    intro hbr
    have hbr := of_decide_eq_false hbr
    refine l_guard_no rfl rfl rfl ?_
    refine l_guard_no rfl rfl rfl ?_
    refine l_pick_f rfl rfl rfl ?_
    refine l_nil ?_
    first | refine g_cond_f rfl ?_ | refine g_cond_f (congrArg (fun b => some (Value.bool b)) (decide_eq_false hbr)) ?_
    refine g_exit rfl ?_
    refine g_seq ?_
    refine g_region ?_
    refine l_move rfl rfl ?_
    refine l_gtr rfl rfl rfl ?_
    refine l_assign rfl rfl ?_
    refine l_nil ?_
    refine g_ret Try.func12 rfl (.tmp rfl .nil) ?_
    exact Gives.mki ⟨_, rfl, rfl⟩
  intro hbr
  have hbr := of_decide_eq_false hbr
  refine l_guard_no rfl rfl rfl ?_
  refine l_guard_no rfl rfl rfl ?_
  refine l_pick_f rfl rfl rfl ?_
  refine l_nil ?_
  first | refine g_cond_f rfl ?_ | refine g_cond_f (congrArg (fun b => some (Value.bool b)) (decide_eq_false hbr)) ?_
  refine g_exit rfl ?_
  refine g_seq ?_
  refine g_seq ?_
  refine g_region ?_
  refine l_assign rfl rfl ?_
  refine l_nil ?_
  refine g_block ?_
  refine g_loop (X := Int × Int) (fun z => 0 ≤ z.1 ∧ z.1 ≤ pn) (fun z => (pn - z.1).toNat) (fun z => [(1, .pointer (some ⟨b1, 0, none⟩)), (3, .int .i64 z.2), (5, .int .i64 z.1)]) (fun z => Blk b1 (.cells [.int .i64 fr, .int .i64 mj, .int .i64 kr, .int .i64 rm, .slice ca cn cc, .slice pa pn pc, .slice ha hn hc].toArray 27 (0, 0)) :: F) (0, m) ⟨by simp only; omega, by simp only; omega⟩ (.cons rfl (.cons rfl (.cons rfl (.nil)))) (fun w hw => SPI.holds hw) ?_
  rintro ⟨j, m⟩ ⟨j0, j1⟩ ihj
  dsimp only
  simp only at j0 j1
  refine g_seq ?_
  refine g_seq ?_
  refine g_region ?_
  refine l_move rfl rfl ?_
  refine l_fieldAddr rfl fa_27_5 rfl ?_
  refine l_ld rfl Try.isAgg24 rfl rfl ?_
  refine l_len rfl Try.underlying24 rfl ?_
  refine l_lss rfl rfl rfl ?_
  refine l_move rfl rfl ?_
  refine l_split 41 rfl ?_ ?_
  · intro hbr
    have hbr := of_decide_eq_true hbr
    refine l_guard_yes rfl rfl ?_
    refine l_move rfl rfl ?_
    refine l_guard_yes rfl rfl ?_
    refine l_leq rfl rfl rfl ?_
    refine l_pick_t rfl rfl rfl ?_
    refine l_nil ?_
    refine g_cond rfl ?_ ?_
    · intro hbr
      have hbr := of_decide_eq_true hbr
      refine g_skip ?_
      refine g_seq ?_
      refine g_block ?_
      refine gp_start mo (by kernel_rfl) (by kernel_rfl) ?_
      refine gp_quiet 0 rfl rfl rfl rfl rfl rfl (q_move rfl) ?_
      refine gp_quiet 1 rfl rfl rfl rfl rfl rfl (q_fieldAddr fa_27_5 rfl) ?_
      refine gp_quiet 2 rfl rfl rfl rfl rfl rfl (q_ld Try.isAgg24 rfl rfl) ?_
      refine gp_quiet 3 rfl rfl rfl rfl rfl rfl (q_move rfl) ?_
      obtain ⟨b7, o7, rfl, hr7⟩ := hPR.some (i := j.toNat) (by omega)
      obtain ⟨x0, x1, x2, x3, x4, x5, a6, n6, c6, a7, n7, c7, hrow⟩ := hPR.at (i := j.toNat) (by omega)
      refine gp_quiet 4 rfl rfl rfl rfl rfl rfl (q_ixs Try.underlying24 Try.sizeOf69 rfl rfl (by omega) (by omega)) ?_
      refine gp_quiet 5 rfl rfl rfl rfl rfl rfl (q_fieldAddr fa_69_6 rfl) ?_
      refine gp_quiet 6 rfl rfl rfl rfl rfl rfl (q_loadc Try.isAgg66 rfl ((row_elem hr7.ex hPR.len hrow).cell (j := 6) (v := .slice a6 n6 c6) rfl)) ?_
      refine gp_quiet 7 rfl rfl rfl rfl rfl rfl (q_len Try.underlying66 rfl) ?_
      first | refine gp_quiet 8 rfl rfl rfl rfl rfl rfl (q_add rfl rfl (w_i64 (by omega) (by omega))) ?_ | refine gp_quiet 8 rfl rfl rfl rfl rfl rfl (q_addw rfl rfl) ?_
      refine gp_quiet 9 rfl rfl rfl rfl rfl rfl (q_fieldAddr fa_27_5 rfl) ?_
      refine gp_quiet 10 rfl rfl rfl rfl rfl rfl (q_ld Try.isAgg24 rfl rfl) ?_
      refine gp_quiet 11 rfl rfl rfl rfl rfl rfl (q_move rfl) ?_
      refine gp_quiet 12 rfl rfl rfl rfl rfl rfl (q_ixs Try.underlying24 Try.sizeOf69 rfl rfl (by omega) (by omega)) ?_
      refine gp_quiet 13 rfl rfl rfl rfl rfl rfl (q_fieldAddr fa_69_7 rfl) ?_
      refine gp_quiet 14 rfl rfl rfl rfl rfl rfl (q_loadc Try.isAgg67 rfl ((row_elem hr7.ex hPR.len hrow).cell (j := 7) (v := .slice a7 n7 c7) rfl)) ?_
      refine gp_quiet 15 rfl rfl rfl rfl rfl rfl (q_len Try.underlying67 rfl) ?_
      first | refine gp_quiet 16 rfl rfl rfl rfl rfl rfl (q_add rfl rfl (w_i64 (by omega) (by omega))) ?_ | refine gp_quiet 16 rfl rfl rfl rfl rfl rfl (q_addw rfl rfl) ?_
      refine gp_after 17 rfl rfl rfl rfl rfl rfl rfl rfl (q_assign rfl) ?_
      refine gp_end rfl rfl ?_
      refine g_inBlock ?_
      refine g_region ?_
      refine l_move rfl rfl ?_
      first | refine l_add rfl rfl rfl (w_i64 (by omega) (by omega)) ?_ | refine l_addw rfl rfl rfl ?_
      refine l_assign rfl rfl ?_
      refine l_nil ?_
      exact g_againi (ihj (j + 1, _) ⟨by simp only; omega, by simp only; omega⟩ (by simp only; omega)) (.cons rfl (.cons rfl (.cons rfl (.nil))))
    intro hbr
    have hbr := of_decide_eq_false hbr
    refine g_exit rfl ?_
    refine g_seq ?_
    refine g_region ?_
    refine l_move rfl rfl ?_
    refine l_gtr rfl rfl rfl ?_
    refine l_assign rfl rfl ?_
    refine l_nil ?_
    refine g_ret Try.func12 rfl (.tmp rfl .nil) ?_
    exact Gives.mki ⟨_, rfl, rfl⟩
  intro hbr
  have hbr := of_decide_eq_false hbr
  refine l_guard_no rfl rfl rfl ?_
  refine l_guard_no rfl rfl rfl ?_
  refine l_pick_f rfl rfl rfl ?_
  refine l_nil ?_
  first | refine g_cond_f rfl ?_ | refine g_cond_f (congrArg (fun b => some (Value.bool b)) (decide_eq_false hbr)) ?_
  refine g_exit rfl ?_
  refine g_seq ?_
  refine g_region ?_
  refine l_move rfl rfl ?_
  refine l_gtr rfl rfl rfl ?_
  refine l_assign rfl rfl ?_
  refine l_nil ?_
  refine g_ret Try.func12 rfl (.tmp rfl .nil) ?_
  exact Gives.mki ⟨_, rfl, rfl⟩
end Go.Proofs.Ytfccfjgnoeocnaa.Fw
