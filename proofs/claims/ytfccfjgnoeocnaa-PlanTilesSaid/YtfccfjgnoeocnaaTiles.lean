import Derived.Test.YtfccfjgnoeocnaaAwake
import Derived.Test.YtfccfjgnoeocnaaArgs
import Derived.Test.YtfccfjgnoeocnaaFw16
namespace Go.Proofs.Ytfccfjgnoeocnaa.Fw
open Go Go.Proofs
set_option linter.unusedVariables false
set_option linter.unusedSimpArgs false
set_option maxRecDepth 10000
theorem fa_30_0 (a : Addr) (w : World) : (Instr.fieldAt 30 (.pointer (some a)) 0).run Try.prog w = .ok (.pointer (some (a.add 0))) w := by
  simp [Instr.fieldAt, Try.runUnderlying30, Instr.sureAddr, fieldPlace, Try.sizeOf3, Sem.run_bind, Sem.run_pure]
theorem fa_30_2 (a : Addr) (w : World) : (Instr.fieldAt 30 (.pointer (some a)) 2).run Try.prog w = .ok (.pointer (some (a.add 2))) w := by
  simp [Instr.fieldAt, Try.runUnderlying30, Instr.sureAddr, fieldPlace, Try.sizeOf3, Sem.run_bind, Sem.run_pure]
theorem fa_30_3 (a : Addr) (w : World) : (Instr.fieldAt 30 (.pointer (some a)) 3).run Try.prog w = .ok (.pointer (some (a.add 3))) w := by
  simp [Instr.fieldAt, Try.runUnderlying30, Instr.sureAddr, fieldPlace, Try.sizeOf3, Sem.run_bind, Sem.run_pure]
theorem fa_30_1 (a : Addr) (w : World) : (Instr.fieldAt 30 (.pointer (some a)) 1).run Try.prog w = .ok (.pointer (some (a.add 1))) w := by
  simp [Instr.fieldAt, Try.runUnderlying30, Instr.sureAddr, fieldPlace, Try.sizeOf3, Sem.run_bind, Sem.run_pure]
theorem bgs_cellj {w0 : World} {F : List Atom} {g n cap E : Nat} {L : List Win} [h : OwnIn F g E 1 n cap (ints .i64 (bgs L n))] {j : Nat} (hj : j < n) : CellAt w0 F g (0 + (j : Int).toNat * 1) (.int .i64 (bg L j)) := by
  rw [Int.toNat_natCast]; exact bgs_cell hj
theorem win_cellj {w0 : World} {F0 F : List Atom} {b o i : Nat} {L : List Win} (h : RowAt w0 F0 b o (L.map winRow).flatten) [e : Ext F0 F] (hi : i < L.length) (j : Nat) {v : Value} (hv : (winRow (wat L i))[j]? = some v) : CellAt w0 F b (o + (i : Int).toNat * 3 + j) v := by
  rw [Int.toNat_natCast]; exact (row_elem h.ex (win_len L) (win_at hi)).cell hv
theorem found_of {L : List Win} : ∀ {n : Nat} {t : Int}, 0 ≤ t → t < bg L n → ∃ j, j < n ∧ bg L j ≤ t ∧ t < bg L (j + 1)
  | 0, t, h0, h1 => by simp only [bg] at h1; omega
  | n + 1, t, h0, h1 => by
    by_cases h : t < bg L n
    · obtain ⟨j, h2, h3⟩ := found_of h0 h
      exact ⟨j, by omega, h3⟩
    · exact ⟨n, by omega, by omega, h1⟩
theorem tiles_out (w0 : World) (F : List Atom) (fr mj kr rm : Int) (ca pa ha : Option Addr) (cn cc pn pc hn hc : Nat) (Ks : List CoreR) (hCR : CR w0 F ca cn Ks) (hcn : cn ≤ 9223372036854775807) (hpn : pn ≤ 9223372036854775807) (hmj : I64 mj) (core : Int) (q0 : -9223372036854775808 ≤ core) (q1 : core ≤ 9223372036854775807) (time : Int) (t0 : -9223372036854775808 ≤ time) (t1 : time ≤ 9223372036854775807) (rows : List (List Value)) (hPR : PR w0 F pa pn rows) (ho : core < 0 ∨ cn ≤ core) :
    CallK Try.prog 5 [.agg [Value.int .i64 fr, .int .i64 mj, .int .i64 kr, .int .i64 rm, .slice ca cn cc, .slice pa pn pc, .slice ha hn hc].toArray, .int .i64 core, .int .i64 time] w0 (F) (Gives w0 fun v F2 => v = .bool true ∧ F2 = F) := by
  have hCl := hCR.1
  refine c_enter Try.func5 rfl rfl rfl ?_
  refine g_seq ?_
  refine g_region ?_
  refine l_boxs rfl rfl ?_; intro b3
  refine l_assign rfl rfl ?_
  refine l_nil ?_
  refine g_seq ?_
  refine g_seq ?_
  refine g_region ?_
  refine l_lds rfl Try.isAgg27 Try.sizeOf27 rfl rfl ?_
  refine l_call rfl Try.call12 rfl (vast_any _ _ fr mj kr rm ca pa ha cn cc pn pc hn hc Ks hCR.ex hcn hpn hmj rows hPR.ex) ?_; rintro _ _ ⟨x9, rfl, rfl⟩
  refine l_nil ?_
  refine g_cond rfl ?_ ?_
  · intro hbr
    refine g_seq ?_
    refine g_region ?_
    refine l_assign rfl rfl ?_
    refine l_nil ?_
    refine g_ret Try.func5 rfl (.tmp rfl .nil) ?_
    exact Gives.mki ⟨rfl, rfl⟩
  intro hbr
  refine g_skip ?_
  refine g_seq ?_
  refine g_region ?_
  refine l_lds rfl Try.isAgg27 Try.sizeOf27 rfl rfl ?_
  refine l_move rfl rfl ?_
  refine l_call rfl Try.call15 rfl (starts_out _ _ fr mj kr rm ca pa ha cn cc pn pc hn hc Ks hCR.ex hcn hpn hmj core q0 q1 ho) ?_; rintro _ _ ⟨rfl, rfl⟩
  refine l_move rfl rfl ?_
  refine l_extract rfl rfl rfl ?_
  refine l_extract rfl rfl rfl ?_
  refine l_assign rfl rfl ?_
  refine l_assign rfl rfl ?_
  refine l_nil ?_
  refine g_seq ?_
  refine g_region ?_
  refine l_lds rfl Try.isAgg27 Try.sizeOf27 rfl rfl ?_
  refine l_move rfl rfl ?_
  refine l_move rfl rfl ?_
  refine l_call rfl Try.call13 rfl (at_out _ _ fr mj kr rm ca pa ha cn cc pn pc hn hc Ks hCR.ex hcn hpn hmj core q0 q1 time t0 t1 ho) ?_; rintro _ _ ⟨rfl, rfl⟩
  refine l_move rfl rfl ?_
  refine l_extract rfl rfl rfl ?_
  refine l_extract rfl rfl rfl ?_
  refine l_allocs rfl Try.zeroValue30 ?_; intro b9
  refine l_sts Try.sizeOf30 rfl rfl rfl rfl rfl ?_
  refine l_assign rfl rfl ?_
  refine l_nil ?_
  refine g_seq ?_
  refine g_seq ?_
  refine g_region ?_
  refine l_move rfl rfl ?_
  refine l_neq rfl rfl rfl ?_
  refine l_nil ?_
  refine g_cond rfl ?_ ?_
  · intro hbr
    have hbr := of_decide_eq_true hbr
    refine g_seq ?_
    refine g_region ?_
    refine l_move rfl rfl ?_
    refine l_move rfl rfl ?_
    refine l_eql rfl rfl rfl ?_
    refine l_move rfl rfl ?_
    refine l_split 34 rfl ?_ ?_
    · intro hbr
      have hbr := of_decide_eq_true hbr
      refine l_guard_yes rfl rfl ?_
      refine l_call rfl Try.call11 rfl (awake_ok _ _) ?_; rintro _ _ ⟨rfl, rfl⟩
      refine l_pick_t rfl rfl rfl ?_
      refine l_assign rfl rfl ?_
      refine l_nil ?_
      refine g_ret Try.func5 rfl (.tmp rfl .nil) ?_
      exact Gives.mki ⟨rfl, rfl⟩
    · intro hbr
      have hbr := of_decide_eq_false hbr
      (exfalso; omega)
  · intro hbr
    have hbr := of_decide_eq_false hbr
    (exfalso; omega)
theorem tiles_bad (w0 : World) (F : List Atom) (fr mj kr rm : Int) (ca pa ha : Option Addr) (cn cc pn pc hn hc : Nat) (Ks : List CoreR) (hCR : CR w0 F ca cn Ks) (hcn : cn ≤ 9223372036854775807) (hpn : pn ≤ 9223372036854775807) (hmj : I64 mj) (core : Int) (q0 : -9223372036854775808 ≤ core) (q1 : core ≤ 9223372036854775807) (time : Int) (t0 : -9223372036854775808 ≤ time) (t1 : time ≤ 9223372036854775807) (rows : List (List Value)) (hPR : PR w0 F pa pn rows) (ho : 0 ≤ core ∧ core < cn) (a : Option Addr) (n c : Nat) (L : List Win) (hk : kat Ks core.toNat = ⟨a, n, c, L⟩) (hm : ¬ May L) :
    CallK Try.prog 5 [.agg [Value.int .i64 fr, .int .i64 mj, .int .i64 kr, .int .i64 rm, .slice ca cn cc, .slice pa pn pc, .slice ha hn hc].toArray, .int .i64 core, .int .i64 time] w0 (F) (Gives w0 fun v F2 => v = .bool true ∧ F2 = F) := by
  have hCl := hCR.1
  have hCl := hCR.1
  obtain ⟨hW, hn9⟩ := hCR.ok hk (by omega)
  have hL := hW.1
  have hI := hW.2.1
  unfold I64 at hI
  refine c_enter Try.func5 rfl rfl rfl ?_
  refine g_seq ?_
  refine g_region ?_
  refine l_boxs rfl rfl ?_; intro b3
  refine l_assign rfl rfl ?_
  refine l_nil ?_
  refine g_seq ?_
  refine g_seq ?_
  refine g_region ?_
  refine l_lds rfl Try.isAgg27 Try.sizeOf27 rfl rfl ?_
  refine l_call rfl Try.call12 rfl (vast_any _ _ fr mj kr rm ca pa ha cn cc pn pc hn hc Ks hCR.ex hcn hpn hmj rows hPR.ex) ?_; rintro _ _ ⟨x9, rfl, rfl⟩
  refine l_nil ?_
  refine g_cond rfl ?_ ?_
  · intro hbr
    refine g_seq ?_
    refine g_region ?_
    refine l_assign rfl rfl ?_
    refine l_nil ?_
    refine g_ret Try.func5 rfl (.tmp rfl .nil) ?_
    exact Gives.mki ⟨rfl, rfl⟩
  intro hbr
  refine g_skip ?_
  refine g_seq ?_
  refine g_region ?_
  refine l_lds rfl Try.isAgg27 Try.sizeOf27 rfl rfl ?_
  refine l_move rfl rfl ?_
  refine l_call rfl Try.call15 rfl (starts_bad _ _ fr mj kr rm ca pa ha cn cc pn pc hn hc Ks hCR.ex hcn hpn hmj core q0 q1 ho a n c L hk hm) ?_; rintro _ _ ⟨rfl, rfl⟩
  refine l_move rfl rfl ?_
  refine l_extract rfl rfl rfl ?_
  refine l_extract rfl rfl rfl ?_
  refine l_assign rfl rfl ?_
  refine l_assign rfl rfl ?_
  refine l_nil ?_
  refine g_seq ?_
  refine g_region ?_
  refine l_lds rfl Try.isAgg27 Try.sizeOf27 rfl rfl ?_
  refine l_move rfl rfl ?_
  refine l_move rfl rfl ?_
  refine l_call rfl Try.call13 rfl (at_bad _ _ fr mj kr rm ca pa ha cn cc pn pc hn hc Ks hCR.ex hcn hpn hmj core q0 q1 time t0 t1 ho a n c L hk hm) ?_; rintro _ _ ⟨rfl, rfl⟩
  refine l_move rfl rfl ?_
  refine l_extract rfl rfl rfl ?_
  refine l_extract rfl rfl rfl ?_
  refine l_allocs rfl Try.zeroValue30 ?_; intro b9
  refine l_sts Try.sizeOf30 rfl rfl rfl rfl rfl ?_
  refine l_assign rfl rfl ?_
  refine l_nil ?_
  refine g_seq ?_
  refine g_seq ?_
  refine g_region ?_
  refine l_move rfl rfl ?_
  refine l_neq rfl rfl rfl ?_
  refine l_nil ?_
  refine g_cond rfl ?_ ?_
  · intro hbr
    have hbr := of_decide_eq_true hbr
    refine g_seq ?_
    refine g_region ?_
    refine l_move rfl rfl ?_
    refine l_move rfl rfl ?_
    refine l_eql rfl rfl rfl ?_
    refine l_move rfl rfl ?_
    refine l_split 34 rfl ?_ ?_
    · intro hbr
      have hbr := of_decide_eq_true hbr
      refine l_guard_yes rfl rfl ?_
      refine l_call rfl Try.call11 rfl (awake_ok _ _) ?_; rintro _ _ ⟨rfl, rfl⟩
      refine l_pick_t rfl rfl rfl ?_
      refine l_assign rfl rfl ?_
      refine l_nil ?_
      refine g_ret Try.func5 rfl (.tmp rfl .nil) ?_
      exact Gives.mki ⟨rfl, rfl⟩
    · intro hbr
      have hbr := of_decide_eq_false hbr
      (exfalso; omega)
  · intro hbr
    have hbr := of_decide_eq_false hbr
    (exfalso; omega)
theorem tiles_found (w0 : World) (F : List Atom) (fr mj kr rm : Int) (ca pa ha : Option Addr) (cn cc pn pc hn hc : Nat) (Ks : List CoreR) (hCR : CR w0 F ca cn Ks) (hcn : cn ≤ 9223372036854775807) (hpn : pn ≤ 9223372036854775807) (hmj : I64 mj) (core : Int) (q0 : -9223372036854775808 ≤ core) (q1 : core ≤ 9223372036854775807) (time : Int) (t0 : -9223372036854775808 ≤ time) (t1 : time ≤ 9223372036854775807) (rows : List (List Value)) (hPR : PR w0 F pa pn rows) (ho : 0 ≤ core ∧ core < cn) (a : Option Addr) (n c : Nat) (L : List Win) (hk : kat Ks core.toNat = ⟨a, n, c, L⟩) (hm : May L) (j : Nat) (hj : j < n) (hlo : bg L j ≤ time) (hhi : time < bg L (j + 1)) :
    CallK Try.prog 5 [.agg [Value.int .i64 fr, .int .i64 mj, .int .i64 kr, .int .i64 rm, .slice ca cn cc, .slice pa pn pc, .slice ha hn hc].toArray, .int .i64 core, .int .i64 time] w0 (F) (Gives w0 fun v F2 => v = .bool true ∧ F2 = F) := by
  have hCl := hCR.1
  have hCl := hCR.1
  obtain ⟨hW, hn9⟩ := hCR.ok hk (by omega)
  have hL := hW.1
  have hI := hW.2.1
  unfold I64 at hI
  obtain ⟨m1, m2, _⟩ := id hm
  have hj2 := bg_bound hm.2.2 j (by omega)
  have hj3 := hm.2.2 j (by omega)
  unfold okW at hj3
  have hjs := @bg_step L j
  have hjI := hI j hj
  have hjm : bg L (j + 1) ≤ bg L n := bg_mono hm.2.2 (by omega) (by omega)
  refine c_enter Try.func5 rfl rfl rfl ?_
  refine g_seq ?_
  refine g_region ?_
  refine l_boxs rfl rfl ?_; intro b3
  refine l_assign rfl rfl ?_
  refine l_nil ?_
  refine g_seq ?_
  refine g_seq ?_
  refine g_region ?_
  refine l_lds rfl Try.isAgg27 Try.sizeOf27 rfl rfl ?_
  refine l_call rfl Try.call12 rfl (vast_any _ _ fr mj kr rm ca pa ha cn cc pn pc hn hc Ks hCR.ex hcn hpn hmj rows hPR.ex) ?_; rintro _ _ ⟨x9, rfl, rfl⟩
  refine l_nil ?_
  refine g_cond rfl ?_ ?_
  · intro hbr
    refine g_seq ?_
    refine g_region ?_
    refine l_assign rfl rfl ?_
    refine l_nil ?_
    refine g_ret Try.func5 rfl (.tmp rfl .nil) ?_
    exact Gives.mki ⟨rfl, rfl⟩
  intro hbr
  refine g_skip ?_
  refine g_seq ?_
  refine g_region ?_
  refine l_lds rfl Try.isAgg27 Try.sizeOf27 rfl rfl ?_
  refine l_move rfl rfl ?_
  refine l_call rfl Try.call15 rfl (starts_ok _ _ fr mj kr rm ca pa ha cn cc pn pc hn hc Ks hCR.ex hcn hpn hmj core q0 q1 ho a n c L hk hm) ?_; rintro _ _ ⟨g, cg, rfl, hcg, rfl⟩
  refine l_move rfl rfl ?_
  refine l_extract rfl rfl rfl ?_
  refine l_extract rfl rfl rfl ?_
  refine l_assign rfl rfl ?_
  refine l_assign rfl rfl ?_
  refine l_nil ?_
  refine g_seq ?_
  refine g_region ?_
  refine l_lds rfl Try.isAgg27 Try.sizeOf27 rfl rfl ?_
  refine l_move rfl rfl ?_
  refine l_move rfl rfl ?_
  refine l_call rfl Try.call13 rfl (at_found _ _ fr mj kr rm ca pa ha cn cc pn pc hn hc Ks hCR.ex hcn hpn hmj core q0 q1 time t0 t1 ho a n c L hk hm j hj hlo hhi) ?_; rintro _ _ ⟨rfl, rfl⟩
  refine l_move rfl rfl ?_
  refine l_extract rfl rfl rfl ?_
  refine l_extract rfl rfl rfl ?_
  refine l_allocs rfl Try.zeroValue30 ?_; intro b9
  refine l_sts Try.sizeOf30 rfl rfl rfl rfl rfl ?_
  refine l_assign rfl rfl ?_
  refine l_nil ?_
  refine g_seq ?_
  refine g_seq ?_
  refine g_region ?_
  refine l_move rfl rfl ?_
  refine l_neq rfl rfl rfl ?_
  refine l_nil ?_
  refine g_cond rfl ?_ ?_
  · intro hbr
    have hbr := of_decide_eq_true hbr
    (exfalso; omega)
  intro hbr
  have hbr := of_decide_eq_false hbr
  refine g_skip ?_
  refine g_seq ?_
  refine g_seq ?_
  refine g_region ?_
  refine l_move rfl rfl ?_
  refine l_lss rfl rfl rfl ?_
  refine l_move rfl rfl ?_
  refine l_split 39 rfl ?_ ?_
  · intro hbr
    have hbr := of_decide_eq_true hbr
    (exfalso; omega)
  intro hbr
  have hbr := of_decide_eq_false hbr
  refine l_guard_yes rfl rfl ?_
  refine l_move rfl rfl ?_
  refine l_guard_yes rfl rfl ?_
  refine l_fieldAddr rfl fa_27_4 rfl ?_
  refine l_guard_yes rfl rfl ?_
  refine l_ld rfl Try.isAgg23 rfl rfl ?_
  refine l_guard_yes rfl rfl ?_
  refine l_len rfl Try.underlying23 rfl ?_
  refine l_guard_yes rfl rfl ?_
  refine l_geq rfl rfl rfl ?_
  refine l_pick_f rfl rfl rfl ?_
  refine l_move rfl rfl ?_
  refine l_split 46 rfl ?_ ?_
  · intro hbr
    have hbr := of_decide_eq_true hbr
    (exfalso; omega)
  intro hbr
  have hbr := of_decide_eq_false hbr
  refine l_guard_yes rfl rfl ?_
  refine l_move rfl rfl ?_
  refine l_guard_yes rfl rfl ?_
  refine l_len rfl Try.underlying35 rfl ?_
  refine l_guard_yes rfl rfl ?_
  refine l_fieldAddr rfl fa_27_4 rfl ?_
  refine l_guard_yes rfl rfl ?_
  refine l_ld rfl Try.isAgg23 rfl rfl ?_
  refine l_guard_yes rfl rfl ?_
  refine l_move rfl rfl ?_
  refine l_guard_yes rfl rfl ?_
  obtain ⟨b8, o8, rfl, hr8⟩ := hCR.some (i := core.toNat) (by omega)
  refine l_ixs rfl Try.underlying23 Try.sizeOf38 rfl rfl (by omega) (by omega) ?_
  refine l_guard_yes rfl rfl ?_
  refine l_loadc rfl Try.isAgg38 rfl (core_cell hr8.ex hk (by omega)) ?_
  refine l_guard_yes rfl rfl ?_
  refine l_len rfl Try.underlying38 rfl ?_
  refine l_guard_yes rfl rfl ?_
  refine l_neq rfl rfl rfl ?_
  refine l_pick_f rfl rfl rfl ?_
  refine l_nil ?_
  refine g_cond rfl ?_ ?_
  · intro hbr
    have hbr := of_decide_eq_true hbr
    (exfalso; omega)
  intro hbr
  have hbr := of_decide_eq_false hbr
  refine g_skip ?_
  refine g_seq ?_
  refine g_region ?_
  refine l_fieldAddr rfl fa_27_4 rfl ?_
  refine l_ld rfl Try.isAgg23 rfl rfl ?_
  refine l_move rfl rfl ?_
  refine l_ixs rfl Try.underlying23 Try.sizeOf38 rfl rfl (by omega) (by omega) ?_
  refine l_loadc rfl Try.isAgg38 rfl (core_cell hr8.ex hk (by omega)) ?_
  refine l_assign rfl rfl ?_
  refine l_nil ?_
  refine g_seq ?_
  refine g_region ?_
  refine l_assign rfl rfl ?_
  refine l_nil ?_
  refine g_seq ?_
  refine g_seq ?_
  refine g_region ?_
  refine l_assign rfl rfl ?_
  refine l_nil ?_
  refine g_block ?_
  refine g_loopc (X := Int) [(2, _), (7, _), (9, _), (10, _), (11, _)] (.cons rfl (.cons rfl (.cons rfl (.cons rfl (.cons rfl (.nil)))))) (fun i => 0 ≤ i ∧ i ≤ n) (fun i => (n - i).toNat) (fun i => [(12, .int .i64 (bg L i.toNat)), (13, .int .i64 i)]) (0) (by omega) (.cons rfl (.cons rfl (.nil))) ?_
  rintro i ⟨i0, i1⟩ ih
  dsimp only [List.cons_append, List.nil_append] at ih ⊢
  have hb1 := bg_bound hm.2.2 i.toNat (by omega)
  have hb2 := fun h => hm.2.2 i.toNat h
  unfold okW at hb2
  have hbs := @bg_step L i.toNat
  refine g_seq ?_
  refine g_seq ?_
  refine g_region ?_
  refine l_move rfl rfl ?_
  refine l_move rfl rfl ?_
  refine l_len rfl Try.underlying35 rfl ?_
  refine l_lss rfl rfl rfl ?_
  refine l_nil ?_
  refine g_cond rfl ?_ ?_
  · intro hbr
    have hbr := of_decide_eq_true hbr
    refine g_skip ?_
    refine g_seq ?_
    refine g_block ?_
    refine g_seq ?_
    refine g_seq ?_
    refine g_region ?_
    refine l_move rfl rfl ?_
    refine l_move rfl rfl ?_
    refine l_ixs rfl Try.underlying35 Try.sizeOf3 rfl rfl (by omega) (by omega) ?_
    refine l_loadc rfl Try.isAgg3 rfl (bgs_cell (L := L) (n := n) (by omega)) ?_
    refine l_move rfl rfl ?_
    refine l_neq rfl rfl rfl ?_
    refine l_nil ?_
    refine g_cond rfl ?_ ?_
    · intro hbr
      have hbr := of_decide_eq_true hbr
      (exfalso; omega)
    intro hbr
    have hbr := of_decide_eq_false hbr
    refine g_skip ?_
    refine gp_start mo (by kernel_rfl) (by kernel_rfl) ?_
    refine gp_quiet 0 rfl rfl rfl rfl rfl rfl (q_move rfl) ?_
    refine gp_quiet 1 rfl rfl rfl rfl rfl rfl (q_move rfl) ?_
    refine gp_quiet 2 rfl rfl rfl rfl rfl rfl (q_move rfl) ?_
    have hIi := hI i.toNat (by omega)
    obtain ⟨b9, o9, rfl, hr9⟩ := hW.some (i := i.toNat) (by omega)
    refine gp_quiet 3 rfl rfl rfl rfl rfl rfl (q_ixs Try.underlying38 Try.sizeOf40 rfl rfl (by omega) (by omega)) ?_
    refine gp_quiet 4 rfl rfl rfl rfl rfl rfl (q_fieldAddr fa_40_1 rfl) ?_
    refine gp_quiet 5 rfl rfl rfl rfl rfl rfl (q_loadc Try.isAgg3 rfl ((row_elem hr9.ex (win_len L) (win_at (i := i.toNat) (by omega))).cell (j := 1) (v := .int .i64 (wat L i.toNat).2.1) rfl)) ?_
    refine gp_quiet 6 rfl rfl rfl rfl rfl rfl (q_move rfl) ?_
    refine gp_quiet 7 rfl rfl rfl rfl rfl rfl (q_move rfl) ?_
    refine gp_quiet 8 rfl rfl rfl rfl rfl rfl (q_ixs Try.underlying38 Try.sizeOf40 rfl rfl (by omega) (by omega)) ?_
    refine gp_quiet 9 rfl rfl rfl rfl rfl rfl (q_fieldAddr fa_40_2 rfl) ?_
    refine gp_quiet 10 rfl rfl rfl rfl rfl rfl (q_loadc Try.isAgg3 rfl ((row_elem hr9.ex (win_len L) (win_at (i := i.toNat) (by omega))).cell (j := 2) (v := .int .i64 (wat L i.toNat).2.2) rfl)) ?_
    first | refine gp_quiet 11 rfl rfl rfl rfl rfl rfl (q_add rfl rfl (w_i64 (by omega) (by omega))) ?_ | refine gp_quiet 11 rfl rfl rfl rfl rfl rfl (q_addw rfl rfl) ?_
    first | refine gp_quiet 12 rfl rfl rfl rfl rfl rfl (q_add rfl rfl (w_i64 (by omega) (by omega))) ?_ | refine gp_quiet 12 rfl rfl rfl rfl rfl rfl (q_addw rfl rfl) ?_
    refine gp_after 13 rfl rfl rfl rfl rfl rfl rfl rfl (q_assign rfl) ?_
    refine gp_end rfl rfl ?_
    refine g_inBlock ?_
    refine g_region ?_
    refine l_move rfl rfl ?_
    first | refine l_add rfl rfl rfl (w_i64 (by omega) (by omega)) ?_ | refine l_addw rfl rfl rfl ?_
    refine l_assign rfl rfl ?_
    refine l_nil ?_
    rw [show bg L i.toNat + ((wat L i.toNat).2.1 + (wat L i.toNat).2.2) = bg L (i + 1).toNat by rw [show (i + 1).toNat = i.toNat + 1 by omega]; rfl]
    exact g_againi (ih (i + 1) (by omega) (by omega)) (.cons rfl (.cons rfl (.cons rfl (.cons rfl (.cons rfl (.cons rfl (.cons rfl (.nil))))))))
  intro hbr
  have hbr := of_decide_eq_false hbr
  refine g_exit rfl ?_
  obtain rfl : i = n := by omega
  have hb3 := bg_bound hm.2.2 n (by omega)
  rw [Int.toNat_natCast]
  refine g_seq ?_
  refine g_seq ?_
  refine g_region ?_
  refine l_move rfl rfl ?_
  refine l_lss rfl rfl rfl ?_
  refine l_move rfl rfl ?_
  refine l_split 89 rfl ?_ ?_
  · intro hbr
    have hbr := of_decide_eq_true hbr
    (exfalso; omega)
  intro hbr
  have hbr := of_decide_eq_false hbr
  refine l_guard_yes rfl rfl ?_
  refine l_move rfl rfl ?_
  refine l_guard_yes rfl rfl ?_
  refine l_move rfl rfl ?_
  refine l_guard_yes rfl rfl ?_
  refine l_geq rfl rfl rfl ?_
  refine l_pick_f rfl rfl rfl ?_
  refine l_nil ?_
  refine g_cond rfl ?_ ?_
  · intro hbr
    have hbr := of_decide_eq_true hbr
    (exfalso; omega)
  intro hbr
  have hbr := of_decide_eq_false hbr
  refine g_skip ?_
  refine g_seq ?_
  refine g_seq ?_
  refine gp_start mo (by kernel_rfl) (by kernel_rfl) ?_
  refine gp_quiet 0 rfl rfl rfl rfl rfl rfl (q_move rfl) ?_
  refine gp_quiet 1 rfl rfl rfl rfl rfl rfl (q_neq rfl rfl) ?_
  refine gp_quiet 2 rfl rfl rfl rfl rfl rfl (q_move rfl) ?_
  refine gp_split 101 rfl ?_ ?_
  · intro hbr
    have hbr := of_decide_eq_true hbr
    (exfalso; omega)
  intro hbr
  have hg101 := hbr
  have hbr := of_decide_eq_false hbr
  refine gp_quietg 3 rfl rfl rfl rfl rfl rfl (.yes rfl rfl (q_fieldAddr fa_30_0 rfl)) ?_
  first | refine gp_quietg 4 rfl rfl rfl rfl rfl rfl (.yes rfl rfl (q_ld Try.isAgg3 rfl rfl)) ?_ | refine gp_quietg 4 rfl rfl rfl rfl rfl rfl (.yes rfl rfl (q_ldw Try.isAgg3 rfl (by omega))) ?_
  refine gp_quietg 5 rfl rfl rfl rfl rfl rfl (.yes rfl rfl (q_lss rfl rfl)) ?_
  refine gp_quiet 6 rfl rfl rfl rfl rfl rfl (q_pick_f rfl rfl) ?_
  refine gp_quiet 7 rfl rfl rfl rfl rfl rfl (q_move rfl) ?_
  refine gp_split 106 rfl ?_ ?_
  · intro hbr
    have hbr := of_decide_eq_true hbr
    (exfalso; omega)
  intro hbr
  have hg106 := hbr
  have hbr := of_decide_eq_false hbr
  refine gp_quietg 8 rfl rfl rfl rfl rfl rfl (.yes rfl rfl (q_fieldAddr fa_30_0 rfl)) ?_
  first | refine gp_quietg 9 rfl rfl rfl rfl rfl rfl (.yes rfl rfl (q_ld Try.isAgg3 rfl rfl)) ?_ | refine gp_quietg 9 rfl rfl rfl rfl rfl rfl (.yes rfl rfl (q_ldw Try.isAgg3 rfl (by omega))) ?_
  refine gp_quietg 10 rfl rfl rfl rfl rfl rfl (.yes rfl rfl (q_move rfl)) ?_
  refine gp_quietg 11 rfl rfl rfl rfl rfl rfl (.yes rfl rfl (q_len Try.underlying35 rfl)) ?_
  refine gp_quietg 12 rfl rfl rfl rfl rfl rfl (.yes rfl rfl (q_geq rfl rfl)) ?_
  refine gp_quiet 13 rfl rfl rfl rfl rfl rfl (q_pick_f rfl rfl) ?_
  refine gp_quiet 14 rfl rfl rfl rfl rfl rfl (q_move rfl) ?_
  refine gp_split 113 rfl ?_ ?_
  · intro hbr
    have hbr := of_decide_eq_true hbr
    (exfalso; omega)
  intro hbr
  have hg113 := hbr
  have hbr := of_decide_eq_false hbr
  refine gp_quietg 15 rfl rfl rfl rfl rfl rfl (.yes rfl rfl (q_move rfl)) ?_
  refine gp_quietg 16 rfl rfl rfl rfl rfl rfl (.yes rfl rfl (q_fieldAddr fa_30_0 rfl)) ?_
  first | refine gp_quietg 17 rfl rfl rfl rfl rfl rfl (.yes rfl rfl (q_ld Try.isAgg3 rfl rfl)) ?_ | refine gp_quietg 17 rfl rfl rfl rfl rfl rfl (.yes rfl rfl (q_ldw Try.isAgg3 rfl (by omega))) ?_
  refine gp_quietg 18 rfl rfl rfl rfl rfl rfl (.yes rfl rfl (q_ixs Try.underlying35 Try.sizeOf3 rfl rfl (by omega) (by omega))) ?_
  refine gp_quietg 19 rfl rfl rfl rfl rfl rfl (.yes rfl rfl (q_loadc Try.isAgg3 rfl (bgs_cellj (L := L) (n := n) (j := j) (by omega)))) ?_
  refine gp_quietg 20 rfl rfl rfl rfl rfl rfl (.yes rfl rfl (q_fieldAddr fa_30_2 rfl)) ?_
  first | refine gp_quietg 21 rfl rfl rfl rfl rfl rfl (.yes rfl rfl (q_ld Try.isAgg3 rfl rfl)) ?_ | refine gp_quietg 21 rfl rfl rfl rfl rfl rfl (.yes rfl rfl (q_ldw Try.isAgg3 rfl (by omega))) ?_
  first | refine gp_quietg 22 rfl rfl rfl rfl rfl rfl (.yes rfl rfl (q_add rfl rfl (w_i64 (by omega) (by omega)))) ?_ | refine gp_quietg 22 rfl rfl rfl rfl rfl rfl (.yes rfl rfl (q_addw rfl rfl)) ?_
  refine gp_quietg 23 rfl rfl rfl rfl rfl rfl (.yes rfl rfl (q_move rfl)) ?_
  refine gp_quietg 24 rfl rfl rfl rfl rfl rfl (.yes rfl rfl (q_neq rfl rfl)) ?_
  refine gp_quiet 25 rfl rfl rfl rfl rfl rfl (q_pick_f rfl rfl) ?_
  refine gp_quiet 26 rfl rfl rfl rfl rfl rfl (q_move rfl) ?_
  refine gp_split 125 rfl ?_ ?_
  · intro hbr
    have hbr := of_decide_eq_true hbr
    (exfalso; omega)
  intro hbr
  have hg125 := hbr
  have hbr := of_decide_eq_false hbr
  refine gp_quietg 27 rfl rfl rfl rfl rfl rfl (.yes rfl rfl (q_fieldAddr fa_30_2 rfl)) ?_
  first | refine gp_quietg 28 rfl rfl rfl rfl rfl rfl (.yes rfl rfl (q_ld Try.isAgg3 rfl rfl)) ?_ | refine gp_quietg 28 rfl rfl rfl rfl rfl rfl (.yes rfl rfl (q_ldw Try.isAgg3 rfl (by omega))) ?_
  refine gp_quietg 29 rfl rfl rfl rfl rfl rfl (.yes rfl rfl (q_lss rfl rfl)) ?_
  refine gp_quiet 30 rfl rfl rfl rfl rfl rfl (q_pick_f rfl rfl) ?_
  refine gp_quiet 31 rfl rfl rfl rfl rfl rfl (q_move rfl) ?_
  refine gp_split 130 rfl ?_ ?_
  · intro hbr
    have hbr := of_decide_eq_true hbr
    (exfalso; omega)
  intro hbr
  have hg130 := hbr
  have hbr := of_decide_eq_false hbr
  refine gp_quietg 32 rfl rfl rfl rfl rfl rfl (.yes rfl rfl (q_move rfl)) ?_
  refine gp_quietg 33 rfl rfl rfl rfl rfl rfl (.yes rfl rfl (q_fieldAddr fa_30_3 rfl)) ?_
  first | refine gp_quietg 34 rfl rfl rfl rfl rfl rfl (.yes rfl rfl (q_ld Try.isAgg3 rfl rfl)) ?_ | refine gp_quietg 34 rfl rfl rfl rfl rfl rfl (.yes rfl rfl (q_ldw Try.isAgg3 rfl (by omega))) ?_
  refine gp_quietg 35 rfl rfl rfl rfl rfl rfl (.yes rfl rfl (q_geq rfl rfl)) ?_
  refine gp_quiet 36 rfl rfl rfl rfl rfl rfl (q_pick_f rfl rfl) ?_
  refine gp_end rfl rfl ?_
  refine g_cond rfl ?_ ?_
  · intro hbr
    have hbr := of_decide_eq_true hbr
    (exfalso; omega)
  intro hbr
  have hbr := of_decide_eq_false hbr
  refine g_skip ?_
  refine g_seq ?_
  refine gp_start mo (by kernel_rfl) (by kernel_rfl) ?_
  refine gp_quiet 0 rfl rfl rfl rfl rfl rfl (q_fieldAddr fa_30_3 rfl) ?_
  first | refine gp_quiet 1 rfl rfl rfl rfl rfl rfl (q_ld Try.isAgg3 rfl rfl) ?_ | refine gp_quiet 1 rfl rfl rfl rfl rfl rfl (q_ldw Try.isAgg3 rfl (by omega)) ?_
  refine gp_quiet 2 rfl rfl rfl rfl rfl rfl (q_move rfl) ?_
  refine gp_quiet 3 rfl rfl rfl rfl rfl rfl (q_fieldAddr fa_30_0 rfl) ?_
  first | refine gp_quiet 4 rfl rfl rfl rfl rfl rfl (q_ld Try.isAgg3 rfl rfl) ?_ | refine gp_quiet 4 rfl rfl rfl rfl rfl rfl (q_ldw Try.isAgg3 rfl (by omega)) ?_
  refine gp_quiet 5 rfl rfl rfl rfl rfl rfl (q_ixs Try.underlying35 Try.sizeOf3 rfl rfl (by omega) (by omega)) ?_
  refine gp_quiet 6 rfl rfl rfl rfl rfl rfl (q_loadc Try.isAgg3 rfl (bgs_cellj (L := L) (n := n) (j := j) (by omega))) ?_
  refine gp_quiet 7 rfl rfl rfl rfl rfl rfl (q_move rfl) ?_
  refine gp_quiet 8 rfl rfl rfl rfl rfl rfl (q_fieldAddr fa_30_0 rfl) ?_
  first | refine gp_quiet 9 rfl rfl rfl rfl rfl rfl (q_ld Try.isAgg3 rfl rfl) ?_ | refine gp_quiet 9 rfl rfl rfl rfl rfl rfl (q_ldw Try.isAgg3 rfl (by omega)) ?_
  obtain ⟨b9, o9, rfl, hr9⟩ := hW.some (i := j) (by omega)
  refine gp_quiet 10 rfl rfl rfl rfl rfl rfl (q_ixs Try.underlying38 Try.sizeOf40 rfl rfl (by omega) (by omega)) ?_
  refine gp_quiet 11 rfl rfl rfl rfl rfl rfl (q_fieldAddr fa_40_1 rfl) ?_
  refine gp_quiet 12 rfl rfl rfl rfl rfl rfl (q_loadc Try.isAgg3 rfl (win_cellj (i := j) hr9 (by omega) 1 (v := .int .i64 (wat L j).2.1) rfl)) ?_
  first | refine gp_quiet 13 rfl rfl rfl rfl rfl rfl (q_add rfl rfl (w_i64 (by omega) (by omega))) ?_ | refine gp_quiet 13 rfl rfl rfl rfl rfl rfl (q_addw rfl rfl) ?_
  refine gp_quiet 14 rfl rfl rfl rfl rfl rfl (q_move rfl) ?_
  refine gp_quiet 15 rfl rfl rfl rfl rfl rfl (q_fieldAddr fa_30_0 rfl) ?_
  first | refine gp_quiet 16 rfl rfl rfl rfl rfl rfl (q_ld Try.isAgg3 rfl rfl) ?_ | refine gp_quiet 16 rfl rfl rfl rfl rfl rfl (q_ldw Try.isAgg3 rfl (by omega)) ?_
  refine gp_quiet 17 rfl rfl rfl rfl rfl rfl (q_ixs Try.underlying38 Try.sizeOf40 rfl rfl (by omega) (by omega)) ?_
  refine gp_quiet 18 rfl rfl rfl rfl rfl rfl (q_fieldAddr fa_40_2 rfl) ?_
  refine gp_quiet 19 rfl rfl rfl rfl rfl rfl (q_loadc Try.isAgg3 rfl (win_cellj (i := j) hr9 (by omega) 2 (v := .int .i64 (wat L j).2.2) rfl)) ?_
  first | refine gp_quiet 20 rfl rfl rfl rfl rfl rfl (q_add rfl rfl (w_i64 (by omega) (by omega))) ?_ | refine gp_quiet 20 rfl rfl rfl rfl rfl rfl (q_addw rfl rfl) ?_
  refine gp_quiet 21 rfl rfl rfl rfl rfl rfl (q_eql rfl rfl) ?_
  refine gp_quiet 22 rfl rfl rfl rfl rfl rfl (q_move rfl) ?_
  refine gp_split 158 rfl ?_ ?_
  · intro hbr
    have hg158 := hbr
    have hbr := of_decide_eq_true hbr
    refine gp_quietg 23 rfl rfl rfl rfl rfl rfl (.yes rfl rfl (q_fieldAddr fa_30_1 rfl)) ?_
    first | refine gp_quietg 24 rfl rfl rfl rfl rfl rfl (.yes rfl rfl (q_ld Try.isAgg3 rfl rfl)) ?_ | refine gp_quietg 24 rfl rfl rfl rfl rfl rfl (.yes rfl rfl (q_ldw Try.isAgg3 rfl (by omega))) ?_
    refine gp_quietg 25 rfl rfl rfl rfl rfl rfl (.yes rfl rfl (q_move rfl)) ?_
    refine gp_quietg 26 rfl rfl rfl rfl rfl rfl (.yes rfl rfl (q_fieldAddr fa_30_0 rfl)) ?_
    first | refine gp_quietg 27 rfl rfl rfl rfl rfl rfl (.yes rfl rfl (q_ld Try.isAgg3 rfl rfl)) ?_ | refine gp_quietg 27 rfl rfl rfl rfl rfl rfl (.yes rfl rfl (q_ldw Try.isAgg3 rfl (by omega))) ?_
    refine gp_quietg 28 rfl rfl rfl rfl rfl rfl (.yes rfl rfl (q_ixs Try.underlying38 Try.sizeOf40 rfl rfl (by omega) (by omega))) ?_
    refine gp_quietg 29 rfl rfl rfl rfl rfl rfl (.yes rfl rfl (q_fieldAddr fa_40_0 rfl)) ?_
    refine gp_quietg 30 rfl rfl rfl rfl rfl rfl (.yes rfl rfl (q_loadc Try.isAgg3 rfl (win_cellj (i := j) hr9 (by omega) 0 (v := .int .i64 (wat L j).1) rfl))) ?_
    refine gp_quietg 31 rfl rfl rfl rfl rfl rfl (.yes rfl rfl (q_eql rfl rfl)) ?_
    refine gp_quiet 32 rfl rfl rfl rfl rfl rfl (q_pick_t rfl rfl) ?_
    refine gp_quiet 33 rfl rfl rfl rfl rfl rfl (q_move rfl) ?_
    refine gp_split 169 rfl ?_ ?_
    · intro hbr
      have hg169 := hbr
      have hbr := of_decide_eq_true hbr
      refine gp_effg 34 rfl rfl rfl rfl rfl rfl (.yes rfl rfl rfl) (Does.guard (does_call Try.call11 rfl (awake_ok _ _))) ?_
      rintro _ _ ⟨rfl, rfl⟩
      refine ⟨?_, ?_⟩
      · refine .cons rfl rfl rfl rfl rfl (QV.as (q_move rfl) (congrArg Value.bool hg169)) ?_
        refine .cons rfl rfl rfl rfl rfl (q_pick_t rfl rfl) ?_
        refine .consG rfl rfl rfl rfl rfl (.yes rfl rfl (q_eql rfl rfl)) ?_
        refine .consG rfl rfl rfl rfl rfl (.yes rfl rfl (q_loadc Try.isAgg3 rfl (win_cellj (i := j) hr9 (by omega) 0 (v := .int .i64 (wat L j).1) rfl))) ?_
        refine .consG rfl rfl rfl rfl rfl (.yes rfl rfl (q_fieldAddr fa_40_0 rfl)) ?_
        refine .consG rfl rfl rfl rfl rfl (.yes rfl rfl (q_ixs Try.underlying38 Try.sizeOf40 rfl rfl (by omega) (by omega))) ?_
        first | refine .consG rfl rfl rfl rfl rfl (.yes rfl rfl (q_ld Try.isAgg3 rfl rfl)) ?_ | refine .consG rfl rfl rfl rfl rfl (.yes rfl rfl (q_ldw Try.isAgg3 rfl (by omega))) ?_
        refine .consG rfl rfl rfl rfl rfl (.yes rfl rfl (q_fieldAddr fa_30_0 rfl)) ?_
        refine .consG rfl rfl rfl rfl rfl (.yes rfl rfl (q_move rfl)) ?_
        first | refine .consG rfl rfl rfl rfl rfl (.yes rfl rfl (q_ld Try.isAgg3 rfl rfl)) ?_ | refine .consG rfl rfl rfl rfl rfl (.yes rfl rfl (q_ldw Try.isAgg3 rfl (by omega))) ?_
        refine .consG rfl rfl rfl rfl rfl (.yes rfl rfl (q_fieldAddr fa_30_1 rfl)) ?_
        refine .cons rfl rfl rfl rfl rfl (QV.as (q_move rfl) (congrArg Value.bool hg158)) ?_
        refine .cons rfl rfl rfl rfl rfl (q_eql rfl rfl) ?_
        first | refine .cons rfl rfl rfl rfl rfl (q_add rfl rfl (w_i64 (by omega) (by omega))) ?_ | refine .cons rfl rfl rfl rfl rfl (q_addw rfl rfl) ?_
        refine .cons rfl rfl rfl rfl rfl (q_loadc Try.isAgg3 rfl (win_cellj (i := j) hr9 (by omega) 2 (v := .int .i64 (wat L j).2.2) rfl)) ?_
        refine .cons rfl rfl rfl rfl rfl (q_fieldAddr fa_40_2 rfl) ?_
        refine .cons rfl rfl rfl rfl rfl (q_ixs Try.underlying38 Try.sizeOf40 rfl rfl (by omega) (by omega)) ?_
        first | refine .cons rfl rfl rfl rfl rfl (q_ld Try.isAgg3 rfl rfl) ?_ | refine .cons rfl rfl rfl rfl rfl (q_ldw Try.isAgg3 rfl (by omega)) ?_
        refine .cons rfl rfl rfl rfl rfl (q_fieldAddr fa_30_0 rfl) ?_
        refine .cons rfl rfl rfl rfl rfl (q_move rfl) ?_
        first | refine .cons rfl rfl rfl rfl rfl (q_add rfl rfl (w_i64 (by omega) (by omega))) ?_ | refine .cons rfl rfl rfl rfl rfl (q_addw rfl rfl) ?_
        refine .cons rfl rfl rfl rfl rfl (q_loadc Try.isAgg3 rfl (win_cellj (i := j) hr9 (by omega) 1 (v := .int .i64 (wat L j).2.1) rfl)) ?_
        refine .cons rfl rfl rfl rfl rfl (q_fieldAddr fa_40_1 rfl) ?_
        refine .cons rfl rfl rfl rfl rfl (q_ixs Try.underlying38 Try.sizeOf40 rfl rfl (by omega) (by omega)) ?_
        first | refine .cons rfl rfl rfl rfl rfl (q_ld Try.isAgg3 rfl rfl) ?_ | refine .cons rfl rfl rfl rfl rfl (q_ldw Try.isAgg3 rfl (by omega)) ?_
        refine .cons rfl rfl rfl rfl rfl (q_fieldAddr fa_30_0 rfl) ?_
        refine .cons rfl rfl rfl rfl rfl (q_move rfl) ?_
        refine .cons rfl rfl rfl rfl rfl (q_loadc Try.isAgg3 rfl (bgs_cellj (L := L) (n := n) (j := j) (by omega))) ?_
        refine .cons rfl rfl rfl rfl rfl (q_ixs Try.underlying35 Try.sizeOf3 rfl rfl (by omega) (by omega)) ?_
        first | refine .cons rfl rfl rfl rfl rfl (q_ld Try.isAgg3 rfl rfl) ?_ | refine .cons rfl rfl rfl rfl rfl (q_ldw Try.isAgg3 rfl (by omega)) ?_
        refine .cons rfl rfl rfl rfl rfl (q_fieldAddr fa_30_0 rfl) ?_
        refine .cons rfl rfl rfl rfl rfl (q_move rfl) ?_
        first | refine .cons rfl rfl rfl rfl rfl (q_ld Try.isAgg3 rfl rfl) ?_ | refine .cons rfl rfl rfl rfl rfl (q_ldw Try.isAgg3 rfl (by omega)) ?_
        refine .cons rfl rfl rfl rfl rfl (q_fieldAddr fa_30_3 rfl) ?_
        exact .nil
      refine gp_quiet 35 rfl rfl rfl rfl rfl rfl (q_pick_t rfl rfl) ?_
      refine gp_quiet 36 rfl rfl rfl rfl rfl rfl (q_assign rfl) ?_
      refine gp_end rfl rfl ?_
      refine g_ret Try.func5 rfl (.tmp rfl .nil) ?_
      exact Gives.mki ⟨rfl, rfl⟩
    · intro hbr
      have hbr := of_decide_eq_false hbr
      (exfalso; omega)
  · intro hbr
    have hbr := of_decide_eq_false hbr
    (exfalso; omega)
theorem tiles_none (w0 : World) (F : List Atom) (fr mj kr rm : Int) (ca pa ha : Option Addr) (cn cc pn pc hn hc : Nat) (Ks : List CoreR) (hCR : CR w0 F ca cn Ks) (hcn : cn ≤ 9223372036854775807) (hpn : pn ≤ 9223372036854775807) (hmj : I64 mj) (core : Int) (q0 : -9223372036854775808 ≤ core) (q1 : core ≤ 9223372036854775807) (time : Int) (t0 : -9223372036854775808 ≤ time) (t1 : time ≤ 9223372036854775807) (rows : List (List Value)) (hPR : PR w0 F pa pn rows) (ho : 0 ≤ core ∧ core < cn) (a : Option Addr) (n c : Nat) (L : List Win) (hk : kat Ks core.toNat = ⟨a, n, c, L⟩) (hm : May L) (hno : ∀ j, j < n → ¬ (bg L j ≤ time ∧ time < bg L (j + 1))) :
    CallK Try.prog 5 [.agg [Value.int .i64 fr, .int .i64 mj, .int .i64 kr, .int .i64 rm, .slice ca cn cc, .slice pa pn pc, .slice ha hn hc].toArray, .int .i64 core, .int .i64 time] w0 (F) (Gives w0 fun v F2 => v = .bool true ∧ F2 = F) := by
  have hCl := hCR.1
  have hCl := hCR.1
  obtain ⟨hW, hn9⟩ := hCR.ok hk (by omega)
  have hL := hW.1
  have hI := hW.2.1
  unfold I64 at hI
  obtain ⟨m1, m2, _⟩ := id hm
  have hout : ¬ (0 ≤ time ∧ time < bg L n) := fun ⟨h1, h2⟩ => by
    obtain ⟨j, h3, h4⟩ := found_of h1 h2
    exact hno j h3 h4
  refine c_enter Try.func5 rfl rfl rfl ?_
  refine g_seq ?_
  refine g_region ?_
  refine l_boxs rfl rfl ?_; intro b3
  refine l_assign rfl rfl ?_
  refine l_nil ?_
  refine g_seq ?_
  refine g_seq ?_
  refine g_region ?_
  refine l_lds rfl Try.isAgg27 Try.sizeOf27 rfl rfl ?_
  refine l_call rfl Try.call12 rfl (vast_any _ _ fr mj kr rm ca pa ha cn cc pn pc hn hc Ks hCR.ex hcn hpn hmj rows hPR.ex) ?_; rintro _ _ ⟨x9, rfl, rfl⟩
  refine l_nil ?_
  refine g_cond rfl ?_ ?_
  · intro hbr
    refine g_seq ?_
    refine g_region ?_
    refine l_assign rfl rfl ?_
    refine l_nil ?_
    refine g_ret Try.func5 rfl (.tmp rfl .nil) ?_
    exact Gives.mki ⟨rfl, rfl⟩
  intro hbr
  refine g_skip ?_
  refine g_seq ?_
  refine g_region ?_
  refine l_lds rfl Try.isAgg27 Try.sizeOf27 rfl rfl ?_
  refine l_move rfl rfl ?_
  refine l_call rfl Try.call15 rfl (starts_ok _ _ fr mj kr rm ca pa ha cn cc pn pc hn hc Ks hCR.ex hcn hpn hmj core q0 q1 ho a n c L hk hm) ?_; rintro _ _ ⟨g, cg, rfl, hcg, rfl⟩
  refine l_move rfl rfl ?_
  refine l_extract rfl rfl rfl ?_
  refine l_extract rfl rfl rfl ?_
  refine l_assign rfl rfl ?_
  refine l_assign rfl rfl ?_
  refine l_nil ?_
  refine g_seq ?_
  refine g_region ?_
  refine l_lds rfl Try.isAgg27 Try.sizeOf27 rfl rfl ?_
  refine l_move rfl rfl ?_
  refine l_move rfl rfl ?_
  refine l_call rfl Try.call13 rfl (at_none _ _ fr mj kr rm ca pa ha cn cc pn pc hn hc Ks hCR.ex hcn hpn hmj core q0 q1 time t0 t1 ho a n c L hk hm hno) ?_; rintro _ _ ⟨rfl, rfl⟩
  refine l_move rfl rfl ?_
  refine l_extract rfl rfl rfl ?_
  refine l_extract rfl rfl rfl ?_
  refine l_allocs rfl Try.zeroValue30 ?_; intro b9
  refine l_sts Try.sizeOf30 rfl rfl rfl rfl rfl ?_
  refine l_assign rfl rfl ?_
  refine l_nil ?_
  refine g_seq ?_
  refine g_seq ?_
  refine g_region ?_
  refine l_move rfl rfl ?_
  refine l_neq rfl rfl rfl ?_
  refine l_nil ?_
  refine g_cond rfl ?_ ?_
  · intro hbr
    have hbr := of_decide_eq_true hbr
    (exfalso; omega)
  intro hbr
  have hbr := of_decide_eq_false hbr
  refine g_skip ?_
  refine g_seq ?_
  refine g_seq ?_
  refine g_region ?_
  refine l_move rfl rfl ?_
  refine l_lss rfl rfl rfl ?_
  refine l_move rfl rfl ?_
  refine l_split 39 rfl ?_ ?_
  · intro hbr
    have hbr := of_decide_eq_true hbr
    (exfalso; omega)
  intro hbr
  have hbr := of_decide_eq_false hbr
  refine l_guard_yes rfl rfl ?_
  refine l_move rfl rfl ?_
  refine l_guard_yes rfl rfl ?_
  refine l_fieldAddr rfl fa_27_4 rfl ?_
  refine l_guard_yes rfl rfl ?_
  refine l_ld rfl Try.isAgg23 rfl rfl ?_
  refine l_guard_yes rfl rfl ?_
  refine l_len rfl Try.underlying23 rfl ?_
  refine l_guard_yes rfl rfl ?_
  refine l_geq rfl rfl rfl ?_
  refine l_pick_f rfl rfl rfl ?_
  refine l_move rfl rfl ?_
  refine l_split 46 rfl ?_ ?_
  · intro hbr
    have hbr := of_decide_eq_true hbr
    (exfalso; omega)
  intro hbr
  have hbr := of_decide_eq_false hbr
  refine l_guard_yes rfl rfl ?_
  refine l_move rfl rfl ?_
  refine l_guard_yes rfl rfl ?_
  refine l_len rfl Try.underlying35 rfl ?_
  refine l_guard_yes rfl rfl ?_
  refine l_fieldAddr rfl fa_27_4 rfl ?_
  refine l_guard_yes rfl rfl ?_
  refine l_ld rfl Try.isAgg23 rfl rfl ?_
  refine l_guard_yes rfl rfl ?_
  refine l_move rfl rfl ?_
  refine l_guard_yes rfl rfl ?_
  obtain ⟨b8, o8, rfl, hr8⟩ := hCR.some (i := core.toNat) (by omega)
  refine l_ixs rfl Try.underlying23 Try.sizeOf38 rfl rfl (by omega) (by omega) ?_
  refine l_guard_yes rfl rfl ?_
  refine l_loadc rfl Try.isAgg38 rfl (core_cell hr8.ex hk (by omega)) ?_
  refine l_guard_yes rfl rfl ?_
  refine l_len rfl Try.underlying38 rfl ?_
  refine l_guard_yes rfl rfl ?_
  refine l_neq rfl rfl rfl ?_
  refine l_pick_f rfl rfl rfl ?_
  refine l_nil ?_
  refine g_cond rfl ?_ ?_
  · intro hbr
    have hbr := of_decide_eq_true hbr
    (exfalso; omega)
  intro hbr
  have hbr := of_decide_eq_false hbr
  refine g_skip ?_
  refine g_seq ?_
  refine g_region ?_
  refine l_fieldAddr rfl fa_27_4 rfl ?_
  refine l_ld rfl Try.isAgg23 rfl rfl ?_
  refine l_move rfl rfl ?_
  refine l_ixs rfl Try.underlying23 Try.sizeOf38 rfl rfl (by omega) (by omega) ?_
  refine l_loadc rfl Try.isAgg38 rfl (core_cell hr8.ex hk (by omega)) ?_
  refine l_assign rfl rfl ?_
  refine l_nil ?_
  refine g_seq ?_
  refine g_region ?_
  refine l_assign rfl rfl ?_
  refine l_nil ?_
  refine g_seq ?_
  refine g_seq ?_
  refine g_region ?_
  refine l_assign rfl rfl ?_
  refine l_nil ?_
  refine g_block ?_
  refine g_loopc (X := Int) [(2, _), (7, _), (9, _), (10, _), (11, _)] (.cons rfl (.cons rfl (.cons rfl (.cons rfl (.cons rfl (.nil)))))) (fun i => 0 ≤ i ∧ i ≤ n) (fun i => (n - i).toNat) (fun i => [(12, .int .i64 (bg L i.toNat)), (13, .int .i64 i)]) (0) (by omega) (.cons rfl (.cons rfl (.nil))) ?_
  rintro i ⟨i0, i1⟩ ih
  dsimp only [List.cons_append, List.nil_append] at ih ⊢
  have hb1 := bg_bound hm.2.2 i.toNat (by omega)
  have hb2 := fun h => hm.2.2 i.toNat h
  unfold okW at hb2
  have hbs := @bg_step L i.toNat
  refine g_seq ?_
  refine g_seq ?_
  refine g_region ?_
  refine l_move rfl rfl ?_
  refine l_move rfl rfl ?_
  refine l_len rfl Try.underlying35 rfl ?_
  refine l_lss rfl rfl rfl ?_
  refine l_nil ?_
  refine g_cond rfl ?_ ?_
  · intro hbr
    have hbr := of_decide_eq_true hbr
    refine g_skip ?_
    refine g_seq ?_
    refine g_block ?_
    refine g_seq ?_
    refine g_seq ?_
    refine g_region ?_
    refine l_move rfl rfl ?_
    refine l_move rfl rfl ?_
    refine l_ixs rfl Try.underlying35 Try.sizeOf3 rfl rfl (by omega) (by omega) ?_
    refine l_loadc rfl Try.isAgg3 rfl (bgs_cell (L := L) (n := n) (by omega)) ?_
    refine l_move rfl rfl ?_
    refine l_neq rfl rfl rfl ?_
    refine l_nil ?_
    refine g_cond rfl ?_ ?_
    · intro hbr
      have hbr := of_decide_eq_true hbr
      (exfalso; omega)
    intro hbr
    have hbr := of_decide_eq_false hbr
    refine g_skip ?_
    refine gp_start mo (by kernel_rfl) (by kernel_rfl) ?_
    refine gp_quiet 0 rfl rfl rfl rfl rfl rfl (q_move rfl) ?_
    refine gp_quiet 1 rfl rfl rfl rfl rfl rfl (q_move rfl) ?_
    refine gp_quiet 2 rfl rfl rfl rfl rfl rfl (q_move rfl) ?_
    have hIi := hI i.toNat (by omega)
    obtain ⟨b9, o9, rfl, hr9⟩ := hW.some (i := i.toNat) (by omega)
    refine gp_quiet 3 rfl rfl rfl rfl rfl rfl (q_ixs Try.underlying38 Try.sizeOf40 rfl rfl (by omega) (by omega)) ?_
    refine gp_quiet 4 rfl rfl rfl rfl rfl rfl (q_fieldAddr fa_40_1 rfl) ?_
    refine gp_quiet 5 rfl rfl rfl rfl rfl rfl (q_loadc Try.isAgg3 rfl ((row_elem hr9.ex (win_len L) (win_at (i := i.toNat) (by omega))).cell (j := 1) (v := .int .i64 (wat L i.toNat).2.1) rfl)) ?_
    refine gp_quiet 6 rfl rfl rfl rfl rfl rfl (q_move rfl) ?_
    refine gp_quiet 7 rfl rfl rfl rfl rfl rfl (q_move rfl) ?_
    refine gp_quiet 8 rfl rfl rfl rfl rfl rfl (q_ixs Try.underlying38 Try.sizeOf40 rfl rfl (by omega) (by omega)) ?_
    refine gp_quiet 9 rfl rfl rfl rfl rfl rfl (q_fieldAddr fa_40_2 rfl) ?_
    refine gp_quiet 10 rfl rfl rfl rfl rfl rfl (q_loadc Try.isAgg3 rfl ((row_elem hr9.ex (win_len L) (win_at (i := i.toNat) (by omega))).cell (j := 2) (v := .int .i64 (wat L i.toNat).2.2) rfl)) ?_
    first | refine gp_quiet 11 rfl rfl rfl rfl rfl rfl (q_add rfl rfl (w_i64 (by omega) (by omega))) ?_ | refine gp_quiet 11 rfl rfl rfl rfl rfl rfl (q_addw rfl rfl) ?_
    first | refine gp_quiet 12 rfl rfl rfl rfl rfl rfl (q_add rfl rfl (w_i64 (by omega) (by omega))) ?_ | refine gp_quiet 12 rfl rfl rfl rfl rfl rfl (q_addw rfl rfl) ?_
    refine gp_after 13 rfl rfl rfl rfl rfl rfl rfl rfl (q_assign rfl) ?_
    refine gp_end rfl rfl ?_
    refine g_inBlock ?_
    refine g_region ?_
    refine l_move rfl rfl ?_
    first | refine l_add rfl rfl rfl (w_i64 (by omega) (by omega)) ?_ | refine l_addw rfl rfl rfl ?_
    refine l_assign rfl rfl ?_
    refine l_nil ?_
    rw [show bg L i.toNat + ((wat L i.toNat).2.1 + (wat L i.toNat).2.2) = bg L (i + 1).toNat by rw [show (i + 1).toNat = i.toNat + 1 by omega]; rfl]
    exact g_againi (ih (i + 1) (by omega) (by omega)) (.cons rfl (.cons rfl (.cons rfl (.cons rfl (.cons rfl (.cons rfl (.cons rfl (.nil))))))))
  intro hbr
  have hbr := of_decide_eq_false hbr
  refine g_exit rfl ?_
  obtain rfl : i = n := by omega
  have hb3 := bg_bound hm.2.2 n (by omega)
  rw [Int.toNat_natCast]
  refine g_seq ?_
  refine g_seq ?_
  refine g_region ?_
  refine l_move rfl rfl ?_
  refine l_lss rfl rfl rfl ?_
  refine l_move rfl rfl ?_
  refine l_split 89 rfl ?_ ?_
  · intro hbr
    have hbr := of_decide_eq_true hbr
    refine l_guard_no rfl rfl rfl ?_
    refine l_guard_no rfl rfl rfl ?_
    refine l_guard_no rfl rfl rfl ?_
    refine l_pick_t rfl rfl rfl ?_
    refine l_nil ?_
    refine g_cond_t rfl ?_
    refine g_seq ?_
    refine g_region ?_
    refine l_move rfl rfl ?_
    refine l_eql rfl rfl rfl ?_
    refine l_move rfl rfl ?_
    refine l_split 96 rfl ?_ ?_
    · intro hbr
      have hbr := of_decide_eq_true hbr
      refine l_guard_yes rfl rfl ?_
      refine l_call rfl Try.call11 rfl (awake_ok _ _) ?_; rintro _ _ ⟨rfl, rfl⟩
      refine l_pick_t rfl rfl rfl ?_
      refine l_assign rfl rfl ?_
      refine l_nil ?_
      refine g_ret Try.func5 rfl (.tmp rfl .nil) ?_
      exact Gives.mki ⟨rfl, rfl⟩
    · intro hbr
      have hbr := of_decide_eq_false hbr
      (exfalso; omega)
  intro hbr
  have hbr := of_decide_eq_false hbr
  refine l_guard_yes rfl rfl ?_
  refine l_move rfl rfl ?_
  refine l_guard_yes rfl rfl ?_
  refine l_move rfl rfl ?_
  refine l_guard_yes rfl rfl ?_
  refine l_geq rfl rfl rfl ?_
  refine l_pick_f rfl rfl rfl ?_
  refine l_nil ?_
  refine g_cond rfl ?_ ?_
  · intro hbr
    have hbr := of_decide_eq_true hbr
    refine g_seq ?_
    refine g_region ?_
    refine l_move rfl rfl ?_
    refine l_eql rfl rfl rfl ?_
    refine l_move rfl rfl ?_
    refine l_split 96 rfl ?_ ?_
    · intro hbr
      have hbr := of_decide_eq_true hbr
      refine l_guard_yes rfl rfl ?_
      refine l_call rfl Try.call11 rfl (awake_ok _ _) ?_; rintro _ _ ⟨rfl, rfl⟩
      refine l_pick_t rfl rfl rfl ?_
      refine l_assign rfl rfl ?_
      refine l_nil ?_
      refine g_ret Try.func5 rfl (.tmp rfl .nil) ?_
      exact Gives.mki ⟨rfl, rfl⟩
    · intro hbr
      have hbr := of_decide_eq_false hbr
      (exfalso; omega)
  · intro hbr
    have hbr := of_decide_eq_false hbr
    (exfalso; omega)
end Go.Proofs.Ytfccfjgnoeocnaa.Fw
