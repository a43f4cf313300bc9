import Derived.Test.YtlgcghhjgcdigaaIterG
namespace Go.Proofs.Ytlgcghhjgcdigaa.Fw
open Go Go.Proofs
set_option linter.unusedVariables false
set_option linter.unusedSimpArgs false
set_option maxRecDepth 10000
theorem fa_42_2 (a : Addr) (w : World) : (Instr.fieldAt 42 (.pointer (some a)) 2).run Try.prog w = .ok (.pointer (some (a.add 2))) w := by
  simp [Instr.fieldAt, Try.runUnderlying42, Instr.sureAddr, fieldPlace, Try.sizeOf23, Sem.run_bind, Sem.run_pure]
theorem fa_42_3 (a : Addr) (w : World) : (Instr.fieldAt 42 (.pointer (some a)) 3).run Try.prog w = .ok (.pointer (some (a.add 3))) w := by
  simp [Instr.fieldAt, Try.runUnderlying42, Instr.sureAddr, fieldPlace, Try.sizeOf23, Sem.run_bind, Sem.run_pure]
theorem fa_42_0 (a : Addr) (w : World) : (Instr.fieldAt 42 (.pointer (some a)) 0).run Try.prog w = .ok (.pointer (some (a.add 0))) w := by
  simp [Instr.fieldAt, Try.runUnderlying42, Instr.sureAddr, fieldPlace, Try.sizeOf25, Sem.run_bind, Sem.run_pure]
theorem fa_47_0 (a : Addr) (w : World) : (Instr.fieldAt 47 (.pointer (some a)) 0).run Try.prog w = .ok (.pointer (some (a.add 0))) w := by
  simp [Instr.fieldAt, Try.runUnderlying47, Instr.sureAddr, fieldPlace, Try.sizeOf4, Sem.run_bind, Sem.run_pure]
theorem fa_47_1 (a : Addr) (w : World) : (Instr.fieldAt 47 (.pointer (some a)) 1).run Try.prog w = .ok (.pointer (some (a.add 1))) w := by
  simp [Instr.fieldAt, Try.runUnderlying47, Instr.sureAddr, fieldPlace, Try.sizeOf3, Sem.run_bind, Sem.run_pure]
theorem fa_47_2 (a : Addr) (w : World) : (Instr.fieldAt 47 (.pointer (some a)) 2).run Try.prog w = .ok (.pointer (some (a.add 2))) w := by
  simp [Instr.fieldAt, Try.runUnderlying47, Instr.sureAddr, fieldPlace, Try.sizeOf30, Sem.run_bind, Sem.run_pure]
theorem fa_42_1 (a : Addr) (w : World) : (Instr.fieldAt 42 (.pointer (some a)) 1).run Try.prog w = .ok (.pointer (some (a.add 1))) w := by
  simp [Instr.fieldAt, Try.runUnderlying42, Instr.sureAddr, fieldPlace, Try.sizeOf25, Sem.run_bind, Sem.run_pure]
/-- What a twin's lists are read by. -/
def TwRd (w0 : World) (F : List Atom) (tb x1 n1 x2 n2 : Nat) (A B : List Int) : Prop := CellAt w0 F tb 2 (.slice (some ⟨x1, 0, none⟩) n1 n1) ∧ CellAt w0 F tb 3 (.slice (some ⟨x2, 0, none⟩) n2 n2) ∧ RowAt w0 F x1 0 (ints .u32 A) ∧ RowAt w0 F x2 0 (ints .u32 B)
theorem tw_rd {w0 : World} {F : List Atom} {tb b1 b2 x1 n1 x2 n2 : Nat} {A B : List Int} (h1 : Blk tb (.cells [Value.pointer (some ⟨b1, 0, none⟩), .pointer (some ⟨b2, 0, none⟩), .slice (some ⟨x1, 0, none⟩) n1 n1, .slice (some ⟨x2, 0, none⟩) n2 n2].toArray 42 (0, 0)) ∈ F) (h2 : Own 30 1 (.slice (some ⟨x1, 0, none⟩) n1 n1) n1 (ints .u32 A) ∈ F) (h3 : Own 30 1 (.slice (some ⟨x2, 0, none⟩) n2 n2) n2 (ints .u32 B) ∈ F) : TwRd w0 F tb x1 n1 x2 n2 A B :=
  ⟨fun w hw => cell_of_has (c := [Value.pointer (some ⟨b1, 0, none⟩), .pointer (some ⟨b2, 0, none⟩), .slice (some ⟨x1, 0, none⟩) n1 n1, .slice (some ⟨x2, 0, none⟩) n2 n2]) (b := tb) (o := 2) (hw.ok _ h1) rfl, fun w hw => cell_of_has (c := [Value.pointer (some ⟨b1, 0, none⟩), .pointer (some ⟨b2, 0, none⟩), .slice (some ⟨x1, 0, none⟩) n1 n1, .slice (some ⟨x2, 0, none⟩) n2 n2]) (b := tb) (o := 3) (hw.ok _ h1) rfl, .own h2, .own h3⟩
def WrX (n : Nat) (at_ x : Int) (W : List Int) (e : Int) (W2 : List Int) : Prop := (inR n at_ 1 → 0 = e ∧ W.set at_.toNat x = W2) ∧ (¬ inR n at_ 1 → 51 = e ∧ W = W2)
theorem WrX.len {n : Nat} {at_ x : Int} {W W2 : List Int} {e : Int} (h : WrX n at_ x W e W2) (hW : W.length = n) : W2.length = n := by
  by_cases h2 : inR n at_ 1
  · rw [← (h.1 h2).2, List.length_set]; exact hW
  · rw [← (h.2 h2).2]; exact hW
theorem write_x (w0 : World) (F : List Atom) (b g n c : Nat) (W : List Int) (hW : W.length = n) (hc : n ≤ c) (hn : n ≤ 1073741824) (at_ x : Int) (a0 : -9223372036854775808 ≤ at_) (a1 : at_ ≤ 9223372036854775807) : CallK Try.prog 10 [.pointer (some ⟨b, 0, none⟩), .int .i64 at_, .int .u32 x] w0 (Blk b (.cells [Value.slice (some ⟨g, 0, none⟩) n c].toArray 77 (0, 0)) :: Own 30 1 (.slice (some ⟨g, 0, none⟩) n c) n (ints .u32 W) :: F) (Gives w0 fun v F2 => ∃ e W2, v = .int .i64 e ∧ WrX n at_ x W e W2 ∧ F2 = Blk b (.cells [Value.slice (some ⟨g, 0, none⟩) n c].toArray 77 (0, 0)) :: Own 30 1 (.slice (some ⟨g, 0, none⟩) n c) n (ints .u32 W2) :: F) := by
  by_cases h : inR n at_ 1
  · exact (write_ok w0 F b g n c W hW hc hn at_ x a1 h).gmono fun v F2 ⟨e1, e2⟩ => ⟨0, _, e1, ⟨fun _ => ⟨rfl, rfl⟩, fun h2 => absurd h h2⟩, e2⟩
  · exact (write_bad w0 F b g n c W hW hc hn x at_ a0 a1 h).gmono fun v F2 ⟨e1, e2⟩ => ⟨51, W, e1, ⟨fun h2 => absurd h2 h, fun _ => ⟨rfl, rfl⟩⟩, e2⟩
theorem tunl_ok (w0 : World) (F : List Atom) (tb x1 n1 x2 n2 : Nat) (A B : List Int) (hT : TwRd w0 F tb x1 n1 x2 n2 A B) (hA : A.length = n1) (hB : B.length = n2) (hn1 : n1 ≤ 1073741824) (hn2 : n2 ≤ 1073741824) (at_ : Int) (a0 : 0 ≤ at_) :
    CallK Try.prog 34 [.pointer (some ⟨tb, 0, none⟩), .int .i64 at_] w0 (F) (Gives w0 fun v F2 => v = .bool (decide (unl n1 n2 A B at_)) ∧ F2 = F) := by
  refine c_enter Try.func34 rfl rfl rfl ?_
  refine g_seq ?_
  refine g_region ?_
  refine l_assign rfl rfl ?_
  refine l_nil ?_
  refine g_seq ?_
  refine gp_start mo (by kernel_rfl) (by kernel_rfl) ?_
  refine gp_quiet 0 rfl rfl rfl rfl rfl rfl (q_move rfl) ?_
  refine gp_quiet 1 rfl rfl rfl rfl rfl rfl (q_move rfl) ?_
  refine gp_quiet 2 rfl rfl rfl rfl rfl rfl (q_nilCheck rfl) ?_
  refine gp_quiet 3 rfl rfl rfl rfl rfl rfl (q_fieldAddr fa_42_2 rfl) ?_
  refine gp_quiet 4 rfl rfl rfl rfl rfl rfl (q_loadc (v := .slice (some ⟨x1, 0, none⟩) n1 n1) Try.isAgg23 rfl hT.1) ?_
  refine gp_quiet 5 rfl rfl rfl rfl rfl rfl (q_len Try.underlying23 rfl) ?_
  refine gp_quiet 6 rfl rfl rfl rfl rfl rfl (q_geq rfl rfl) ?_
  refine gp_quiet 7 rfl rfl rfl rfl rfl rfl (q_move rfl) ?_
  refine gp_split 12 rfl ?_ ?_
  · intro hbr
    have hg12 := hbr
    have hbr := of_decide_eq_true hbr
    refine gp_quietg 8 rfl rfl rfl rfl rfl rfl (.no rfl rfl) ?_
    refine gp_quietg 9 rfl rfl rfl rfl rfl rfl (.no rfl rfl) ?_
    refine gp_quietg 10 rfl rfl rfl rfl rfl rfl (.no rfl rfl) ?_
    refine gp_quietg 11 rfl rfl rfl rfl rfl rfl (.no rfl rfl) ?_
    refine gp_quietg 12 rfl rfl rfl rfl rfl rfl (.no rfl rfl) ?_
    refine gp_quietg 13 rfl rfl rfl rfl rfl rfl (.no rfl rfl) ?_
    refine gp_quietg 14 rfl rfl rfl rfl rfl rfl (.no rfl rfl) ?_
    refine gp_quiet 15 rfl rfl rfl rfl rfl rfl (q_pick_t rfl rfl) ?_
    refine gp_quiet 16 rfl rfl rfl rfl rfl rfl (q_move rfl) ?_
    refine gp_quietg 17 rfl rfl rfl rfl rfl rfl (.no rfl rfl) ?_
    refine gp_quietg 18 rfl rfl rfl rfl rfl rfl (.no rfl rfl) ?_
    refine gp_quietg 19 rfl rfl rfl rfl rfl rfl (.no rfl rfl) ?_
    refine gp_quietg 20 rfl rfl rfl rfl rfl rfl (.no rfl rfl) ?_
    refine gp_quietg 21 rfl rfl rfl rfl rfl rfl (.no rfl rfl) ?_
    refine gp_quietg 22 rfl rfl rfl rfl rfl rfl (.no rfl rfl) ?_
    refine gp_quietg 23 rfl rfl rfl rfl rfl rfl (.no rfl rfl) ?_
    refine gp_quietg 24 rfl rfl rfl rfl rfl rfl (.no rfl rfl) ?_
    refine gp_quietg 25 rfl rfl rfl rfl rfl rfl (.no rfl rfl) ?_
    refine gp_quietg 26 rfl rfl rfl rfl rfl rfl (.no rfl rfl) ?_
    refine gp_quietg 27 rfl rfl rfl rfl rfl rfl (.no rfl rfl) ?_
    refine gp_quietg 28 rfl rfl rfl rfl rfl rfl (.no rfl rfl) ?_
    refine gp_quietg 29 rfl rfl rfl rfl rfl rfl (.no rfl rfl) ?_
    refine gp_quietg 30 rfl rfl rfl rfl rfl rfl (.no rfl rfl) ?_
    refine gp_quietg 31 rfl rfl rfl rfl rfl rfl (.no rfl rfl) ?_
    refine gp_quiet 32 rfl rfl rfl rfl rfl rfl (q_pick_t rfl rfl) ?_
    refine gp_quiet 33 rfl rfl rfl rfl rfl rfl (q_assign rfl) ?_
    refine gp_end rfl rfl ?_
    refine g_ret Try.func34 rfl (.tmp rfl .nil) ?_
    (first | exact Gives.mki ⟨congrArg Value.bool (decide_eq_true (by unfold unl; omega)).symm, rfl⟩ | exact Gives.mki ⟨congrArg Value.bool (decide_eq_decide.2 (by unfold unl; constructor <;> omega)), rfl⟩)
  intro hbr
  have hg12 := hbr
  have hbr := of_decide_eq_false hbr
  refine gp_quietg 8 rfl rfl rfl rfl rfl rfl (.yes rfl rfl (q_move rfl)) ?_
  refine gp_quietg 9 rfl rfl rfl rfl rfl rfl (.yes rfl rfl (q_move rfl)) ?_
  refine gp_quietg 10 rfl rfl rfl rfl rfl rfl (.yes rfl rfl (q_nilCheck rfl)) ?_
  refine gp_quietg 11 rfl rfl rfl rfl rfl rfl (.yes rfl rfl (q_fieldAddr fa_42_3 rfl)) ?_
  refine gp_quietg 12 rfl rfl rfl rfl rfl rfl (.yes rfl rfl (q_loadc (v := .slice (some ⟨x2, 0, none⟩) n2 n2) Try.isAgg23 rfl hT.2.1)) ?_
  refine gp_quietg 13 rfl rfl rfl rfl rfl rfl (.yes rfl rfl (q_len Try.underlying23 rfl)) ?_
  refine gp_quietg 14 rfl rfl rfl rfl rfl rfl (.yes rfl rfl (q_geq rfl rfl)) ?_
  refine gp_quiet 15 rfl rfl rfl rfl rfl rfl (q_pick_f rfl rfl) ?_
  refine gp_quiet 16 rfl rfl rfl rfl rfl rfl (q_move rfl) ?_
  refine gp_split 21 rfl ?_ ?_
  · intro hbr
    have hg21 := hbr
    have hbr := of_decide_eq_true hbr
    refine gp_quietg 17 rfl rfl rfl rfl rfl rfl (.no rfl rfl) ?_
    refine gp_quietg 18 rfl rfl rfl rfl rfl rfl (.no rfl rfl) ?_
    refine gp_quietg 19 rfl rfl rfl rfl rfl rfl (.no rfl rfl) ?_
    refine gp_quietg 20 rfl rfl rfl rfl rfl rfl (.no rfl rfl) ?_
    refine gp_quietg 21 rfl rfl rfl rfl rfl rfl (.no rfl rfl) ?_
    refine gp_quietg 22 rfl rfl rfl rfl rfl rfl (.no rfl rfl) ?_
    refine gp_quietg 23 rfl rfl rfl rfl rfl rfl (.no rfl rfl) ?_
    refine gp_quietg 24 rfl rfl rfl rfl rfl rfl (.no rfl rfl) ?_
    refine gp_quietg 25 rfl rfl rfl rfl rfl rfl (.no rfl rfl) ?_
    refine gp_quietg 26 rfl rfl rfl rfl rfl rfl (.no rfl rfl) ?_
    refine gp_quietg 27 rfl rfl rfl rfl rfl rfl (.no rfl rfl) ?_
    refine gp_quietg 28 rfl rfl rfl rfl rfl rfl (.no rfl rfl) ?_
    refine gp_quietg 29 rfl rfl rfl rfl rfl rfl (.no rfl rfl) ?_
    refine gp_quietg 30 rfl rfl rfl rfl rfl rfl (.no rfl rfl) ?_
    refine gp_quietg 31 rfl rfl rfl rfl rfl rfl (.no rfl rfl) ?_
    refine gp_quiet 32 rfl rfl rfl rfl rfl rfl (q_pick_t rfl rfl) ?_
    refine gp_quiet 33 rfl rfl rfl rfl rfl rfl (q_assign rfl) ?_
    refine gp_end rfl rfl ?_
    refine g_ret Try.func34 rfl (.tmp rfl .nil) ?_
    (first | exact Gives.mki ⟨congrArg Value.bool (decide_eq_true (by unfold unl; omega)).symm, rfl⟩ | exact Gives.mki ⟨congrArg Value.bool (decide_eq_decide.2 (by unfold unl; constructor <;> omega)), rfl⟩)
  intro hbr
  have hg21 := hbr
  have hbr := of_decide_eq_false hbr
  refine gp_quietg 17 rfl rfl rfl rfl rfl rfl (.yes rfl rfl (q_move rfl)) ?_
  refine gp_quietg 18 rfl rfl rfl rfl rfl rfl (.yes rfl rfl (q_nilCheck rfl)) ?_
  refine gp_quietg 19 rfl rfl rfl rfl rfl rfl (.yes rfl rfl (q_fieldAddr fa_42_2 rfl)) ?_
  refine gp_quietg 20 rfl rfl rfl rfl rfl rfl (.yes rfl rfl (q_loadc (v := .slice (some ⟨x1, 0, none⟩) n1 n1) Try.isAgg23 rfl hT.1)) ?_
  refine gp_quietg 21 rfl rfl rfl rfl rfl rfl (.yes rfl rfl (q_move rfl)) ?_
  refine gp_quietg 22 rfl rfl rfl rfl rfl rfl (.yes rfl rfl (q_ixs Try.underlying23 Try.sizeOf30 rfl rfl (by omega) (by omega))) ?_
  refine gp_quietg 23 rfl rfl rfl rfl rfl rfl (.yes rfl rfl (q_loadc Try.isAgg30 rfl (word_any hT.2.2.1 (by omega)))) ?_
  refine gp_quietg 24 rfl rfl rfl rfl rfl rfl (.yes rfl rfl (q_move rfl)) ?_
  refine gp_quietg 25 rfl rfl rfl rfl rfl rfl (.yes rfl rfl (q_nilCheck rfl)) ?_
  refine gp_quietg 26 rfl rfl rfl rfl rfl rfl (.yes rfl rfl (q_fieldAddr fa_42_3 rfl)) ?_
  refine gp_quietg 27 rfl rfl rfl rfl rfl rfl (.yes rfl rfl (q_loadc (v := .slice (some ⟨x2, 0, none⟩) n2 n2) Try.isAgg23 rfl hT.2.1)) ?_
  refine gp_quietg 28 rfl rfl rfl rfl rfl rfl (.yes rfl rfl (q_move rfl)) ?_
  refine gp_quietg 29 rfl rfl rfl rfl rfl rfl (.yes rfl rfl (q_ixs Try.underlying23 Try.sizeOf30 rfl rfl (by omega) (by omega))) ?_
  refine gp_quietg 30 rfl rfl rfl rfl rfl rfl (.yes rfl rfl (q_loadc Try.isAgg30 rfl (word_any hT.2.2.2 (by omega)))) ?_
  refine gp_quietg 31 rfl rfl rfl rfl rfl rfl (.yes rfl rfl (q_neq rfl rfl)) ?_
  refine gp_quiet 32 rfl rfl rfl rfl rfl rfl (q_pick_f rfl rfl) ?_
  refine gp_quiet 33 rfl rfl rfl rfl rfl rfl (q_assign rfl) ?_
  refine gp_end rfl rfl ?_
  refine g_ret Try.func34 rfl (.tmp rfl .nil) ?_
  (first | exact Gives.mki ⟨congrArg Value.bool (decide_eq_true (by unfold unl; omega)).symm, rfl⟩ | exact Gives.mki ⟨congrArg Value.bool (decide_eq_decide.2 (by unfold unl; constructor <;> omega)), rfl⟩)
theorem alike_ok (w0 : World) (F : List Atom) (tb x1 n1 x2 n2 : Nat) (A B : List Int) (hT : TwRd w0 F tb x1 n1 x2 n2 A B) (hA : A.length = n1) (hB : B.length = n2) (hn1 : n1 ≤ 1073741824) (hn2 : n2 ≤ 1073741824) (fr to : Int) (f0 : 0 ≤ fr) (t1 : to ≤ 9223372036854775807) (f1 : fr ≤ 9223372036854775807) (hall : ∀ j, fr ≤ j → j < to → ¬ unl n1 n2 A B j) :
    CallK Try.prog 33 [.pointer (some ⟨tb, 0, none⟩), .int .i64 fr, .int .i64 to] w0 (F) (Gives w0 fun v F2 => v = .bool true ∧ F2 = F) := by
  refine c_enter Try.func33 rfl rfl rfl ?_
  refine g_seq ?_
  refine g_region ?_
  refine l_assign rfl rfl ?_
  refine l_nil ?_
  refine g_seq ?_
  refine g_seq ?_
  refine g_region ?_
  refine l_move rfl rfl ?_
  refine l_assign rfl rfl ?_
  refine l_nil ?_
  refine g_block ?_
  refine g_loopc (X := Int) [(0, _), (2, _)] (.cons rfl (.cons rfl (.nil))) (fun i => fr ≤ i ∧ (i ≤ to ∨ to < fr ∧ i = fr)) (fun i => (to - i).toNat) (fun i => [(7, .int .i64 i)]) (fr) (by omega) (.cons rfl .nil) ?_
  rintro i ⟨i0, i1⟩ ih
  dsimp only [List.cons_append, List.nil_append] at ih ⊢
  refine g_seq ?_
  refine g_seq ?_
  refine g_region ?_
  refine l_move rfl rfl ?_
  refine l_move rfl rfl ?_
  refine l_lss rfl rfl rfl ?_
  refine l_nil ?_
  refine g_cond rfl ?_ ?_
  · intro hbr
    have hbr := of_decide_eq_true hbr
    refine g_skip ?_
    refine g_seq ?_
    refine g_block ?_
    refine g_seq ?_
    refine g_region ?_
    refine l_move rfl rfl ?_
    refine l_move rfl rfl ?_
    refine l_call rfl Try.call34 rfl (tunl_ok _ _ tb x1 n1 x2 n2 A B hT hA hB hn1 hn2 i (by omega)) ?_; rintro _ _ ⟨rfl, rfl⟩
    rw [decide_eq_false (hall i (by omega) (by omega))]
    refine l_nil ?_
    refine g_cond_f rfl ?_
    refine g_skip ?_
    refine g_inBlock ?_
    refine g_region ?_
    refine l_move rfl rfl ?_
    first | refine l_add rfl rfl rfl (w_i64 (by omega) (by omega)) ?_ | refine l_addw rfl rfl rfl ?_
    refine l_assign rfl rfl ?_
    refine l_nil ?_
    exact g_againi (ih (i + 1) (by omega) (by omega)) (.cons rfl (.cons rfl (.cons rfl (.nil))))
  intro hbr
  have hbr := of_decide_eq_false hbr
  refine g_exit rfl ?_
  refine g_seq ?_
  refine g_region ?_
  refine l_assign rfl rfl ?_
  refine l_nil ?_
  refine g_ret Try.func33 rfl (.tmp rfl .nil) ?_
  exact Gives.mki ⟨rfl, rfl⟩
theorem twr_1 (w0 : World) (F : List Atom) (tb b1 g1 n1 c1 b2 g2 n2 c2 x1 x2 : Nat) (hc1 : n1 ≤ c1) (hn1 : n1 ≤ 1073741824) (hc2 : n2 ≤ c2) (hn2 : n2 ≤ 1073741824) (A B : List Int) (hA : A.length = n1) (hB : B.length = n2) (at_ x : Int) (a0 : -9223372036854775808 ≤ at_) (a1 : at_ ≤ 9223372036854775807) :
    CallK Try.prog 15 [.pointer (some ⟨tb, 0, none⟩), .agg [Value.bool false, .int .i64 at_, .int .u32 x].toArray] w0 (Blk tb (.cells [Value.pointer (some ⟨b1, 0, none⟩), .pointer (some ⟨b2, 0, none⟩), .slice (some ⟨x1, 0, none⟩) n1 n1, .slice (some ⟨x2, 0, none⟩) n2 n2].toArray 42 (0, 0)) :: Blk b1 (.cells [Value.slice (some ⟨g1, 0, none⟩) n1 c1].toArray 77 (0, 0)) :: Own 30 1 (.slice (some ⟨g1, 0, none⟩) n1 c1) n1 (ints .u32 A) :: Blk b2 (.cells [Value.slice (some ⟨g2, 0, none⟩) n2 c2].toArray 77 (0, 0)) :: Own 30 1 (.slice (some ⟨g2, 0, none⟩) n2 c2) n2 (ints .u32 B) :: Own 30 1 (.slice (some ⟨x1, 0, none⟩) n1 n1) n1 (ints .u32 A) :: Own 30 1 (.slice (some ⟨x2, 0, none⟩) n2 n2) n2 (ints .u32 B) :: F) (Gives w0 fun v F2 => ∃ X2, v = .bool true ∧ X2.length = n1 ∧ F2 = Blk tb (.cells [Value.pointer (some ⟨b1, 0, none⟩), .pointer (some ⟨b2, 0, none⟩), .slice (some ⟨x1, 0, none⟩) n1 n1, .slice (some ⟨x2, 0, none⟩) n2 n2].toArray 42 (0, 0)) :: Blk b1 (.cells [Value.slice (some ⟨g1, 0, none⟩) n1 c1].toArray 77 (0, 0)) :: Own 30 1 (.slice (some ⟨g1, 0, none⟩) n1 c1) n1 (ints .u32 X2) :: Blk b2 (.cells [Value.slice (some ⟨g2, 0, none⟩) n2 c2].toArray 77 (0, 0)) :: Own 30 1 (.slice (some ⟨g2, 0, none⟩) n2 c2) n2 (ints .u32 B) :: Own 30 1 (.slice (some ⟨x1, 0, none⟩) n1 n1) n1 (ints .u32 X2) :: Own 30 1 (.slice (some ⟨x2, 0, none⟩) n2 n2) n2 (ints .u32 B) :: F) := by
  refine c_enter Try.func15 rfl rfl rfl ?_
  refine g_seq ?_
  refine g_region ?_
  refine l_boxs rfl rfl ?_; intro b3
  refine l_assign rfl rfl ?_
  refine l_nil ?_
  refine g_seq ?_
  refine gp_start mo (by kernel_rfl) (by kernel_rfl) ?_
  refine gp_quiet 0 rfl rfl rfl rfl rfl rfl (q_move rfl) ?_
  refine gp_quiet 1 rfl rfl rfl rfl rfl rfl (q_nilCheck rfl) ?_
  refine gp_quiet 2 rfl rfl rfl rfl rfl rfl (q_fieldAddr fa_42_0 rfl) ?_
  refine gp_quiet 3 rfl rfl rfl rfl rfl rfl (q_ld Try.isAgg25 rfl rfl) ?_
  refine gp_quiet 4 rfl rfl rfl rfl rfl rfl (q_move rfl) ?_
  refine gp_quiet 5 rfl rfl rfl rfl rfl rfl (q_nilCheck rfl) ?_
  refine gp_quiet 6 rfl rfl rfl rfl rfl rfl (q_fieldAddr fa_42_2 rfl) ?_
  refine gp_quiet 7 rfl rfl rfl rfl rfl rfl (q_ld Try.isAgg23 rfl rfl) ?_
  refine gp_quiet 8 rfl rfl rfl rfl rfl rfl (q_assign rfl) ?_
  refine gp_quiet 9 rfl rfl rfl rfl rfl rfl (q_assign rfl) ?_
  refine gp_end rfl rfl ?_
  refine g_seq ?_
  refine g_seq ?_
  refine g_region ?_
  refine l_fieldAddr rfl fa_47_0 rfl ?_
  refine l_ld rfl Try.isAgg4 rfl rfl ?_
  refine l_nil ?_
  refine g_cond rfl ?_ ?_
  · intro hbr
    first | (exfalso; simp at hbr; done) | (exfalso; simp at hbr; omega)
  intro hbr
  have hb17 := hbr
  refine g_skip ?_
  refine g_seq ?_
  refine g_region ?_
  refine l_move rfl rfl ?_
  refine l_fieldAddr rfl fa_47_1 rfl ?_
  first | refine l_ld rfl Try.isAgg3 rfl rfl ?_ | refine l_ldw rfl Try.isAgg3 rfl (by omega) ?_
  refine l_fieldAddr rfl fa_47_2 rfl ?_
  first | refine l_ld rfl Try.isAgg30 rfl rfl ?_ | refine l_ldw rfl Try.isAgg30 rfl (by omega) ?_
  refine l_fronto g1 ?_
  refine l_frontb b1 ?_
  refine l_call rfl Try.call10 rfl (write_x _ _ b1 g1 n1 c1 A hA hc1 hn1 at_ x a0 a1) ?_; rintro _ _ ⟨e, W2, rfl, hWx, rfl⟩
  refine l_assign rfl rfl ?_
  refine l_nil ?_
  refine g_seq ?_
  refine g_seq ?_
  refine g_region ?_
  refine l_fieldAddr rfl fa_47_1 rfl ?_
  first | refine l_ld rfl Try.isAgg3 rfl rfl ?_ | refine l_ldw rfl Try.isAgg3 rfl (by omega) ?_
  refine l_lss rfl rfl rfl ?_
  refine l_move rfl rfl ?_
  refine l_split 35 rfl ?_ ?_
  · intro hbr
    have hbr := of_decide_eq_true hbr
    refine l_guard_no rfl rfl rfl ?_
    refine l_guard_no rfl rfl rfl ?_
    refine l_guard_no rfl rfl rfl ?_
    refine l_guard_no rfl rfl rfl ?_
    refine l_guard_no rfl rfl rfl ?_
    refine l_pick_t rfl rfl rfl ?_
    refine l_nil ?_
    refine g_cond_t rfl ?_
    refine g_seq ?_
    refine g_region ?_
    obtain ⟨rfl, rfl⟩ := hWx.2 (by unfold inR; omega)
    refine l_move rfl rfl ?_
    refine l_eql rfl rfl rfl ?_
    refine l_assign rfl rfl ?_
    refine l_nil ?_
    refine g_ret Try.func15 rfl (.tmp rfl .nil) ?_
    (first | exact Gives.mki ⟨A, rfl, hA, rfl⟩ | exact Gives.mki ⟨A.set at_.toNat x, rfl, by rw [List.length_set]; exact hA, rfl⟩)
  intro hbr
  have hbr := of_decide_eq_false hbr
  refine l_guard_yes rfl rfl ?_
  refine l_fieldAddr rfl fa_47_1 rfl ?_
  refine l_guard_yes rfl rfl ?_
  first | refine l_ld rfl Try.isAgg3 rfl rfl ?_ | refine l_ldw rfl Try.isAgg3 rfl (by omega) ?_
  refine l_guard_yes rfl rfl ?_
  refine l_move rfl rfl ?_
  refine l_guard_yes rfl rfl ?_
  refine l_len rfl Try.underlying23 rfl ?_
  refine l_guard_yes rfl rfl ?_
  refine l_geq rfl rfl rfl ?_
  refine l_pick_f rfl rfl rfl ?_
  refine l_nil ?_
  refine g_cond rfl ?_ ?_
  · intro hbr
    have hbr := of_decide_eq_true hbr
    refine g_seq ?_
    refine g_region ?_
    obtain ⟨rfl, rfl⟩ := hWx.2 (by unfold inR; omega)
    refine l_move rfl rfl ?_
    refine l_eql rfl rfl rfl ?_
    refine l_assign rfl rfl ?_
    refine l_nil ?_
    refine g_ret Try.func15 rfl (.tmp rfl .nil) ?_
    (first | exact Gives.mki ⟨A, rfl, hA, rfl⟩ | exact Gives.mki ⟨A.set at_.toNat x, rfl, by rw [List.length_set]; exact hA, rfl⟩)
  intro hbr
  have hbr := of_decide_eq_false hbr
  refine g_skip ?_
  refine g_seq ?_
  refine g_region ?_
  obtain ⟨rfl, rfl⟩ := hWx.1 (by unfold inR; omega)
  refine l_move rfl rfl ?_
  refine l_fieldAddr rfl fa_47_1 rfl ?_
  first | refine l_ld rfl Try.isAgg3 rfl rfl ?_ | refine l_ldw rfl Try.isAgg3 rfl (by omega) ?_
  refine l_fieldAddr rfl fa_47_2 rfl ?_
  first | refine l_ld rfl Try.isAgg30 rfl rfl ?_ | refine l_ldw rfl Try.isAgg30 rfl (by omega) ?_
  refine l_ixs rfl Try.underlying23 Try.sizeOf30 rfl rfl (by omega) (by omega) ?_
  refine l_fronto x1 ?_
  refine l_storew 0 Try.sizeOf30 rfl rfl rfl (by omega) rfl ?_
  refine l_nil ?_
  refine g_seq ?_
  refine g_region ?_
  refine l_move rfl rfl ?_
  refine l_eql rfl rfl rfl ?_
  refine l_assign rfl rfl ?_
  refine l_nil ?_
  refine g_ret Try.func15 rfl (.tmp rfl .nil) ?_
  (first | exact Gives.mki ⟨A, rfl, hA, rfl⟩ | exact Gives.mki ⟨A.set at_.toNat x, rfl, by rw [List.length_set]; exact hA, rfl⟩)
theorem twr_2 (w0 : World) (F : List Atom) (tb b1 g1 n1 c1 b2 g2 n2 c2 x1 x2 : Nat) (hc1 : n1 ≤ c1) (hn1 : n1 ≤ 1073741824) (hc2 : n2 ≤ c2) (hn2 : n2 ≤ 1073741824) (A B : List Int) (hA : A.length = n1) (hB : B.length = n2) (at_ x : Int) (a0 : -9223372036854775808 ≤ at_) (a1 : at_ ≤ 9223372036854775807) :
    CallK Try.prog 15 [.pointer (some ⟨tb, 0, none⟩), .agg [Value.bool true, .int .i64 at_, .int .u32 x].toArray] w0 (Blk tb (.cells [Value.pointer (some ⟨b1, 0, none⟩), .pointer (some ⟨b2, 0, none⟩), .slice (some ⟨x1, 0, none⟩) n1 n1, .slice (some ⟨x2, 0, none⟩) n2 n2].toArray 42 (0, 0)) :: Blk b1 (.cells [Value.slice (some ⟨g1, 0, none⟩) n1 c1].toArray 77 (0, 0)) :: Own 30 1 (.slice (some ⟨g1, 0, none⟩) n1 c1) n1 (ints .u32 A) :: Blk b2 (.cells [Value.slice (some ⟨g2, 0, none⟩) n2 c2].toArray 77 (0, 0)) :: Own 30 1 (.slice (some ⟨g2, 0, none⟩) n2 c2) n2 (ints .u32 B) :: Own 30 1 (.slice (some ⟨x1, 0, none⟩) n1 n1) n1 (ints .u32 A) :: Own 30 1 (.slice (some ⟨x2, 0, none⟩) n2 n2) n2 (ints .u32 B) :: F) (Gives w0 fun v F2 => ∃ X2, v = .bool true ∧ X2.length = n2 ∧ F2 = Blk tb (.cells [Value.pointer (some ⟨b1, 0, none⟩), .pointer (some ⟨b2, 0, none⟩), .slice (some ⟨x1, 0, none⟩) n1 n1, .slice (some ⟨x2, 0, none⟩) n2 n2].toArray 42 (0, 0)) :: Blk b1 (.cells [Value.slice (some ⟨g1, 0, none⟩) n1 c1].toArray 77 (0, 0)) :: Own 30 1 (.slice (some ⟨g1, 0, none⟩) n1 c1) n1 (ints .u32 A) :: Blk b2 (.cells [Value.slice (some ⟨g2, 0, none⟩) n2 c2].toArray 77 (0, 0)) :: Own 30 1 (.slice (some ⟨g2, 0, none⟩) n2 c2) n2 (ints .u32 X2) :: Own 30 1 (.slice (some ⟨x1, 0, none⟩) n1 n1) n1 (ints .u32 A) :: Own 30 1 (.slice (some ⟨x2, 0, none⟩) n2 n2) n2 (ints .u32 X2) :: F) := by
  refine c_enter Try.func15 rfl rfl rfl ?_
  refine g_seq ?_
  refine g_region ?_
  refine l_boxs rfl rfl ?_; intro b3
  refine l_assign rfl rfl ?_
  refine l_nil ?_
  refine g_seq ?_
  refine gp_start mo (by kernel_rfl) (by kernel_rfl) ?_
  refine gp_quiet 0 rfl rfl rfl rfl rfl rfl (q_move rfl) ?_
  refine gp_quiet 1 rfl rfl rfl rfl rfl rfl (q_nilCheck rfl) ?_
  refine gp_quiet 2 rfl rfl rfl rfl rfl rfl (q_fieldAddr fa_42_0 rfl) ?_
  refine gp_quiet 3 rfl rfl rfl rfl rfl rfl (q_ld Try.isAgg25 rfl rfl) ?_
  refine gp_quiet 4 rfl rfl rfl rfl rfl rfl (q_move rfl) ?_
  refine gp_quiet 5 rfl rfl rfl rfl rfl rfl (q_nilCheck rfl) ?_
  refine gp_quiet 6 rfl rfl rfl rfl rfl rfl (q_fieldAddr fa_42_2 rfl) ?_
  refine gp_quiet 7 rfl rfl rfl rfl rfl rfl (q_ld Try.isAgg23 rfl rfl) ?_
  refine gp_quiet 8 rfl rfl rfl rfl rfl rfl (q_assign rfl) ?_
  refine gp_quiet 9 rfl rfl rfl rfl rfl rfl (q_assign rfl) ?_
  refine gp_end rfl rfl ?_
  refine g_seq ?_
  refine g_seq ?_
  refine g_region ?_
  refine l_fieldAddr rfl fa_47_0 rfl ?_
  refine l_ld rfl Try.isAgg4 rfl rfl ?_
  refine l_nil ?_
  refine g_cond rfl ?_ ?_
  · intro hbr
    have hb17 := hbr
    refine gp_start mo (by kernel_rfl) (by kernel_rfl) ?_
    refine gp_quiet 0 rfl rfl rfl rfl rfl rfl (q_move rfl) ?_
    refine gp_quiet 1 rfl rfl rfl rfl rfl rfl (q_nilCheck rfl) ?_
    refine gp_quiet 2 rfl rfl rfl rfl rfl rfl (q_fieldAddr fa_42_1 rfl) ?_
    refine gp_quiet 3 rfl rfl rfl rfl rfl rfl (q_ld Try.isAgg25 rfl rfl) ?_
    refine gp_quiet 4 rfl rfl rfl rfl rfl rfl (q_move rfl) ?_
    refine gp_quiet 5 rfl rfl rfl rfl rfl rfl (q_nilCheck rfl) ?_
    refine gp_quiet 6 rfl rfl rfl rfl rfl rfl (q_fieldAddr fa_42_3 rfl) ?_
    refine gp_quiet 7 rfl rfl rfl rfl rfl rfl (q_ld Try.isAgg23 rfl rfl) ?_
    refine gp_quiet 8 rfl rfl rfl rfl rfl rfl (q_assign rfl) ?_
    refine gp_quiet 9 rfl rfl rfl rfl rfl rfl (q_assign rfl) ?_
    refine gp_end rfl rfl ?_
    refine g_seq ?_
    refine g_region ?_
    refine l_move rfl rfl ?_
    refine l_fieldAddr rfl fa_47_1 rfl ?_
    first | refine l_ld rfl Try.isAgg3 rfl rfl ?_ | refine l_ldw rfl Try.isAgg3 rfl (by omega) ?_
    refine l_fieldAddr rfl fa_47_2 rfl ?_
    first | refine l_ld rfl Try.isAgg30 rfl rfl ?_ | refine l_ldw rfl Try.isAgg30 rfl (by omega) ?_
    refine l_fronto g2 ?_
    refine l_frontb b2 ?_
    refine l_call rfl Try.call10 rfl (write_x _ _ b2 g2 n2 c2 B hB hc2 hn2 at_ x a0 a1) ?_; rintro _ _ ⟨e, W2, rfl, hWx, rfl⟩
    refine l_assign rfl rfl ?_
    refine l_nil ?_
    refine g_seq ?_
    refine g_seq ?_
    refine g_region ?_
    refine l_fieldAddr rfl fa_47_1 rfl ?_
    first | refine l_ld rfl Try.isAgg3 rfl rfl ?_ | refine l_ldw rfl Try.isAgg3 rfl (by omega) ?_
    refine l_lss rfl rfl rfl ?_
    refine l_move rfl rfl ?_
    refine l_split 35 rfl ?_ ?_
    · intro hbr
      have hbr := of_decide_eq_true hbr
      refine l_guard_no rfl rfl rfl ?_
      refine l_guard_no rfl rfl rfl ?_
      refine l_guard_no rfl rfl rfl ?_
      refine l_guard_no rfl rfl rfl ?_
      refine l_guard_no rfl rfl rfl ?_
      refine l_pick_t rfl rfl rfl ?_
      refine l_nil ?_
      refine g_cond_t rfl ?_
      refine g_seq ?_
      refine g_region ?_
      obtain ⟨rfl, rfl⟩ := hWx.2 (by unfold inR; omega)
      refine l_move rfl rfl ?_
      refine l_eql rfl rfl rfl ?_
      refine l_assign rfl rfl ?_
      refine l_nil ?_
      refine g_ret Try.func15 rfl (.tmp rfl .nil) ?_
      (first | exact Gives.mki ⟨B, rfl, hB, rfl⟩ | exact Gives.mki ⟨B.set at_.toNat x, rfl, by rw [List.length_set]; exact hB, rfl⟩)
    intro hbr
    have hbr := of_decide_eq_false hbr
    refine l_guard_yes rfl rfl ?_
    refine l_fieldAddr rfl fa_47_1 rfl ?_
    refine l_guard_yes rfl rfl ?_
    first | refine l_ld rfl Try.isAgg3 rfl rfl ?_ | refine l_ldw rfl Try.isAgg3 rfl (by omega) ?_
    refine l_guard_yes rfl rfl ?_
    refine l_move rfl rfl ?_
    refine l_guard_yes rfl rfl ?_
    refine l_len rfl Try.underlying23 rfl ?_
    refine l_guard_yes rfl rfl ?_
    refine l_geq rfl rfl rfl ?_
    refine l_pick_f rfl rfl rfl ?_
    refine l_nil ?_
    refine g_cond rfl ?_ ?_
    · intro hbr
      have hbr := of_decide_eq_true hbr
      refine g_seq ?_
      refine g_region ?_
      obtain ⟨rfl, rfl⟩ := hWx.2 (by unfold inR; omega)
      refine l_move rfl rfl ?_
      refine l_eql rfl rfl rfl ?_
      refine l_assign rfl rfl ?_
      refine l_nil ?_
      refine g_ret Try.func15 rfl (.tmp rfl .nil) ?_
      (first | exact Gives.mki ⟨B, rfl, hB, rfl⟩ | exact Gives.mki ⟨B.set at_.toNat x, rfl, by rw [List.length_set]; exact hB, rfl⟩)
    intro hbr
    have hbr := of_decide_eq_false hbr
    refine g_skip ?_
    refine g_seq ?_
    refine g_region ?_
    obtain ⟨rfl, rfl⟩ := hWx.1 (by unfold inR; omega)
    refine l_move rfl rfl ?_
    refine l_fieldAddr rfl fa_47_1 rfl ?_
    first | refine l_ld rfl Try.isAgg3 rfl rfl ?_ | refine l_ldw rfl Try.isAgg3 rfl (by omega) ?_
    refine l_fieldAddr rfl fa_47_2 rfl ?_
    first | refine l_ld rfl Try.isAgg30 rfl rfl ?_ | refine l_ldw rfl Try.isAgg30 rfl (by omega) ?_
    refine l_ixs rfl Try.underlying23 Try.sizeOf30 rfl rfl (by omega) (by omega) ?_
    refine l_fronto x2 ?_
    refine l_storew 0 Try.sizeOf30 rfl rfl rfl (by omega) rfl ?_
    refine l_nil ?_
    refine g_seq ?_
    refine g_region ?_
    refine l_move rfl rfl ?_
    refine l_eql rfl rfl rfl ?_
    refine l_assign rfl rfl ?_
    refine l_nil ?_
    refine g_ret Try.func15 rfl (.tmp rfl .nil) ?_
    (first | exact Gives.mki ⟨B, rfl, hB, rfl⟩ | exact Gives.mki ⟨B.set at_.toNat x, rfl, by rw [List.length_set]; exact hB, rfl⟩)
  · intro hbr
    first | (exfalso; simp at hbr; done) | (exfalso; simp at hbr; omega)
end Go.Proofs.Ytlgcghhjgcdigaa.Fw
