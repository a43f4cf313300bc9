import Derived.Test.YtfccfjgnoeocnaaSpansF
import Derived.Test.YtfccfjgnoeocnaaKeepI
namespace Go.Proofs.Ytfccfjgnoeocnaa.Fw
open Go Go.Proofs
set_option linter.unusedVariables false
set_option linter.unusedSimpArgs false
set_option maxRecDepth 10000
theorem sq_52 (x0 : Int) (x1 : Int) (x2 : Int) (x3 : Int) (y0 : Int) (y1 : Int) (y2 : Int) (y3 : Int) (w : World) : (Op.equalIn 10000 52 (.agg #[.int .i64 x0, .int .i64 x1, .int .i64 x2, .int .i64 x3]) (.agg #[.int .i64 y0, .int .i64 y1, .int .i64 y2, .int .i64 y3])).run Try.prog w = .ok (decide (x0 = y0) && decide (x1 = y1) && decide (x2 = y2) && decide (x3 = y3)) w := by
  rw [run_equalIn_struct w 9999 52 _ _ (by simp [Program.fieldsOf, Try.underlying52]) Try.stoodInHeld52]
  have e0 := fun w => run_equalIn_int (P := Try.prog) w 9998 3 .i64 .i64 x0 y0 Try.underlying3
  have e1 := fun w => run_equalIn_int (P := Try.prog) w 9998 3 .i64 .i64 x1 y1 Try.underlying3
  have e2 := fun w => run_equalIn_int (P := Try.prog) w 9998 3 .i64 .i64 x2 y2 Try.underlying3
  have e3 := fun w => run_equalIn_int (P := Try.prog) w 9998 3 .i64 .i64 x3 y3 Try.underlying3
  simp [Program.fieldsOf, Try.underlying52, Op.eqFields, part, Try.isAgg3, e0, e1, e2, e3, Sem.run_bind, Sem.run_pure, Sem.run_ite]
  by_cases h0 : x0 = y0 <;> by_cases h1 : x1 = y1 <;> by_cases h2 : x2 = y2 <;> by_cases h3 : x3 = y3 <;> simp [*]
theorem sqn_52 (x0 : Int) (x1 : Int) (x2 : Int) (x3 : Int) (y0 : Int) (y1 : Int) (y2 : Int) (y3 : Int) (w : World) : (binOp .neq 52 (.agg #[.int .i64 x0, .int .i64 x1, .int .i64 x2, .int .i64 x3]) (.agg #[.int .i64 y0, .int .i64 y1, .int .i64 y2, .int .i64 y3])).run Try.prog w = .ok (.bool (!(decide (x0 = y0) && decide (x1 = y1) && decide (x2 = y2) && decide (x3 = y3)))) w := by
  rw [run_neq_struct, sq_52]; rfl
theorem bd_52_0 (a0_0 : Int) (w : World) : (Instr.build 52 #[(0, .int .i64 a0_0)]).run Try.prog w = .ok (.agg #[.int .i64 a0_0, .int .i64 0, .int .i64 0, .int .i64 0]) w := by kernel_rfl
theorem same_ints (w0 : World) (F : List Atom) (a a2 : Option Addr) (n c c2 : Nat) (W : List Int) (h1 : IR w0 F .i64 a n W) (h2 : IR w0 F .i64 a2 n W) (hn : n ≤ 140737488355328) :
    CallK Try.prog 19 [.slice a n c, .slice a2 n c2] w0 (F) (Gives w0 fun v F2 => v = .bool true ∧ F2 = F) := by
  have hl := h1.1
  refine c_enter Try.func19 rfl rfl rfl ?_
  refine g_seq ?_
  refine g_region ?_
  refine l_assign rfl rfl ?_
  refine l_nil ?_
  refine g_seq ?_
  refine g_seq ?_
  refine g_region ?_
  refine l_move rfl rfl ?_
  refine l_len rfl Try.underlying35 rfl ?_
  refine l_move rfl rfl ?_
  refine l_len rfl Try.underlying35 rfl ?_
  refine l_neq rfl rfl rfl ?_
  refine l_nil ?_
  refine g_cond rfl ?_ ?_
  · intro hbr
    have hbr := of_decide_eq_true hbr
    (exfalso; omega)
  intro hbr
  have hbr := of_decide_eq_false hbr
  refine g_skip ?_
  refine g_seq ?_
  refine g_seq ?_
  refine g_region ?_
  refine l_assign rfl rfl ?_
  refine l_nil ?_
  refine g_block ?_
  refine g_loopc (X := Int) [(0, _), (1, _)] (.cons rfl (.cons rfl (.nil))) (fun i => 0 ≤ i ∧ i ≤ n) (fun i => (n - i).toNat) (fun i => [(5, .int .i64 i)]) (0) (by omega) (.cons rfl .nil) ?_
  rintro i ⟨i0, i1⟩ ih
  dsimp only [List.cons_append, List.nil_append] at ih ⊢
  refine g_seq ?_
  refine g_seq ?_
  refine g_region ?_
  refine l_move rfl rfl ?_
  refine l_move rfl rfl ?_
  refine l_len rfl Try.underlying35 rfl ?_
  refine l_lss rfl rfl rfl ?_
  refine l_nil ?_
  refine g_cond rfl ?_ ?_
  · intro hbr
    have hbr := of_decide_eq_true hbr
    refine g_skip ?_
    refine g_seq ?_
    refine g_block ?_
    refine g_seq ?_
    refine gp_start mo (by kernel_rfl) (by kernel_rfl) ?_
    refine gp_quiet 0 rfl rfl rfl rfl rfl rfl (q_move rfl) ?_
    refine gp_quiet 1 rfl rfl rfl rfl rfl rfl (q_move rfl) ?_
    obtain ⟨b9, o9, rfl, hr9⟩ := h1.some (i := i.toNat) (by omega)
    obtain ⟨b7, o7, rfl, hr7⟩ := h2.some (i := i.toNat) (by omega)
    refine gp_quiet 2 rfl rfl rfl rfl rfl rfl (q_ixs Try.underlying35 Try.sizeOf3 rfl rfl (by omega) (by omega)) ?_
    refine gp_quiet 3 rfl rfl rfl rfl rfl rfl (q_loadc Try.isAgg3 rfl (word_any hr9 (by omega))) ?_
    refine gp_quiet 4 rfl rfl rfl rfl rfl rfl (q_move rfl) ?_
    refine gp_quiet 5 rfl rfl rfl rfl rfl rfl (q_move rfl) ?_
    refine gp_quiet 6 rfl rfl rfl rfl rfl rfl (q_ixs Try.underlying35 Try.sizeOf3 rfl rfl (by omega) (by omega)) ?_
    refine gp_quiet 7 rfl rfl rfl rfl rfl rfl (q_loadc Try.isAgg3 rfl (word_any hr7 (by omega))) ?_
    refine gp_quiet 8 rfl rfl rfl rfl rfl rfl (q_neq rfl rfl) ?_
    refine gp_end rfl rfl ?_
    refine g_cond rfl ?_ ?_
    · intro hbr
      have hbr := of_decide_eq_true hbr
      (exfalso; omega)
    intro hbr
    have hbr := of_decide_eq_false hbr
    refine g_skip ?_
    refine g_inBlock ?_
    refine g_region ?_
    refine l_move rfl rfl ?_
    first | refine l_add rfl rfl rfl (w_i64 (by omega) (by omega)) ?_ | refine l_addw rfl rfl rfl ?_
    refine l_assign rfl rfl ?_
    refine l_nil ?_
    exact g_againi (ih (i + 1) (by omega) (by omega)) (.cons rfl (.cons rfl (.cons rfl (.nil))))
  intro hbr
  have hbr := of_decide_eq_false hbr
  refine g_exit rfl ?_
  refine g_seq ?_
  refine g_region ?_
  refine l_assign rfl rfl ?_
  refine l_nil ?_
  refine g_ret Try.func19 rfl (.tmp rfl .nil) ?_
  exact Gives.mki ⟨rfl, rfl⟩
def SR (w0 : World) (F : List Atom) (a : Option Addr) (n : Nat) (L : List Span) : Prop := L.length = n ∧ (n = 0 ∨ ∃ b o, a = some ⟨b, o, none⟩ ∧ RowAt w0 F b o (spRows L))
theorem SR.ex {w0 : World} {F0 F : List Atom} {a n L} (h : SR w0 F0 a n L) [e : Ext F0 F] : SR w0 F a n L := ⟨h.1, h.2.imp id fun ⟨b, o, h1, h2⟩ => ⟨b, o, h1, h2.ex⟩⟩
theorem SR.some {w0 : World} {F : List Atom} {a n L} (h : SR w0 F a n L) {i : Nat} (hi : i < n) : ∃ b o, a = some ⟨b, o, none⟩ ∧ RowAt w0 F b o (spRows L) := by
  rcases h.2 with h | h
  · omega
  · exact h
theorem SR.own {w0 : World} {F : List Atom} {E n cap : Nat} {a : Option Addr} {L : List Span} (hL : L.length = n) (hm : Own E 4 (.slice a n cap) n (spRows L) ∈ F) (ha : n = 0 ∨ ∃ g, a = Option.some ⟨g, 0, none⟩) : SR w0 F a n L :=
  ⟨hL, ha.imp id fun ⟨g, h⟩ => ⟨g, 0, h, by subst h; exact .own hm⟩⟩
theorem spRows_len (L : List Span) : (spRows L).length = L.length * 4 := by
  have := flat_len (rows := L.map spanRow) (sz := 4) (fun r hr => sp_len L r hr)
  simpa [spRows] using this
theorem spRows_get {L : List Span} {j q : Nat} (hj : j < L.length) (hq : q < 4) : (spRows L)[j * 4 + q]? = (spanRow (sat L j))[q]? := flat_get (rows := L.map spanRow) (fun r hr => sp_len L r hr) j q (spanRow (sat L j)) (sp_at hj) hq
theorem spRows_ext {L M : List Span} {n : Nat} (hL : n ≤ L.length) (hM : n ≤ M.length) (h : ∀ j, j < n → sat L j = sat M j) : ∀ i, i < n * 4 → (spRows L)[i]? = (spRows M)[i]? := by
  intro i hi
  have h1 : i / 4 * 4 + i % 4 = i := by omega
  have h2 : i / 4 < n := by omega
  rw [← h1, spRows_get (by omega) (by omega), spRows_get (by omega) (by omega), h _ h2]
theorem SR.fam {w0 : World} {F : List Atom} {E n cap : Nat} {a : Option Addr} {L : List Span} {vs : List (Value × Nat)} (hF : Fam E 4 (spRows L) vs ∈ F) (hm : (Value.slice a n cap, n) ∈ vs) (hn : n ≤ L.length) (ha : n = 0 ∨ ∃ g, a = Option.some ⟨g, 0, none⟩) : SR w0 F a n (L.take n) :=
  ⟨by rw [List.length_take]; omega, ha.imp id fun ⟨g, h⟩ => ⟨g, 0, h, by
    subst h
    have := Fam.row (w0 := w0) hF hm
    have e : (spRows L).take (n * 4) = spRows (L.take n) := by
      have hlen : (L.take n).length = n := by rw [List.length_take]; omega
      apply List.ext_getElem?
      intro i
      rw [List.getElem?_take]
      split
      · rename_i hi
        exact spRows_ext hn (by omega) (fun j hj => by simp [sat, List.getD_eq_getElem?_getD, List.getElem?_take, hj]) i hi
      · rw [List.getElem?_eq_none]
        rw [spRows_len, hlen]; omega
    rwa [e] at this⟩⟩
theorem span_cell {w0 : World} {F0 F : List Atom} {b o : Nat} {L : List Span} (h : RowAt w0 F0 b o (spRows L)) [e : Ext F0 F] {j : Nat} (hj : j < L.length) (q : Nat) {v : Value} (hv : (spanRow (sat L j))[q]? = some v) : CellAt w0 F b (o + j * 4 + q) v :=
  (row_elem (rows := L.map spanRow) h.ex (sp_len L) (sp_at hj)).cell hv
theorem span_row {w0 : World} {F0 F : List Atom} {b o : Nat} {L : List Span} (h : RowAt w0 F0 b o (spRows L)) [e : Ext F0 F] {j : Nat} (hj : j < L.length) : RowAt w0 F b (o + j * 4) (spanRow (sat L j)) := row_elem (rows := L.map spanRow) h.ex (sp_len L) (sp_at hj)
theorem spRows_set {L : List Span} {j : Nat} {x : Span} (hj : j < L.length) : spl (0 + j * 4) (spanRow x) (spRows L) = spRows (L.set j x) := by
  apply List.ext_getElem?
  intro i
  rw [spl_get (by rw [spRows_len]; simp [spanRow]; omega)]
  have hl : (spanRow x).length = 4 := rfl
  rw [hl]
  have h1 : i / 4 * 4 + i % 4 = i := by omega
  by_cases hi : i / 4 < L.length
  · have hr : (spRows (L.set j x))[i]? = (spanRow (sat (L.set j x) (i / 4)))[i % 4]? := by
      conv => lhs; rw [← h1]
      exact spRows_get (by simpa using hi) (by omega)
    rw [hr]
    by_cases hij : i / 4 = j
    · rw [if_pos (by omega)]
      have : sat (L.set j x) (i / 4) = x := by rw [hij]; simp [sat, hj]
      rw [this]
      congr 1; omega
    · rw [if_neg (by omega)]
      have : sat (L.set j x) (i / 4) = sat L (i / 4) := by simp [sat, List.getD_eq_getElem?_getD, List.getElem?_set, show ¬ j = i / 4 from fun e => hij e.symm]
      rw [this]
      conv => lhs; rw [← h1]
      exact spRows_get hi (by omega)
  · rw [if_neg (by omega), List.getElem?_eq_none (by rw [spRows_len]; omega), List.getElem?_eq_none (by rw [spRows_len]; simp; omega)]
theorem same_spans (w0 : World) (F : List Atom) (a a2 : Option Addr) (n c c2 : Nat) (L : List Span) (h1 : SR w0 F a n L) (h2 : SR w0 F a2 n L) (hn : n ≤ 140737488355328) :
    CallK Try.prog 23 [.slice a n c, .slice a2 n c2] w0 (F) (Gives w0 fun v F2 => v = .bool true ∧ F2 = F) := by
  have hl := h1.1
  refine c_enter Try.func23 rfl rfl rfl ?_
  refine g_seq ?_
  refine g_region ?_
  refine l_assign rfl rfl ?_
  refine l_nil ?_
  refine g_seq ?_
  refine g_seq ?_
  refine g_region ?_
  refine l_move rfl rfl ?_
  refine l_len rfl Try.underlying45 rfl ?_
  refine l_move rfl rfl ?_
  refine l_len rfl Try.underlying45 rfl ?_
  refine l_neq rfl rfl rfl ?_
  refine l_nil ?_
  refine g_cond rfl ?_ ?_
  · intro hbr
    have hbr := of_decide_eq_true hbr
    (exfalso; omega)
  intro hbr
  have hbr := of_decide_eq_false hbr
  refine g_skip ?_
  refine g_seq ?_
  refine g_seq ?_
  refine g_region ?_
  refine l_assign rfl rfl ?_
  refine l_nil ?_
  refine g_block ?_
  refine g_loopc (X := Int) [(0, _), (1, _)] (.cons rfl (.cons rfl (.nil))) (fun i => 0 ≤ i ∧ i ≤ n) (fun i => (n - i).toNat) (fun i => [(5, .int .i64 i)]) (0) (by omega) (.cons rfl .nil) ?_
  rintro i ⟨i0, i1⟩ ih
  dsimp only [List.cons_append, List.nil_append] at ih ⊢
  refine g_seq ?_
  refine g_seq ?_
  refine g_region ?_
  refine l_move rfl rfl ?_
  refine l_move rfl rfl ?_
  refine l_len rfl Try.underlying45 rfl ?_
  refine l_lss rfl rfl rfl ?_
  refine l_nil ?_
  refine g_cond rfl ?_ ?_
  · intro hbr
    have hbr := of_decide_eq_true hbr
    refine g_skip ?_
    refine g_seq ?_
    refine g_block ?_
    refine g_seq ?_
    refine gp_start mo (by kernel_rfl) (by kernel_rfl) ?_
    refine gp_quiet 0 rfl rfl rfl rfl rfl rfl (q_move rfl) ?_
    refine gp_quiet 1 rfl rfl rfl rfl rfl rfl (q_move rfl) ?_
    obtain ⟨b9, o9, rfl, hr9⟩ := h1.some (i := i.toNat) (by omega)
    obtain ⟨b7, o7, rfl, hr7⟩ := h2.some (i := i.toNat) (by omega)
    refine gp_quiet 2 rfl rfl rfl rfl rfl rfl (q_ixs Try.underlying45 Try.sizeOf52 rfl rfl (by omega) (by omega)) ?_
    refine gp_quiet 3 rfl rfl rfl rfl rfl rfl (q_loadr (l := spanRow (sat L i.toNat)) Try.isAgg52 Try.sizeOf52 rfl rfl (span_row hr9 (by omega))) ?_
    refine gp_quiet 4 rfl rfl rfl rfl rfl rfl (q_move rfl) ?_
    refine gp_quiet 5 rfl rfl rfl rfl rfl rfl (q_move rfl) ?_
    refine gp_quiet 6 rfl rfl rfl rfl rfl rfl (q_ixs Try.underlying45 Try.sizeOf52 rfl rfl (by omega) (by omega)) ?_
    refine gp_quiet 7 rfl rfl rfl rfl rfl rfl (q_loadr (l := spanRow (sat L i.toNat)) Try.isAgg52 Try.sizeOf52 rfl rfl (span_row hr7 (by omega))) ?_
    refine gp_quiet 8 rfl rfl rfl rfl rfl rfl (q_bin rfl rfl (fun w => run_eqGuard_agg w _ _ _ _ _ _ Try.eqGuardType52) (fun w => sqn_52 _ _ _ _ _ _ _ _ w)) ?_
    refine gp_end rfl rfl ?_
    refine g_cond rfl ?_ ?_
    · intro hbr
      first | (exfalso; simp at hbr; done) | (exfalso; simp at hbr; omega)
    intro hbr
    have hb25 := hbr
    refine g_skip ?_
    refine g_inBlock ?_
    refine g_region ?_
    refine l_move rfl rfl ?_
    first | refine l_add rfl rfl rfl (w_i64 (by omega) (by omega)) ?_ | refine l_addw rfl rfl rfl ?_
    refine l_assign rfl rfl ?_
    refine l_nil ?_
    exact g_againi (ih (i + 1) (by omega) (by omega)) (.cons rfl (.cons rfl (.cons rfl (.nil))))
  intro hbr
  have hbr := of_decide_eq_false hbr
  refine g_exit rfl ?_
  refine g_seq ?_
  refine g_region ?_
  refine l_assign rfl rfl ?_
  refine l_nil ?_
  refine g_ret Try.func23 rfl (.tmp rfl .nil) ?_
  exact Gives.mki ⟨rfl, rfl⟩
theorem all_spans (w0 : World) (F : List Atom) (a : Option Addr) (n c : Nat) (L : List Span) (h1 : SR w0 F a n L) (fr to mark : Int) (h0 : 0 ≤ fr) (hft : fr ≤ to) (ht : to ≤ n) (hn : n ≤ 140737488355328) (hm : ∀ j : Nat, fr ≤ j ∧ (j : Int) < to → (sat L j).1 = mark) :
    CallK Try.prog 42 [.slice a n c, .int .i64 fr, .int .i64 to, .int .i64 mark] w0 (F) (Gives w0 fun v F2 => v = .bool true ∧ F2 = F) := by
  have hl := h1.1
  refine c_enter Try.func42 rfl rfl rfl ?_
  refine g_seq ?_
  refine g_region ?_
  refine l_assign rfl rfl ?_
  refine l_nil ?_
  refine g_seq ?_
  refine g_seq ?_
  refine g_region ?_
  refine l_move rfl rfl ?_
  refine l_assign rfl rfl ?_
  refine l_nil ?_
  refine g_block ?_
  refine g_loopc (X := Int) [(0, _), (2, _), (3, _)] (.cons rfl (.cons rfl (.cons rfl (.nil)))) (fun i => fr ≤ i ∧ i ≤ to) (fun i => (to - i).toNat) (fun i => [(9, .int .i64 i)]) (fr) (by omega) (.cons rfl .nil) ?_
  rintro i ⟨i0, i1⟩ ih
  dsimp only [List.cons_append, List.nil_append] at ih ⊢
  have hmi := fun h => hm i.toNat h
  refine g_seq ?_
  refine g_seq ?_
  refine g_region ?_
  refine l_move rfl rfl ?_
  refine l_move rfl rfl ?_
  refine l_lss rfl rfl rfl ?_
  refine l_nil ?_
  refine g_cond rfl ?_ ?_
  · intro hbr
    have hbr := of_decide_eq_true hbr
    refine g_skip ?_
    refine g_seq ?_
    refine g_block ?_
    refine g_seq ?_
    refine g_region ?_
    refine l_move rfl rfl ?_
    refine l_move rfl rfl ?_
    obtain ⟨b9, o9, rfl, hr9⟩ := h1.some (i := i.toNat) (by omega)
    refine l_ixs rfl Try.underlying45 Try.sizeOf52 rfl rfl (by omega) (by omega) ?_
    refine l_fieldAddr rfl fa_52_0 rfl ?_
    refine l_loadc rfl Try.isAgg3 rfl (span_cell hr9 (j := i.toNat) (by omega) 0 (v := .int .i64 (sat L i.toNat).1) rfl) ?_
    refine l_move rfl rfl ?_
    refine l_neq rfl rfl rfl ?_
    refine l_nil ?_
    refine g_cond rfl ?_ ?_
    · intro hbr
      have hbr := of_decide_eq_true hbr
      (exfalso; omega)
    intro hbr
    have hbr := of_decide_eq_false hbr
    refine g_skip ?_
    refine g_inBlock ?_
    refine g_region ?_
    refine l_move rfl rfl ?_
    first | refine l_add rfl rfl rfl (w_i64 (by omega) (by omega)) ?_ | refine l_addw rfl rfl rfl ?_
    refine l_assign rfl rfl ?_
    refine l_nil ?_
    exact g_againi (ih (i + 1) (by omega) (by omega)) (.cons rfl (.cons rfl (.cons rfl (.cons rfl (.nil)))))
  intro hbr
  have hbr := of_decide_eq_false hbr
  refine g_exit rfl ?_
  refine g_seq ?_
  refine g_region ?_
  refine l_assign rfl rfl ?_
  refine l_nil ?_
  refine g_ret Try.func42 rfl (.tmp rfl .nil) ?_
  exact Gives.mki ⟨rfl, rfl⟩
theorem mk_get {B : List Span} {n i q : Nat} {x : Span} (hB : B.length = n) (hi : i < 17) (hq : q < 4) : (spRows (B ++ List.replicate 17 x))[(n + i) * 4 + q]? = (spanRow x)[q]? := by
  rw [spRows_get (by rw [List.length_append, List.length_replicate]; omega) hq]
  have : sat (B ++ List.replicate 17 x) (n + i) = x := by
    unfold sat
    rw [List.getD_eq_getElem?_getD, List.getElem?_append_right (by omega), List.getElem?_replicate, if_pos (by omega)]; rfl
  rw [this]
theorem marked_ok (w0 : World) (F : List Atom) (v0 : Value) (n : Nat) (B : List Span) (mark : Int) (hB : B.length = n) (hn : n ≤ 1099511627776) :
    CallK Try.prog 41 [v0, .int .i64 mark] w0 (Fam 52 4 (spRows (B ++ List.replicate 17 (mark, 0, 0, 0))) [(v0, n)] :: F) (Gives w0 fun v F2 => ∃ u, v = u ∧ F2 = Fam 52 4 (spRows (B ++ List.replicate 17 (mark, 0, 0, 0))) [(u, n + 17), (v0, n)] :: F) := by
  refine c_enter Try.func41 rfl rfl rfl ?_
  refine g_seq ?_
  refine g_region ?_
  refine l_assign rfl rfl ?_
  refine l_nil ?_
  refine g_seq ?_
  refine g_seq ?_
  refine g_region ?_
  refine l_assign rfl rfl ?_
  refine l_nil ?_
  refine g_block ?_
  refine g_heap (fun w hw => Fam.mono (vs' := [(v0, n + (0 : Int).toNat), (v0, n)]) hw (fun p hp => by simpa using hp)) ?_
  refine g_loopk (X := Int × Value) [(1, _), (4, _)] (.cons rfl (.cons rfl (.nil))) (fun z => 0 ≤ z.1 ∧ z.1 ≤ 17) (fun z => (17 - z.1).toNat) (fun z => [(0, z.2), (5, .int .i64 z.1)]) (fun z => Fam 52 4 (spRows (B ++ List.replicate 17 (mark, 0, 0, 0))) [(z.2, n + z.1.toNat), (v0, n)] :: F) ((0, v0)) (⟨by simp only; omega, by simp only; omega⟩) (.cons rfl (.cons rfl .nil)) (fun w hw => hw) ?_
  rintro ⟨i, u⟩ ⟨i0, i1⟩ ih
  dsimp only [List.cons_append, List.nil_append] at ih ⊢
  simp only at i0 i1
  refine g_seq ?_
  refine g_seq ?_
  refine g_region ?_
  refine l_move rfl rfl ?_
  refine l_lss rfl rfl rfl ?_
  refine l_nil ?_
  refine g_cond rfl ?_ ?_
  · intro hbr
    have hbr := of_decide_eq_true hbr
    refine g_skip ?_
    refine g_seq ?_
    refine g_block ?_
    refine g_region ?_
    refine l_move rfl rfl ?_
    refine l_move rfl rfl ?_
    refine l_build rfl rfl (fun w => bd_52_0 _ w) ?_
    refine l_buildSlice rfl Try.underlying45 Try.sizeOf52 Try.zeroValue52 rfl rfl rfl rfl rfl rfl ?_; intro b13
    refine l_append_fam 1 (sz := 4) (by_ := 32) (m := n + i.toNat) (m2 := 1) (news := spanRow (mark, 0, 0, 0)) rfl Try.underlying45 Try.type52 rfl rfl rfl rfl rfl rfl rfl rfl (List.mem_cons_self ..) ⟨rfl, .inl ⟨_, _, _, rfl, .own (mem_getO 0 rfl)⟩⟩ (by omega) rfl (fun q hq => (mk_get hB (by omega) hq).symm) (by rw [spRows_len, List.length_append, List.length_replicate]; omega) (by omega) (by simp only [maxLen]; omega) (fun _ => rfl) ?_; intro v14
    refine l_assign rfl rfl ?_
    refine l_nil ?_
    refine g_inBlock ?_
    refine g_region ?_
    refine l_move rfl rfl ?_
    first | refine l_add rfl rfl rfl (w_i64 (by omega) (by omega)) ?_ | refine l_addw rfl rfl rfl ?_
    refine l_assign rfl rfl ?_
    refine l_nil ?_
    rw [show n + i.toNat + 1 = n + (i + 1).toNat by omega]
    refine g_frontv_fam ?_
    refine g_famsub (vs' := [(v14, n + (i + 1).toNat), (v0, n)]) (fun p hp => by rcases List.mem_cons.1 hp with rfl | hp <;> simp_all) ?_
    exact g_againi (ih (i + 1, v14) ⟨by simp only; omega, by simp only; omega⟩ (by simp only; omega)) (.cons rfl (.cons rfl (.cons rfl (.cons rfl (.nil)))))
  intro hbr
  have hbr := of_decide_eq_false hbr
  refine g_exit rfl ?_
  obtain rfl : i = 17 := by omega
  rw [show (17 : Int).toNat = 17 from rfl]
  refine g_seq ?_
  refine g_region ?_
  refine l_move rfl rfl ?_
  refine l_assign rfl rfl ?_
  refine l_nil ?_
  refine g_ret Try.func41 rfl (.tmp rfl .nil) ?_
  exact Gives.mki ⟨u, rfl, rfl⟩
theorem sat_next {M : List Span} {n : Nat} {x : Span} {i : Int} (hM : M.length = n) (h : ∀ q, q < i.toNat → sat M q = x) (hi : 0 ≤ i ∧ i < n) : ∀ q, q < (i + 1).toNat → sat (M.set i.toNat x) q = x := by
  intro q hq
  by_cases hqi : q = i.toNat
  · subst hqi
    simp [sat, show i.toNat < M.length by omega]
  · have := h q (by omega)
    have e : sat (M.set i.toNat x) q = sat M q := by simp [sat, List.getD_eq_getElem?_getD, List.getElem?_set, show ¬ i.toNat = q from fun e => hqi e.symm]
    rw [e]; exact this
theorem sat_app {M : List Span} {x : Span} {n q : Nat} (hM : M.length = n) : sat (M ++ List.replicate 17 x) q = if q < n then sat M q else sat (List.replicate 17 x) (q - n) := by
  unfold sat
  simp only [List.getD_eq_getElem?_getD, List.getElem?_append, hM]
  split <;> rfl
theorem sat_rep {x : Span} {q : Nat} (h : q < 17) : sat (List.replicate 17 x) q = x := by
  unfold sat
  rw [List.getD_eq_getElem?_getD, List.getElem?_replicate, if_pos h]; rfl
theorem sat_take {M : List Span} {n q : Nat} (h : q < n) : sat (M.take n) q = sat M q := by
  unfold sat
  simp only [List.getD_eq_getElem?_getD, List.getElem?_take, h, if_true]
theorem l_famat {P : Program} {f : FuncId} {w0 : World} {K : Post} {n : Nat} {d : List Deferred} {ops : Array Oper} {rest : List Oper} {k : List Item} {e : Env} {F : List Atom} {B F'} (i : Nat) (h : frontO F i = some (B, F')) (hk : GL P f w0 K n d ops rest k e (B :: F')) : GL P f w0 K n d ops rest k e F := l_front i h hk
theorem apart_spans (w0 : World) (F : List Atom) (a1 a2 : Option Addr) (n1 c1 n2 c2 : Nat) (L1 L2 : List Span) (hl1 : L1.length = n1) (hl2 : L2.length = n2) (h1 : n1 = 0 ∨ ∃ g, a1 = some ⟨g, 0, none⟩) (h2 : n2 = 0 ∨ ∃ g, a2 = some ⟨g, 0, none⟩) (hb1 : n1 ≤ 1099511627776) (hb2 : n2 ≤ 1099511627776) :
    CallK Try.prog 24 [.slice a1 n1 c1, .slice a2 n2 c2] w0 (Own 52 4 (.slice a1 n1 c1) n1 (spRows L1) :: Own 52 4 (.slice a2 n2 c2) n2 (spRows L2) :: F) (Gives w0 fun v F2 => v = .bool true ∧ F2 = F) := by
  refine c_enter Try.func24 rfl rfl rfl ?_
  refine g_seq ?_
  refine g_region ?_
  refine l_assign rfl rfl ?_
  refine l_nil ?_
  refine g_seq ?_
  refine g_seq ?_
  refine g_region ?_
  refine l_assign rfl rfl ?_
  refine l_nil ?_
  refine g_block ?_
  refine g_loopk (X := Int × List Span) [(0, _), (1, _), (4, _)] (.cons rfl (.cons rfl (.cons rfl (.nil)))) (fun z => 0 ≤ z.1 ∧ z.1 ≤ n1 ∧ z.2.length = n1 ∧ ∀ q, q < z.1.toNat → sat z.2 q = (-1, 0, 0, 0)) (fun z => (n1 - z.1).toNat) (fun z => [(5, .int .i64 z.1)]) (fun z => Own 52 4 (.slice a1 n1 c1) n1 (spRows z.2) :: Own 52 4 (.slice a2 n2 c2) n2 (spRows L2) :: F) ((0, L1)) (⟨by simp only; omega, by simp only; omega, hl1, fun q hq => by simp only at hq; omega⟩) (.cons rfl .nil) (fun w hw => SPI.holds hw) ?_
  rintro ⟨i, M1⟩ ⟨i0, i1, hM1, hq1⟩ ih
  dsimp only [List.cons_append, List.nil_append] at ih ⊢
  simp only at i0 i1 hM1 hq1
  refine g_seq ?_
  refine g_seq ?_
  refine g_region ?_
  refine l_move rfl rfl ?_
  refine l_move rfl rfl ?_
  refine l_len rfl Try.underlying45 rfl ?_
  refine l_lss rfl rfl rfl ?_
  refine l_nil ?_
  refine g_cond rfl ?_ ?_
  · intro hbr
    have hbr := of_decide_eq_true hbr
    refine g_skip ?_
    refine g_seq ?_
    refine g_block ?_
    refine g_region ?_
    refine l_move rfl rfl ?_
    refine l_move rfl rfl ?_
    refine l_build rfl rfl (fun w => bd_52_0 _ w) ?_
    obtain ⟨g1, rfl⟩ := h1.resolve_left (by omega)
    refine l_ixs rfl Try.underlying45 Try.sizeOf52 rfl rfl (by omega) (by omega) ?_
    refine l_storeso (l := spanRow (-1, 0, 0, 0)) 0 Try.sizeOf52 rfl rfl rfl rfl rfl (by rw [spRows_len]; show 0 + i.toNat * 4 + 4 ≤ _; omega) rfl ?_
    rw [spRows_set (by omega)]
    refine l_nil ?_
    refine g_inBlock ?_
    refine g_region ?_
    refine l_move rfl rfl ?_
    first | refine l_add rfl rfl rfl (w_i64 (by omega) (by omega)) ?_ | refine l_addw rfl rfl rfl ?_
    refine l_assign rfl rfl ?_
    refine l_nil ?_
    exact g_againi (ih (i + 1, M1.set i.toNat (-1, 0, 0, 0)) ⟨by simp only; omega, by simp only; omega, by simpa using hM1, sat_next hM1 hq1 (by omega)⟩ (by simp only; omega)) (.cons rfl (.cons rfl (.cons rfl (.cons rfl (.nil)))))
  intro hbr
  have hbr := of_decide_eq_false hbr
  refine g_exit rfl ?_
  obtain rfl : i = n1 := by omega
  rw [Int.toNat_natCast] at hq1
  refine g_seq ?_
  refine g_seq ?_
  refine g_region ?_
  refine l_assign rfl rfl ?_
  refine l_nil ?_
  refine g_block ?_
  refine g_loopk (X := Int × List Span) [(0, _), (1, _), (4, _)] (.cons rfl (.cons rfl (.cons rfl (.nil)))) (fun z => 0 ≤ z.1 ∧ z.1 ≤ n2 ∧ z.2.length = n2 ∧ ∀ q, q < z.1.toNat → sat z.2 q = (-2, 0, 0, 0)) (fun z => (n2 - z.1).toNat) (fun z => [(6, .int .i64 z.1)]) (fun z => Own 52 4 (.slice a1 n1 c1) n1 (spRows M1) :: Own 52 4 (.slice a2 n2 c2) n2 (spRows z.2) :: F) ((0, L2)) (⟨by simp only; omega, by simp only; omega, hl2, fun q hq => by simp only at hq; omega⟩) (.cons rfl .nil) (fun w hw => SPI.holds hw) ?_
  rintro ⟨i, M2⟩ ⟨i0, i1, hM2, hq2⟩ ih
  dsimp only [List.cons_append, List.nil_append] at ih ⊢
  simp only at i0 i1 hM2 hq2
  refine g_seq ?_
  refine g_seq ?_
  refine g_region ?_
  refine l_move rfl rfl ?_
  refine l_move rfl rfl ?_
  refine l_len rfl Try.underlying45 rfl ?_
  refine l_lss rfl rfl rfl ?_
  refine l_nil ?_
  refine g_cond rfl ?_ ?_
  · intro hbr
    have hbr := of_decide_eq_true hbr
    refine g_skip ?_
    refine g_seq ?_
    refine g_block ?_
    refine g_region ?_
    refine l_move rfl rfl ?_
    refine l_move rfl rfl ?_
    refine l_build rfl rfl (fun w => bd_52_0 _ w) ?_
    obtain ⟨g2, rfl⟩ := h2.resolve_left (by omega)
    refine l_ixs rfl Try.underlying45 Try.sizeOf52 rfl rfl (by omega) (by omega) ?_
    refine l_storeso (l := spanRow (-2, 0, 0, 0)) 1 Try.sizeOf52 rfl rfl rfl rfl rfl (by rw [spRows_len]; show 0 + i.toNat * 4 + 4 ≤ _; omega) rfl ?_
    rw [spRows_set (by omega)]
    refine l_nil ?_
    refine g_inBlock ?_
    refine g_region ?_
    refine l_move rfl rfl ?_
    first | refine l_add rfl rfl rfl (w_i64 (by omega) (by omega)) ?_ | refine l_addw rfl rfl rfl ?_
    refine l_assign rfl rfl ?_
    refine l_nil ?_
    exact g_againi (ih (i + 1, M2.set i.toNat (-2, 0, 0, 0)) ⟨by simp only; omega, by simp only; omega, by simpa using hM2, sat_next hM2 hq2 (by omega)⟩ (by simp only; omega)) (.cons rfl (.cons rfl (.cons rfl (.cons rfl (.nil)))))
  intro hbr
  have hbr := of_decide_eq_false hbr
  refine g_exit rfl ?_
  obtain rfl : i = n2 := by omega
  rw [Int.toNat_natCast] at hq2
  refine g_seq ?_
  refine g_region ?_
  refine l_move rfl rfl ?_
  refine l_front 0 rfl ?_
  refine l_fam (spRows (M1 ++ List.replicate 17 (-3, 0, 0, 0))) (fun q hq => spRows_ext (by omega) (by rw [List.length_append]; omega) (fun j hj => by rw [sat_app hM1, if_pos hj]) q hq) (by rw [spRows_len, List.length_append]; omega) ?_
  refine l_call rfl Try.call41 rfl (marked_ok _ _ _ n1 M1 (-3) hM1 (by omega)) ?_; rintro _ _ ⟨x, rfl, rfl⟩
  refine l_fact (fam_slice (mem_getO 0 rfl) (List.mem_cons_self ..)) ?_
  rintro ⟨ax, cx, rfl, hax, _, _⟩
  refine l_assign rfl rfl ?_
  refine l_nil ?_
  refine g_seq ?_
  refine g_region ?_
  refine l_move rfl rfl ?_
  refine l_front 1 rfl ?_
  refine l_fam (spRows (M2 ++ List.replicate 17 (-4, 0, 0, 0))) (fun q hq => spRows_ext (by omega) (by rw [List.length_append]; omega) (fun j hj => by rw [sat_app hM2, if_pos hj]) q hq) (by rw [spRows_len, List.length_append]; omega) ?_
  refine l_call rfl Try.call41 rfl (marked_ok _ _ _ n2 M2 (-4) hM2 (by omega)) ?_; rintro _ _ ⟨y, rfl, rfl⟩
  refine l_fact (fam_slice (mem_getO 0 rfl) (List.mem_cons_self ..)) ?_
  rintro ⟨ay, cy, rfl, hay, _, _⟩
  refine l_assign rfl rfl ?_
  refine l_nil ?_
  refine g_seq ?_
  refine g_region ?_
  refine l_move rfl rfl ?_
  refine l_move rfl rfl ?_
  refine l_len rfl Try.underlying45 rfl ?_
  refine l_front 1 rfl ?_
  refine l_call rfl Try.call42 rfl (all_spans _ _ a1 n1 c1 _ (SR.fam (mem_getO 0 rfl) (List.mem_cons_of_mem _ (List.mem_cons_self ..)) (by rw [List.length_append]; omega) h1) 0 n1 (-1) (by omega) (by omega) (by omega) (by omega) (fun j hj => by rw [sat_take (by omega), sat_app hM1, if_pos (by omega), hq1 j (by omega)])) ?_; rintro _ _ ⟨rfl, rfl⟩
  refine l_move rfl rfl ?_
  refine l_guard_yes rfl rfl ?_
  refine l_move rfl rfl ?_
  refine l_guard_yes rfl rfl ?_
  refine l_move rfl rfl ?_
  refine l_guard_yes rfl rfl ?_
  refine l_len rfl Try.underlying45 rfl ?_
  refine l_guard_yes rfl rfl ?_
  refine l_front 1 rfl ?_
  refine l_call rfl Try.call42 rfl (all_spans _ _ a2 n2 c2 _ (SR.fam (mem_getO 0 rfl) (List.mem_cons_of_mem _ (List.mem_cons_self ..)) (by rw [List.length_append]; omega) h2) 0 n2 (-2) (by omega) (by omega) (by omega) (by omega) (fun j hj => by rw [sat_take (by omega), sat_app hM2, if_pos (by omega), hq2 j (by omega)])) ?_; rintro _ _ ⟨rfl, rfl⟩
  refine l_pick_t rfl rfl rfl ?_
  refine l_move rfl rfl ?_
  refine l_guard_yes rfl rfl ?_
  refine l_move rfl rfl ?_
  refine l_guard_yes rfl rfl ?_
  refine l_move rfl rfl ?_
  refine l_guard_yes rfl rfl ?_
  refine l_len rfl Try.underlying45 rfl ?_
  refine l_guard_yes rfl rfl ?_
  refine l_move rfl rfl ?_
  refine l_guard_yes rfl rfl ?_
  refine l_len rfl Try.underlying45 rfl ?_
  refine l_guard_yes rfl rfl ?_
  refine l_front 1 rfl ?_
  refine l_call rfl Try.call42 rfl (all_spans _ _ ax (n1 + 17) cx _ (SR.fam (mem_getO 0 rfl) (List.mem_cons_self ..) (by rw [List.length_append, List.length_replicate]; omega) hax) n1 ((n1 + 17 : Nat) : Int) (-3) (by omega) (by omega) (by omega) (by omega) (fun j hj => by rw [sat_take (by omega), sat_app hM1, if_neg (by omega), sat_rep (by omega)])) ?_; rintro _ _ ⟨rfl, rfl⟩
  refine l_pick_t rfl rfl rfl ?_
  refine l_move rfl rfl ?_
  refine l_guard_yes rfl rfl ?_
  refine l_move rfl rfl ?_
  refine l_guard_yes rfl rfl ?_
  refine l_move rfl rfl ?_
  refine l_guard_yes rfl rfl ?_
  refine l_len rfl Try.underlying45 rfl ?_
  refine l_guard_yes rfl rfl ?_
  refine l_move rfl rfl ?_
  refine l_guard_yes rfl rfl ?_
  refine l_len rfl Try.underlying45 rfl ?_
  refine l_guard_yes rfl rfl ?_
  refine l_front 1 rfl ?_
  refine l_call rfl Try.call42 rfl (all_spans _ _ ay (n2 + 17) cy _ (SR.fam (mem_getO 0 rfl) (List.mem_cons_self ..) (by rw [List.length_append, List.length_replicate]; omega) hay) n2 ((n2 + 17 : Nat) : Int) (-4) (by omega) (by omega) (by omega) (by omega) (fun j hj => by rw [sat_take (by omega), sat_app hM2, if_neg (by omega), sat_rep (by omega)])) ?_; rintro _ _ ⟨rfl, rfl⟩
  refine l_pick_t rfl rfl rfl ?_
  refine l_assign rfl rfl ?_
  refine l_nil ?_
  refine g_ret Try.func24 rfl (.tmp rfl .nil) ?_
  exact Gives.mki ⟨rfl, rfl⟩
end Go.Proofs.Ytfccfjgnoeocnaa.Fw
