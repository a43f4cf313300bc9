import Derived.Test.YtnkmhhjldfapdaaXA
import Derived.Test.YtnkmhhjldfapdaaFwS
import Derived.Test.YtnkmhhjldfapdaaFw24
namespace Go.Proofs.Ytnkmhhjldfapdaa.Fw
open Go Go.Proofs
set_option linter.unusedVariables false
set_option linter.unusedSimpArgs false
set_option maxRecDepth 10000
theorem fa_49_0 (a : Addr) (w : World) : (Instr.fieldAt 49 (.pointer (some a)) 0).run Try.prog w = .ok (.pointer (some (a.add 0))) w := by
  simp [Instr.fieldAt, Try.runUnderlying49, Instr.sureAddr, fieldPlace, Try.sizeOf46, Sem.run_bind, Sem.run_pure]
theorem bd_102_0_1 (a0_0 : Option Addr) (n0_0 c0_0 : Nat) (a1_0 : Option Addr) (n1_0 c1_0 : Nat) (w : World) : (Instr.build 102 #[(0, .slice a0_0 n0_0 c0_0), (1, .slice a1_0 n1_0 c1_0)]).run Try.prog w = .ok (.agg #[.slice a0_0 n0_0 c0_0, .slice a1_0 n1_0 c1_0, .slice none 0 0, .slice none 0 0]) w := by kernel_rfl
theorem fa_49_1 (a : Addr) (w : World) : (Instr.fieldAt 49 (.pointer (some a)) 1).run Try.prog w = .ok (.pointer (some (a.add 1))) w := by
  simp [Instr.fieldAt, Try.runUnderlying49, Instr.sureAddr, fieldPlace, Try.sizeOf47, Sem.run_bind, Sem.run_pure]
theorem bd_104_0_1 (a0_0 : Option Addr) (n0_0 c0_0 : Nat) (a1_0 : Option Addr) (n1_0 c1_0 : Nat) (w : World) : (Instr.build 104 #[(0, .slice a0_0 n0_0 c0_0), (1, .slice a1_0 n1_0 c1_0)]).run Try.prog w = .ok (.agg #[.slice a0_0 n0_0 c0_0, .slice a1_0 n1_0 c1_0, .slice none 0 0, .slice none 0 0]) w := by kernel_rfl
theorem fa_102_0 (a : Addr) (w : World) : (Instr.fieldAt 102 (.pointer (some a)) 0).run Try.prog w = .ok (.pointer (some (a.add 0))) w := by
  simp [Instr.fieldAt, Try.runUnderlying102, Instr.sureAddr, fieldPlace, Try.sizeOf36, Sem.run_bind, Sem.run_pure]
theorem fa_102_1 (a : Addr) (w : World) : (Instr.fieldAt 102 (.pointer (some a)) 1).run Try.prog w = .ok (.pointer (some (a.add 1))) w := by
  simp [Instr.fieldAt, Try.runUnderlying102, Instr.sureAddr, fieldPlace, Try.sizeOf36, Sem.run_bind, Sem.run_pure]
theorem fa_104_0 (a : Addr) (w : World) : (Instr.fieldAt 104 (.pointer (some a)) 0).run Try.prog w = .ok (.pointer (some (a.add 0))) w := by
  simp [Instr.fieldAt, Try.runUnderlying104, Instr.sureAddr, fieldPlace, Try.sizeOf54, Sem.run_bind, Sem.run_pure]
theorem fa_104_1 (a : Addr) (w : World) : (Instr.fieldAt 104 (.pointer (some a)) 1).run Try.prog w = .ok (.pointer (some (a.add 1))) w := by
  simp [Instr.fieldAt, Try.runUnderlying104, Instr.sureAddr, fieldPlace, Try.sizeOf54, Sem.run_bind, Sem.run_pure]
theorem fa_102_2 (a : Addr) (w : World) : (Instr.fieldAt 102 (.pointer (some a)) 2).run Try.prog w = .ok (.pointer (some (a.add 2))) w := by
  simp [Instr.fieldAt, Try.runUnderlying102, Instr.sureAddr, fieldPlace, Try.sizeOf36, Sem.run_bind, Sem.run_pure]
theorem fa_102_3 (a : Addr) (w : World) : (Instr.fieldAt 102 (.pointer (some a)) 3).run Try.prog w = .ok (.pointer (some (a.add 3))) w := by
  simp [Instr.fieldAt, Try.runUnderlying102, Instr.sureAddr, fieldPlace, Try.sizeOf36, Sem.run_bind, Sem.run_pure]
theorem fa_104_2 (a : Addr) (w : World) : (Instr.fieldAt 104 (.pointer (some a)) 2).run Try.prog w = .ok (.pointer (some (a.add 2))) w := by
  simp [Instr.fieldAt, Try.runUnderlying104, Instr.sureAddr, fieldPlace, Try.sizeOf54, Sem.run_bind, Sem.run_pure]
theorem fa_104_3 (a : Addr) (w : World) : (Instr.fieldAt 104 (.pointer (some a)) 3).run Try.prog w = .ok (.pointer (some (a.add 3))) w := by
  simp [Instr.fieldAt, Try.runUnderlying104, Instr.sureAddr, fieldPlace, Try.sizeOf54, Sem.run_bind, Sem.run_pure]
theorem U8s.all {W : List Int} (h : U8s W) : ∀ x ∈ W, 0 ≤ x ∧ x ≤ 255 := by
  intro x hx
  obtain ⟨i, hi, rfl⟩ := List.getElem_of_mem hx
  have := h i
  simpa [List.getD_eq_getElem?_getD, hi] using this
theorem U8s.part {W : List Int} (h : U8s W) (a m : Nat) : U8s ((W.drop a).take m) := .of fun x hx => h.all x (List.mem_of_mem_drop (List.mem_of_mem_take hx))
theorem U8s.set {W : List Int} (h : U8s W) (i : Nat) {x : Int} (hx : 0 ≤ x ∧ x ≤ 255) : U8s (W.set i x) := .of fun y hy => by
  rcases List.mem_or_eq_of_mem_set hy with hy | rfl
  · exact h.all y hy
  · exact hx
theorem U8s.spl {W X : List Int} (h : U8s W) (hX : U8s X) (a : Nat) : U8s (spl a X W) := .of fun y hy => by
  unfold Fw.spl at hy
  rcases List.mem_append.1 hy with hy | hy
  · rcases List.mem_append.1 hy with hy | hy
    · exact h.all y (List.mem_of_mem_take hy)
    · exact hX.all y hy
  · exact h.all y (List.mem_of_mem_drop hy)
theorem U8s.rep (m : Nat) {x : Int} (hx : 0 ≤ x ∧ x ≤ 255) : U8s (List.replicate m x) := .of fun y hy => by
  obtain rfl := List.eq_of_mem_replicate hy
  exact hx
/-- A list that was told: the list, what it must hold, both by their numbers. -/
structure BK8 where
  la : Option Addr
  lc : Nat
  wa : Option Addr
  wc : Nat
  n : Nat
  c : List Int
def bkR8 (b : BK8) : List Value := [.slice b.la b.n b.lc, .slice b.wa b.n b.wc, .slice none 0 0, .slice none 0 0]
def bkA8 (b : BK8) : Atom := Star (Own 5 1 (.slice b.la b.n b.lc) b.n (ints .u8 b.c)) (Own 5 1 (.slice b.wa b.n b.wc) b.n (ints .u8 b.c))
def BkOk8 (b : BK8) : Prop := b.c.length = b.n ∧ b.n ≤ 1099511627776 ∧ U8s b.c ∧ (b.n = 0 ∨ ∃ g, b.la = some ⟨g, 0, none⟩) ∧ (b.n = 0 ∨ ∃ g, b.wa = some ⟨g, 0, none⟩)
theorem bkR_len8 (B : Nat → BK8) (N : Nat) : ∀ q, q < N → (bkR8 (B q)).length = 4 := fun q _ => rfl
theorem own_irow8 {w0 : World} {F : List Atom} {a : Option Addr} {n c : Nat} {W : List Int} (h : ∀ w, Holds w0 F w → (Own 5 1 (.slice a n c) n (ints .u8 W)).ok (hp w)) (hW : W.length = n) (ha : n = 0 ∨ ∃ g, a = some ⟨g, 0, none⟩) : IR w0 F .u8 a n W :=
  ⟨hW, ha.imp id fun ⟨g, hg⟩ => ⟨g, 0, hg, fun w hw => own_row (by rw [← hg]; exact h w hw)⟩⟩
theorem bk_ir8 {w0 : World} {F : List Atom} {N j : Nat} {B : Nat → BK8} (hm : BigF N (fun j => bkA8 (B j)) ∈ F) (hj : j < N) (ho : BkOk8 (B j)) : IR w0 F .u8 (B j).la (B j).n (B j).c ∧ IR w0 F .u8 (B j).wa (B j).n (B j).c :=
  ⟨own_irow8 (fun w hw => (big_ok hm hj hw).1) ho.1 ho.2.2.2.1, own_irow8 (fun w hw => (big_ok hm hj hw).2.1) ho.1 ho.2.2.2.2⟩
theorem reads_ir8 {w0 : World} {F : List Atom} {a : Option Addr} {n c : Nat} {W : List Int} {kd : IntKind} (h : Reads w0 F (.slice a n c) n 1 (ints kd W)) (hW : W.length = n) : IR w0 F kd a n W := ⟨hW, by
  rcases h.2 with ⟨b, o, cap, hv, hr⟩ | ⟨_, h0⟩
  · injection hv with e1 _ _
    exact .inr ⟨b, o, e1, hr⟩
  · exact .inl h0⟩
theorem reads_of8 {w0 : World} {F : List Atom} {E : Nat} {v : Value} {n : Nat} {kd : IntKind} {W : List Int} (hm : Own E 1 v n (ints kd W) ∈ F) (w : World) (hw : Holds w0 F w) : Reads w0 F v n 1 (ints kd W) := by
  obtain ⟨h1, _, h2⟩ := own_cases hm w hw
  rcases h2 with h2 | ⟨g, c, rfl, hc⟩
  · exact ⟨h1, .inr h2⟩
  · exact ⟨h1, .inl ⟨g, 0, c, rfl, .own hm⟩⟩
theorem samew_ok8 (w0 : World) (F : List Atom) (a1 a2 : Option Addr) (n c1 c2 : Nat) (W : List Int) (h1 : IR w0 F .u8 a1 n W) (h2 : IR w0 F .u8 a2 n W) (hb : U8s W) (hn : n ≤ 9223372036854775807) :
    CallK Try.prog 69 [.slice a1 n c1, .slice a2 n c2] w0 (F) (Gives w0 fun v F2 => v = .bool true ∧ F2 = F) := by
  have hl := h1.1
  refine c_enter Try.func69 rfl rfl rfl ?_
  refine g_seq ?_
  refine g_region ?_
  refine l_assign rfl rfl ?_
  refine l_nil ?_
  refine g_seq ?_
  refine g_seq ?_
  refine g_region ?_
  refine l_move rfl rfl ?_
  refine l_len rfl Try.underlying36 rfl ?_
  refine l_move rfl rfl ?_
  refine l_len rfl Try.underlying36 rfl ?_
  refine l_neq rfl rfl rfl ?_
  refine l_nil ?_
  refine g_cond rfl ?_ ?_
  · intro hbr
    have hbr := of_decide_eq_true hbr
    (exfalso; omega)
  intro hbr
  have hbr := of_decide_eq_false hbr
  refine g_skip ?_
  refine g_seq ?_
  refine g_seq ?_
  refine g_region ?_
  refine l_assign rfl rfl ?_
  refine l_nil ?_
  refine g_block ?_
  refine g_loopc (X := Int) [(0, _), (1, _)] (.cons rfl (.cons rfl (.nil))) (fun i => 0 ≤ i ∧ i ≤ n) (fun i => (n - i).toNat) (fun i => [(5, .int .i64 i)]) (0) (by omega) (.cons rfl .nil) ?_
  rintro i ⟨i0, i1⟩ ih
  dsimp only [List.cons_append, List.nil_append] at ih ⊢
  refine g_seq ?_
  refine g_seq ?_
  refine g_region ?_
  refine l_move rfl rfl ?_
  refine l_move rfl rfl ?_
  refine l_len rfl Try.underlying36 rfl ?_
  refine l_lss rfl rfl rfl ?_
  refine l_nil ?_
  refine g_cond rfl ?_ ?_
  · intro hbr
    have hbr := of_decide_eq_true hbr
    refine g_skip ?_
    refine g_seq ?_
    refine g_block ?_
    refine g_seq ?_
    refine gp_start mo (by kernel_rfl) (by kernel_rfl) ?_
    refine gp_quiet 0 rfl rfl rfl rfl rfl rfl (q_move rfl) ?_
    refine gp_quiet 1 rfl rfl rfl rfl rfl rfl (q_move rfl) ?_
    obtain ⟨b1, o1, rfl, hr1⟩ := h1.some (i := i.toNat) (by omega)
    refine gp_quiet 2 rfl rfl rfl rfl rfl rfl (q_ixs Try.underlying36 Try.sizeOf5 rfl rfl (by omega) (by omega)) ?_
    refine gp_quiet 3 rfl rfl rfl rfl rfl rfl (q_loadc Try.isAgg5 rfl (word_any hr1 (by omega))) ?_
    refine gp_quiet 4 rfl rfl rfl rfl rfl rfl (q_move rfl) ?_
    refine gp_quiet 5 rfl rfl rfl rfl rfl rfl (q_move rfl) ?_
    obtain ⟨b2, o2, rfl, hr2⟩ := h2.some (i := i.toNat) (by omega)
    refine gp_quiet 6 rfl rfl rfl rfl rfl rfl (q_ixs Try.underlying36 Try.sizeOf5 rfl rfl (by omega) (by omega)) ?_
    refine gp_quiet 7 rfl rfl rfl rfl rfl rfl (q_loadc Try.isAgg5 rfl (word_any hr2 (by omega))) ?_
    refine gp_quiet 8 rfl rfl rfl rfl rfl rfl (q_neq rfl rfl) ?_
    refine gp_end rfl rfl ?_
    refine g_cond rfl ?_ ?_
    · intro hbr
      have hbr := of_decide_eq_true hbr
      (exfalso; omega)
    intro hbr
    have hbr := of_decide_eq_false hbr
    refine g_skip ?_
    refine g_inBlock ?_
    refine g_region ?_
    refine l_move rfl rfl ?_
    first | refine l_add rfl rfl rfl (w_i64 (by omega) (by omega)) ?_ | refine l_addw rfl rfl rfl ?_
    refine l_assign rfl rfl ?_
    refine l_nil ?_
    exact g_againi (ih (i + 1) (by omega) (by omega)) (.cons rfl (.cons rfl (.cons rfl (.nil))))
  intro hbr
  have hbr := of_decide_eq_false hbr
  refine g_exit rfl ?_
  refine g_seq ?_
  refine g_region ?_
  refine l_assign rfl rfl ?_
  refine l_nil ?_
  refine g_ret Try.func69 rfl (.tmp rfl .nil) ?_
  exact Gives.mki ⟨rfl, rfl⟩
theorem allw_ok8 (w0 : World) (F : List Atom) (a : Option Addr) (len c n : Nat) (x y : Int) (W : List Int) (hI : IR w0 F .u8 a len W) (hl : len ≤ 140737488355327) (hn : n ≤ 140737488355327) (hW : ∀ j, j < len → W.getD j 0 = if j < n then x else y) :
    CallK Try.prog 70 [.slice a len c, .int .i64 n, .int .u8 x, .int .u8 y] w0 (F) (Gives w0 fun v F2 => v = .bool true ∧ F2 = F) := by
  have hWl := hI.1
  refine c_enter Try.func70 rfl rfl rfl ?_
  refine g_seq ?_
  refine g_region ?_
  refine l_assign rfl rfl ?_
  refine l_nil ?_
  refine g_seq ?_
  refine g_seq ?_
  refine g_region ?_
  refine l_assign rfl rfl ?_
  refine l_nil ?_
  refine g_block ?_
  refine g_loopc (X := Int) [(0, _), (1, _), (2, _), (3, _)] (.cons rfl (.cons rfl (.cons rfl (.cons rfl (.nil))))) (fun i => 0 ≤ i ∧ i ≤ len) (fun i => ((len : Int) - i).toNat) (fun i => [(9, .int .i64 i)]) (0) (by omega) (.cons rfl .nil) ?_
  rintro i ⟨i0, i1⟩ ih
  dsimp only [List.cons_append, List.nil_append] at ih ⊢
  have hWi := hW i.toNat
  refine g_seq ?_
  refine g_seq ?_
  refine g_region ?_
  refine l_move rfl rfl ?_
  refine l_move rfl rfl ?_
  refine l_len rfl Try.underlying36 rfl ?_
  refine l_lss rfl rfl rfl ?_
  refine l_nil ?_
  refine g_cond rfl ?_ ?_
  · intro hbr
    have hbr := of_decide_eq_true hbr
    refine g_skip ?_
    refine g_seq ?_
    refine g_block ?_
    refine g_seq ?_
    refine g_region ?_
    obtain ⟨b9, o9, rfl, hr9⟩ := hI.some (i := i.toNat) (by omega)
    refine l_move rfl rfl ?_
    refine l_move rfl rfl ?_
    refine l_lss rfl rfl rfl ?_
    refine l_move rfl rfl ?_
    refine l_split 19 rfl ?_ ?_
    · intro hbr
      have hbr := of_decide_eq_true hbr
      refine l_guard_yes rfl rfl ?_
      refine l_move rfl rfl ?_
      refine l_guard_yes rfl rfl ?_
      refine l_move rfl rfl ?_
      refine l_guard_yes rfl rfl ?_
      refine l_ixs rfl Try.underlying36 Try.sizeOf5 rfl rfl (by omega) (by omega) ?_
      refine l_guard_yes rfl rfl ?_
      refine l_loadc rfl Try.isAgg5 rfl (word_any hr9 (by omega)) ?_
      refine l_guard_yes rfl rfl ?_
      refine l_move rfl rfl ?_
      refine l_guard_yes rfl rfl ?_
      refine l_neq rfl rfl rfl ?_
      refine l_pick_t rfl rfl rfl ?_
      refine l_move rfl rfl ?_
      refine l_split 27 rfl ?_ ?_
      · intro hbr
        have hbr := of_decide_eq_true hbr
        (exfalso; first | omega | (simp at hbr; done))
      intro hbr
      have hbr := of_decide_eq_false hbr
      refine l_guard_yes rfl rfl ?_
      refine l_move rfl rfl ?_
      refine l_guard_yes rfl rfl ?_
      refine l_move rfl rfl ?_
      refine l_guard_yes rfl rfl ?_
      refine l_geq rfl rfl rfl ?_
      refine l_guard_yes rfl rfl ?_
      refine l_move rfl rfl ?_
      refine l_split 31 rfl ?_ ?_
      · intro hbr
        have hbr := of_decide_eq_true hbr
        (exfalso; first | omega | (simp at hbr; done))
      intro hbr
      have hbr := of_decide_eq_false hbr
      refine l_guard_no rfl rfl rfl ?_
      refine l_guard_no rfl rfl rfl ?_
      refine l_guard_no rfl rfl rfl ?_
      refine l_guard_no rfl rfl rfl ?_
      refine l_guard_no rfl rfl rfl ?_
      refine l_guard_no rfl rfl rfl ?_
      refine l_guard_yes rfl rfl ?_
      refine l_pick_f rfl rfl rfl ?_
      refine l_pick_f rfl rfl rfl ?_
      refine l_nil ?_
      first | refine g_cond_f rfl ?_ | refine g_cond_f (congrArg (fun b => some (Value.bool b)) (decide_eq_false hbr)) ?_
      refine g_skip ?_
      refine g_inBlock ?_
      refine g_region ?_
      refine l_move rfl rfl ?_
      first | refine l_add rfl rfl rfl (w_i64 (by omega) (by omega)) ?_ | refine l_addw rfl rfl rfl ?_
      refine l_assign rfl rfl ?_
      refine l_nil ?_
      exact g_againi (ih (i + 1) (by omega) (by omega)) (.cons rfl (.cons rfl (.cons rfl (.cons rfl (.cons rfl (.nil))))))
    intro hbr
    have hbr := of_decide_eq_false hbr
    refine l_guard_no rfl rfl rfl ?_
    refine l_guard_no rfl rfl rfl ?_
    refine l_guard_no rfl rfl rfl ?_
    refine l_guard_no rfl rfl rfl ?_
    refine l_guard_no rfl rfl rfl ?_
    refine l_guard_no rfl rfl rfl ?_
    refine l_pick_f rfl rfl rfl ?_
    refine l_move rfl rfl ?_
    refine l_guard_yes rfl rfl ?_
    refine l_move rfl rfl ?_
    refine l_guard_yes rfl rfl ?_
    refine l_move rfl rfl ?_
    refine l_guard_yes rfl rfl ?_
    refine l_geq rfl rfl rfl ?_
    refine l_guard_yes rfl rfl ?_
    refine l_move rfl rfl ?_
    refine l_split 31 rfl ?_ ?_
    · intro hbr
      have hbr := of_decide_eq_true hbr
      refine l_guard_yes rfl rfl ?_
      refine l_move rfl rfl ?_
      refine l_guard_yes rfl rfl ?_
      refine l_move rfl rfl ?_
      refine l_guard_yes rfl rfl ?_
      refine l_ixs rfl Try.underlying36 Try.sizeOf5 rfl rfl (by omega) (by omega) ?_
      refine l_guard_yes rfl rfl ?_
      refine l_loadc rfl Try.isAgg5 rfl (word_any hr9 (by omega)) ?_
      refine l_guard_yes rfl rfl ?_
      refine l_move rfl rfl ?_
      refine l_guard_yes rfl rfl ?_
      refine l_neq rfl rfl rfl ?_
      refine l_guard_yes rfl rfl ?_
      refine l_pick_t rfl rfl rfl ?_
      refine l_pick_f rfl rfl rfl ?_
      refine l_nil ?_
      refine g_cond rfl ?_ ?_
      · intro hbr
        have hbr := of_decide_eq_true hbr
        (exfalso; first | omega | (simp at hbr; done))
      intro hbr
      have hbr := of_decide_eq_false hbr
      refine g_skip ?_
      refine g_inBlock ?_
      refine g_region ?_
      refine l_move rfl rfl ?_
      first | refine l_add rfl rfl rfl (w_i64 (by omega) (by omega)) ?_ | refine l_addw rfl rfl rfl ?_
      refine l_assign rfl rfl ?_
      refine l_nil ?_
      exact g_againi (ih (i + 1) (by omega) (by omega)) (.cons rfl (.cons rfl (.cons rfl (.cons rfl (.cons rfl (.nil))))))
    · intro hbr
      have hbr := of_decide_eq_false hbr
      (exfalso; first | omega | (simp at hbr; done))
  intro hbr
  have hbr := of_decide_eq_false hbr
  refine g_exit rfl ?_
  refine g_seq ?_
  refine g_region ?_
  refine l_assign rfl rfl ?_
  refine l_nil ?_
  refine g_ret Try.func70 rfl (.tmp rfl .nil) ?_
  exact Gives.mki ⟨rfl, rfl⟩
theorem W32s.all {W : List Int} (h : W32s W) : ∀ x ∈ W, 0 ≤ x ∧ x ≤ 4294967295 := by
  intro x hx
  obtain ⟨i, hi, rfl⟩ := List.getElem_of_mem hx
  have := h i
  simpa [List.getD_eq_getElem?_getD, hi] using this
theorem W32s.part {W : List Int} (h : W32s W) (a m : Nat) : W32s ((W.drop a).take m) := .of fun x hx => h.all x (List.mem_of_mem_drop (List.mem_of_mem_take hx))
theorem W32s.set {W : List Int} (h : W32s W) (i : Nat) {x : Int} (hx : 0 ≤ x ∧ x ≤ 4294967295) : W32s (W.set i x) := .of fun y hy => by
  rcases List.mem_or_eq_of_mem_set hy with hy | rfl
  · exact h.all y hy
  · exact hx
theorem W32s.spl {W X : List Int} (h : W32s W) (hX : W32s X) (a : Nat) : W32s (spl a X W) := .of fun y hy => by
  unfold Fw.spl at hy
  rcases List.mem_append.1 hy with hy | hy
  · rcases List.mem_append.1 hy with hy | hy
    · exact h.all y (List.mem_of_mem_take hy)
    · exact hX.all y hy
  · exact h.all y (List.mem_of_mem_drop hy)
theorem W32s.rep (m : Nat) {x : Int} (hx : 0 ≤ x ∧ x ≤ 4294967295) : W32s (List.replicate m x) := .of fun y hy => by
  obtain rfl := List.eq_of_mem_replicate hy
  exact hx
/-- A list that was told: the list, what it must hold, both by their numbers. -/
structure BK where
  la : Option Addr
  lc : Nat
  wa : Option Addr
  wc : Nat
  n : Nat
  c : List Int
def bkR (b : BK) : List Value := [.slice b.la b.n b.lc, .slice b.wa b.n b.wc, .slice none 0 0, .slice none 0 0]
def bkA (b : BK) : Atom := Star (Own 23 1 (.slice b.la b.n b.lc) b.n (ints .u32 b.c)) (Own 23 1 (.slice b.wa b.n b.wc) b.n (ints .u32 b.c))
def BkOk (b : BK) : Prop := b.c.length = b.n ∧ b.n ≤ 1099511627776 ∧ W32s b.c ∧ (b.n = 0 ∨ ∃ g, b.la = some ⟨g, 0, none⟩) ∧ (b.n = 0 ∨ ∃ g, b.wa = some ⟨g, 0, none⟩)
theorem bkR_len (B : Nat → BK) (N : Nat) : ∀ q, q < N → (bkR (B q)).length = 4 := fun q _ => rfl
theorem own_irow {w0 : World} {F : List Atom} {a : Option Addr} {n c : Nat} {W : List Int} (h : ∀ w, Holds w0 F w → (Own 23 1 (.slice a n c) n (ints .u32 W)).ok (hp w)) (hW : W.length = n) (ha : n = 0 ∨ ∃ g, a = some ⟨g, 0, none⟩) : IR w0 F .u32 a n W :=
  ⟨hW, ha.imp id fun ⟨g, hg⟩ => ⟨g, 0, hg, fun w hw => own_row (by rw [← hg]; exact h w hw)⟩⟩
theorem bk_ir {w0 : World} {F : List Atom} {N j : Nat} {B : Nat → BK} (hm : BigF N (fun j => bkA (B j)) ∈ F) (hj : j < N) (ho : BkOk (B j)) : IR w0 F .u32 (B j).la (B j).n (B j).c ∧ IR w0 F .u32 (B j).wa (B j).n (B j).c :=
  ⟨own_irow (fun w hw => (big_ok hm hj hw).1) ho.1 ho.2.2.2.1, own_irow (fun w hw => (big_ok hm hj hw).2.1) ho.1 ho.2.2.2.2⟩
theorem reads_ir {w0 : World} {F : List Atom} {a : Option Addr} {n c : Nat} {W : List Int} {kd : IntKind} (h : Reads w0 F (.slice a n c) n 1 (ints kd W)) (hW : W.length = n) : IR w0 F kd a n W := ⟨hW, by
  rcases h.2 with ⟨b, o, cap, hv, hr⟩ | ⟨_, h0⟩
  · injection hv with e1 _ _
    exact .inr ⟨b, o, e1, hr⟩
  · exact .inl h0⟩
theorem reads_of {w0 : World} {F : List Atom} {E : Nat} {v : Value} {n : Nat} {kd : IntKind} {W : List Int} (hm : Own E 1 v n (ints kd W) ∈ F) (w : World) (hw : Holds w0 F w) : Reads w0 F v n 1 (ints kd W) := by
  obtain ⟨h1, _, h2⟩ := own_cases hm w hw
  rcases h2 with h2 | ⟨g, c, rfl, hc⟩
  · exact ⟨h1, .inr h2⟩
  · exact ⟨h1, .inl ⟨g, 0, c, rfl, .own hm⟩⟩
theorem samew_ok (w0 : World) (F : List Atom) (a1 a2 : Option Addr) (n c1 c2 : Nat) (W : List Int) (h1 : IR w0 F .u32 a1 n W) (h2 : IR w0 F .u32 a2 n W) (hb : W32s W) (hn : n ≤ 9223372036854775807) :
    CallK Try.prog 39 [.slice a1 n c1, .slice a2 n c2] w0 (F) (Gives w0 fun v F2 => v = .bool true ∧ F2 = F) := by
  have hl := h1.1
  refine c_enter Try.func39 rfl rfl rfl ?_
  refine g_seq ?_
  refine g_region ?_
  refine l_assign rfl rfl ?_
  refine l_nil ?_
  refine g_seq ?_
  refine g_seq ?_
  refine g_region ?_
  refine l_move rfl rfl ?_
  refine l_len rfl Try.underlying54 rfl ?_
  refine l_move rfl rfl ?_
  refine l_len rfl Try.underlying54 rfl ?_
  refine l_neq rfl rfl rfl ?_
  refine l_nil ?_
  refine g_cond rfl ?_ ?_
  · intro hbr
    have hbr := of_decide_eq_true hbr
    (exfalso; omega)
  intro hbr
  have hbr := of_decide_eq_false hbr
  refine g_skip ?_
  refine g_seq ?_
  refine g_seq ?_
  refine g_region ?_
  refine l_assign rfl rfl ?_
  refine l_nil ?_
  refine g_block ?_
  refine g_loopc (X := Int) [(0, _), (1, _)] (.cons rfl (.cons rfl (.nil))) (fun i => 0 ≤ i ∧ i ≤ n) (fun i => (n - i).toNat) (fun i => [(5, .int .i64 i)]) (0) (by omega) (.cons rfl .nil) ?_
  rintro i ⟨i0, i1⟩ ih
  dsimp only [List.cons_append, List.nil_append] at ih ⊢
  refine g_seq ?_
  refine g_seq ?_
  refine g_region ?_
  refine l_move rfl rfl ?_
  refine l_move rfl rfl ?_
  refine l_len rfl Try.underlying54 rfl ?_
  refine l_lss rfl rfl rfl ?_
  refine l_nil ?_
  refine g_cond rfl ?_ ?_
  · intro hbr
    have hbr := of_decide_eq_true hbr
    refine g_skip ?_
    refine g_seq ?_
    refine g_block ?_
    refine g_seq ?_
    refine gp_start mo (by kernel_rfl) (by kernel_rfl) ?_
    refine gp_quiet 0 rfl rfl rfl rfl rfl rfl (q_move rfl) ?_
    refine gp_quiet 1 rfl rfl rfl rfl rfl rfl (q_move rfl) ?_
    obtain ⟨b1, o1, rfl, hr1⟩ := h1.some (i := i.toNat) (by omega)
    refine gp_quiet 2 rfl rfl rfl rfl rfl rfl (q_ixs Try.underlying54 Try.sizeOf23 rfl rfl (by omega) (by omega)) ?_
    refine gp_quiet 3 rfl rfl rfl rfl rfl rfl (q_loadc Try.isAgg23 rfl (word_any hr1 (by omega))) ?_
    refine gp_quiet 4 rfl rfl rfl rfl rfl rfl (q_move rfl) ?_
    refine gp_quiet 5 rfl rfl rfl rfl rfl rfl (q_move rfl) ?_
    obtain ⟨b2, o2, rfl, hr2⟩ := h2.some (i := i.toNat) (by omega)
    refine gp_quiet 6 rfl rfl rfl rfl rfl rfl (q_ixs Try.underlying54 Try.sizeOf23 rfl rfl (by omega) (by omega)) ?_
    refine gp_quiet 7 rfl rfl rfl rfl rfl rfl (q_loadc Try.isAgg23 rfl (word_any hr2 (by omega))) ?_
    refine gp_quiet 8 rfl rfl rfl rfl rfl rfl (q_neq rfl rfl) ?_
    refine gp_end rfl rfl ?_
    refine g_cond rfl ?_ ?_
    · intro hbr
      have hbr := of_decide_eq_true hbr
      (exfalso; omega)
    intro hbr
    have hbr := of_decide_eq_false hbr
    refine g_skip ?_
    refine g_inBlock ?_
    refine g_region ?_
    refine l_move rfl rfl ?_
    first | refine l_add rfl rfl rfl (w_i64 (by omega) (by omega)) ?_ | refine l_addw rfl rfl rfl ?_
    refine l_assign rfl rfl ?_
    refine l_nil ?_
    exact g_againi (ih (i + 1) (by omega) (by omega)) (.cons rfl (.cons rfl (.cons rfl (.nil))))
  intro hbr
  have hbr := of_decide_eq_false hbr
  refine g_exit rfl ?_
  refine g_seq ?_
  refine g_region ?_
  refine l_assign rfl rfl ?_
  refine l_nil ?_
  refine g_ret Try.func39 rfl (.tmp rfl .nil) ?_
  exact Gives.mki ⟨rfl, rfl⟩
theorem allw_ok (w0 : World) (F : List Atom) (a : Option Addr) (len c n : Nat) (x y : Int) (W : List Int) (hI : IR w0 F .u32 a len W) (hl : len ≤ 140737488355327) (hn : n ≤ 140737488355327) (hW : ∀ j, j < len → W.getD j 0 = if j < n then x else y) :
    CallK Try.prog 71 [.slice a len c, .int .i64 n, .int .u32 x, .int .u32 y] w0 (F) (Gives w0 fun v F2 => v = .bool true ∧ F2 = F) := by
  have hWl := hI.1
  refine c_enter Try.func71 rfl rfl rfl ?_
  refine g_seq ?_
  refine g_region ?_
  refine l_assign rfl rfl ?_
  refine l_nil ?_
  refine g_seq ?_
  refine g_seq ?_
  refine g_region ?_
  refine l_assign rfl rfl ?_
  refine l_nil ?_
  refine g_block ?_
  refine g_loopc (X := Int) [(0, _), (1, _), (2, _), (3, _)] (.cons rfl (.cons rfl (.cons rfl (.cons rfl (.nil))))) (fun i => 0 ≤ i ∧ i ≤ len) (fun i => ((len : Int) - i).toNat) (fun i => [(9, .int .i64 i)]) (0) (by omega) (.cons rfl .nil) ?_
  rintro i ⟨i0, i1⟩ ih
  dsimp only [List.cons_append, List.nil_append] at ih ⊢
  have hWi := hW i.toNat
  refine g_seq ?_
  refine g_seq ?_
  refine g_region ?_
  refine l_move rfl rfl ?_
  refine l_move rfl rfl ?_
  refine l_len rfl Try.underlying54 rfl ?_
  refine l_lss rfl rfl rfl ?_
  refine l_nil ?_
  refine g_cond rfl ?_ ?_
  · intro hbr
    have hbr := of_decide_eq_true hbr
    refine g_skip ?_
    refine g_seq ?_
    refine g_block ?_
    refine g_seq ?_
    refine g_region ?_
    obtain ⟨b9, o9, rfl, hr9⟩ := hI.some (i := i.toNat) (by omega)
    refine l_move rfl rfl ?_
    refine l_move rfl rfl ?_
    refine l_lss rfl rfl rfl ?_
    refine l_move rfl rfl ?_
    refine l_split 19 rfl ?_ ?_
    · intro hbr
      have hbr := of_decide_eq_true hbr
      refine l_guard_yes rfl rfl ?_
      refine l_move rfl rfl ?_
      refine l_guard_yes rfl rfl ?_
      refine l_move rfl rfl ?_
      refine l_guard_yes rfl rfl ?_
      refine l_ixs rfl Try.underlying54 Try.sizeOf23 rfl rfl (by omega) (by omega) ?_
      refine l_guard_yes rfl rfl ?_
      refine l_loadc rfl Try.isAgg23 rfl (word_any hr9 (by omega)) ?_
      refine l_guard_yes rfl rfl ?_
      refine l_move rfl rfl ?_
      refine l_guard_yes rfl rfl ?_
      refine l_neq rfl rfl rfl ?_
      refine l_pick_t rfl rfl rfl ?_
      refine l_move rfl rfl ?_
      refine l_split 27 rfl ?_ ?_
      · intro hbr
        have hbr := of_decide_eq_true hbr
        (exfalso; first | omega | (simp at hbr; done))
      intro hbr
      have hbr := of_decide_eq_false hbr
      refine l_guard_yes rfl rfl ?_
      refine l_move rfl rfl ?_
      refine l_guard_yes rfl rfl ?_
      refine l_move rfl rfl ?_
      refine l_guard_yes rfl rfl ?_
      refine l_geq rfl rfl rfl ?_
      refine l_guard_yes rfl rfl ?_
      refine l_move rfl rfl ?_
      refine l_split 31 rfl ?_ ?_
      · intro hbr
        have hbr := of_decide_eq_true hbr
        (exfalso; first | omega | (simp at hbr; done))
      intro hbr
      have hbr := of_decide_eq_false hbr
      refine l_guard_no rfl rfl rfl ?_
      refine l_guard_no rfl rfl rfl ?_
      refine l_guard_no rfl rfl rfl ?_
      refine l_guard_no rfl rfl rfl ?_
      refine l_guard_no rfl rfl rfl ?_
      refine l_guard_no rfl rfl rfl ?_
      refine l_guard_yes rfl rfl ?_
      refine l_pick_f rfl rfl rfl ?_
      refine l_pick_f rfl rfl rfl ?_
      refine l_nil ?_
      first | refine g_cond_f rfl ?_ | refine g_cond_f (congrArg (fun b => some (Value.bool b)) (decide_eq_false hbr)) ?_
      refine g_skip ?_
      refine g_inBlock ?_
      refine g_region ?_
      refine l_move rfl rfl ?_
      first | refine l_add rfl rfl rfl (w_i64 (by omega) (by omega)) ?_ | refine l_addw rfl rfl rfl ?_
      refine l_assign rfl rfl ?_
      refine l_nil ?_
      exact g_againi (ih (i + 1) (by omega) (by omega)) (.cons rfl (.cons rfl (.cons rfl (.cons rfl (.cons rfl (.nil))))))
    intro hbr
    have hbr := of_decide_eq_false hbr
    refine l_guard_no rfl rfl rfl ?_
    refine l_guard_no rfl rfl rfl ?_
    refine l_guard_no rfl rfl rfl ?_
    refine l_guard_no rfl rfl rfl ?_
    refine l_guard_no rfl rfl rfl ?_
    refine l_guard_no rfl rfl rfl ?_
    refine l_pick_f rfl rfl rfl ?_
    refine l_move rfl rfl ?_
    refine l_guard_yes rfl rfl ?_
    refine l_move rfl rfl ?_
    refine l_guard_yes rfl rfl ?_
    refine l_move rfl rfl ?_
    refine l_guard_yes rfl rfl ?_
    refine l_geq rfl rfl rfl ?_
    refine l_guard_yes rfl rfl ?_
    refine l_move rfl rfl ?_
    refine l_split 31 rfl ?_ ?_
    · intro hbr
      have hbr := of_decide_eq_true hbr
      refine l_guard_yes rfl rfl ?_
      refine l_move rfl rfl ?_
      refine l_guard_yes rfl rfl ?_
      refine l_move rfl rfl ?_
      refine l_guard_yes rfl rfl ?_
      refine l_ixs rfl Try.underlying54 Try.sizeOf23 rfl rfl (by omega) (by omega) ?_
      refine l_guard_yes rfl rfl ?_
      refine l_loadc rfl Try.isAgg23 rfl (word_any hr9 (by omega)) ?_
      refine l_guard_yes rfl rfl ?_
      refine l_move rfl rfl ?_
      refine l_guard_yes rfl rfl ?_
      refine l_neq rfl rfl rfl ?_
      refine l_guard_yes rfl rfl ?_
      refine l_pick_t rfl rfl rfl ?_
      refine l_pick_f rfl rfl rfl ?_
      refine l_nil ?_
      refine g_cond rfl ?_ ?_
      · intro hbr
        have hbr := of_decide_eq_true hbr
        (exfalso; first | omega | (simp at hbr; done))
      intro hbr
      have hbr := of_decide_eq_false hbr
      refine g_skip ?_
      refine g_inBlock ?_
      refine g_region ?_
      refine l_move rfl rfl ?_
      first | refine l_add rfl rfl rfl (w_i64 (by omega) (by omega)) ?_ | refine l_addw rfl rfl rfl ?_
      refine l_assign rfl rfl ?_
      refine l_nil ?_
      exact g_againi (ih (i + 1) (by omega) (by omega)) (.cons rfl (.cons rfl (.cons rfl (.cons rfl (.cons rfl (.nil))))))
    · intro hbr
      have hbr := of_decide_eq_false hbr
      (exfalso; first | omega | (simp at hbr; done))
  intro hbr
  have hbr := of_decide_eq_false hbr
  refine g_exit rfl ?_
  refine g_seq ?_
  refine g_region ?_
  refine l_assign rfl rfl ?_
  refine l_nil ?_
  refine g_ret Try.func71 rfl (.tmp rfl .nil) ?_
  exact Gives.mki ⟨rfl, rfl⟩
set_option maxHeartbeats 4000000 in
theorem keepw_ok8 (w0 : World) (F : List Atom) (kb : Nat) (u0 u1 u2 u3 u4 : Value) (ka : Option Addr) (K kc : Nat) (B : Nat → BK8) (hB : ∀ j, j < K → BkOk8 (B j)) (hK : K ≤ 1099511627776) (al aw : Option Addr) (n cl cw : Nat) (W : List Int) (hWl : W.length = n) (hn : n ≤ 1099511627776) (hb : U8s W) (hal : n = 0 ∨ ∃ g, al = some ⟨g, 0, none⟩) (hR : Reads w0 F (.slice aw n cw) n 1 (ints .u8 W)) :
    CallK Try.prog 57 [.pointer (some ⟨kb, 4, none⟩), .slice al n cl, .slice aw n cw] w0 (Blk kb (.cells [u0, u1, u2, u3, .slice ka K kc, u4].toArray 51 (0, 0)) :: Own 102 4 (.slice ka K kc) K (rowsN K (fun j => bkR8 (B j))) :: BigF K (fun j => bkA8 (B j)) :: Own 5 1 (.slice al n cl) n (ints .u8 W) :: F) (Gives w0 fun v F2 => ∃ (B' : Nat → BK8) (ka' : Option Addr) (kc' : Nat), v = .bool true ∧ (∀ j, j < K + 1 → BkOk8 (B' j)) ∧ (∃ g, ka' = some ⟨g, 0, none⟩) ∧ F2 = Blk kb (.cells [u0, u1, u2, u3, .slice ka' (K + 1) kc', u4].toArray 51 (0, 0)) :: Own 102 4 (.slice ka' (K + 1) kc') (K + 1) (rowsN (K + 1) (fun j => bkR8 (B' j))) :: BigF (K + 1) (fun j => bkA8 (B' j)) :: F) := by
  refine c_enter Try.func57 rfl rfl rfl ?_
  refine g_seq ?_
  refine g_region ?_
  refine l_assign rfl rfl ?_
  refine l_nil ?_
  refine g_seq ?_
  refine g_region ?_
  refine l_assign rfl rfl ?_
  refine l_nil ?_
  refine g_seq ?_
  refine g_region ?_
  refine l_move rfl rfl ?_
  refine l_move rfl rfl ?_
  refine l_own_nil 5 1 ?_
  refine l_does rfl (does_apps 0 (by_ := 1) (kd := .u8) (V := []) (W := W) (m := 0) (m2 := n) (m3 := n) (V3 := W) Try.underlying36 Try.type5 rfl rfl rfl rfl rfl rfl rfl hR.ex (by omega) (by simp only [maxLen]; omega) (by omega) rfl (fun _ _ => rfl)) ?_
  rintro _ _ ⟨a10, c10, ha10, hn10, rfl, rfl⟩
  refine l_assign rfl rfl ?_
  refine l_nil ?_
  refine g_seq ?_
  refine g_region ?_
  refine l_move rfl rfl ?_
  refine l_move rfl rfl ?_
  refine l_nilCheck rfl rfl ?_
  refine l_fieldAddr rfl fa_49_0 rfl ?_
  refine l_ld rfl Try.isAgg46 rfl rfl ?_
  refine l_move rfl rfl ?_
  refine l_move rfl rfl ?_
  refine l_build rfl rfl (fun w => bd_102_0_1 _ _ _ _ _ _ w) ?_
  refine l_buildSlice rfl Try.underlying46 Try.sizeOf102 Try.zeroValue102 rfl rfl rfl rfl rfl rfl ?_; intro b19
  refine l_fronto b19 ?_
  refine l_frontv (.slice ka K kc) ?_
  refine l_append 0 (sz := 4) (by_ := 96) (m2 := 1) (news := [.slice al n cl, .slice a10 n c10, .slice none 0 0, .slice none 0 0]) rfl Try.underlying46 Try.type102 rfl rfl rfl rfl rfl rfl rfl rfl ⟨rfl, .inl ⟨_, _, _, rfl, .own (mem_getO 1 rfl)⟩⟩ rfl (by omega) (by simp only [maxLen]; omega) (fun _ => rfl) ?_; intro v20 hv20
  rw [show rowsN K (fun j => bkR8 (B j)) ++ [Value.slice al n cl, .slice a10 n c10, .slice none 0 0, .slice none 0 0] = rowsN (K + 1) (fun j => bkR8 (upF B K ⟨al, cl, a10, c10, n, W⟩ j)) from rowsN_push (r := bkR8) (x := ⟨al, cl, a10, c10, n, W⟩)]
  refine l_fact (own_slice (mem_getO 0 rfl)) ?_
  rintro ⟨a20, c20, rfl, ha20⟩
  refine l_nilCheck rfl rfl ?_
  refine l_fieldAddr rfl fa_49_0 rfl ?_
  refine l_st Try.sizeOf46 rfl rfl rfl rfl ?_
  refine l_nil ?_
  refine g_seq ?_
  refine g_region ?_
  refine l_move rfl rfl ?_
  refine l_move rfl rfl ?_
  refine l_call rfl Try.call69 rfl (samew_ok8 _ _ al aw n cl cw W (own_irow8 (fun w hw => (hw.ok _ (by first | exact mem_getO 0 rfl | exact mem_getO 1 rfl | exact mem_getO 2 rfl | exact mem_getO 3 rfl | exact mem_getO 4 rfl | exact mem_getO 5 rfl | exact mem_getO 6 rfl | exact mem_getO 7 rfl | exact mem_getO 8 rfl | exact mem_getO 9 rfl | exact mem_getO 10 rfl | exact mem_getO 11 rfl))) hWl hal) (reads_ir8 hR hWl).ex hb (by omega)) ?_; rintro _ _ ⟨rfl, rfl⟩
  refine l_assign rfl rfl ?_
  refine l_nil ?_
  refine g_take (BigF K (fun j => bkA8 (B j))) ?_
  refine g_take (Own 5 1 (.slice a10 n c10) n (ints .u8 W)) ?_
  refine g_take (Own 5 1 (.slice al n cl) n (ints .u8 W)) ?_
  refine g_unstar ?_
  refine g_snocb (fun j => bkA8 (upF B K ⟨al, cl, a10, c10, n, W⟩ j)) (by simp only [upF_at]; rfl) (fun k hk => by simp only [upF_ne (show k ≠ K by omega)]) ?_
  refine g_ret Try.func57 rfl (.tmp rfl .nil) ?_
  exact Gives.mki ⟨upF B K ⟨al, cl, a10, c10, n, W⟩, a20, c20, rfl, fun j hj => by
    by_cases e : j = K
    · subst e; rw [upF_at]; exact ⟨hWl, hn, hb, hal, ha10⟩
    · rw [upF_ne e]; exact hB j (by omega), ha20.resolve_left (by omega), rfl⟩
set_option maxHeartbeats 4000000 in
theorem keepw_ok (w0 : World) (F : List Atom) (kb : Nat) (u0 u1 u2 u3 u4 : Value) (ka : Option Addr) (K kc : Nat) (B : Nat → BK) (hB : ∀ j, j < K → BkOk (B j)) (hK : K ≤ 1099511627776) (al aw : Option Addr) (n cl cw : Nat) (W : List Int) (hWl : W.length = n) (hn : n ≤ 1099511627776) (hb : W32s W) (hal : n = 0 ∨ ∃ g, al = some ⟨g, 0, none⟩) (hR : Reads w0 F (.slice aw n cw) n 1 (ints .u32 W)) :
    CallK Try.prog 61 [.pointer (some ⟨kb, 4, none⟩), .slice al n cl, .slice aw n cw] w0 (Blk kb (.cells [u0, u1, u2, u3, u4, .slice ka K kc].toArray 51 (0, 0)) :: Own 104 4 (.slice ka K kc) K (rowsN K (fun j => bkR (B j))) :: BigF K (fun j => bkA (B j)) :: Own 23 1 (.slice al n cl) n (ints .u32 W) :: F) (Gives w0 fun v F2 => ∃ (B' : Nat → BK) (ka' : Option Addr) (kc' : Nat), v = .bool true ∧ (∀ j, j < K + 1 → BkOk (B' j)) ∧ (∃ g, ka' = some ⟨g, 0, none⟩) ∧ F2 = Blk kb (.cells [u0, u1, u2, u3, u4, .slice ka' (K + 1) kc'].toArray 51 (0, 0)) :: Own 104 4 (.slice ka' (K + 1) kc') (K + 1) (rowsN (K + 1) (fun j => bkR (B' j))) :: BigF (K + 1) (fun j => bkA (B' j)) :: F) := by
  refine c_enter Try.func61 rfl rfl rfl ?_
  refine g_seq ?_
  refine g_region ?_
  refine l_assign rfl rfl ?_
  refine l_nil ?_
  refine g_seq ?_
  refine g_region ?_
  refine l_assign rfl rfl ?_
  refine l_nil ?_
  refine g_seq ?_
  refine g_region ?_
  refine l_move rfl rfl ?_
  refine l_move rfl rfl ?_
  refine l_own_nil 23 1 ?_
  refine l_does rfl (does_apps 0 (by_ := 4) (kd := .u32) (V := []) (W := W) (m := 0) (m2 := n) (m3 := n) (V3 := W) Try.underlying54 Try.type23 rfl rfl rfl rfl rfl rfl rfl hR.ex (by omega) (by simp only [maxLen]; omega) (by omega) rfl (fun _ _ => rfl)) ?_
  rintro _ _ ⟨a10, c10, ha10, hn10, rfl, rfl⟩
  refine l_assign rfl rfl ?_
  refine l_nil ?_
  refine g_seq ?_
  refine g_region ?_
  refine l_move rfl rfl ?_
  refine l_move rfl rfl ?_
  refine l_nilCheck rfl rfl ?_
  refine l_fieldAddr rfl fa_49_1 rfl ?_
  refine l_ld rfl Try.isAgg47 rfl rfl ?_
  refine l_move rfl rfl ?_
  refine l_move rfl rfl ?_
  refine l_build rfl rfl (fun w => bd_104_0_1 _ _ _ _ _ _ w) ?_
  refine l_buildSlice rfl Try.underlying47 Try.sizeOf104 Try.zeroValue104 rfl rfl rfl rfl rfl rfl ?_; intro b19
  refine l_fronto b19 ?_
  refine l_frontv (.slice ka K kc) ?_
  refine l_append 0 (sz := 4) (by_ := 96) (m2 := 1) (news := [.slice al n cl, .slice a10 n c10, .slice none 0 0, .slice none 0 0]) rfl Try.underlying47 Try.type104 rfl rfl rfl rfl rfl rfl rfl rfl ⟨rfl, .inl ⟨_, _, _, rfl, .own (mem_getO 1 rfl)⟩⟩ rfl (by omega) (by simp only [maxLen]; omega) (fun _ => rfl) ?_; intro v20 hv20
  rw [show rowsN K (fun j => bkR (B j)) ++ [Value.slice al n cl, .slice a10 n c10, .slice none 0 0, .slice none 0 0] = rowsN (K + 1) (fun j => bkR (upF B K ⟨al, cl, a10, c10, n, W⟩ j)) from rowsN_push (r := bkR) (x := ⟨al, cl, a10, c10, n, W⟩)]
  refine l_fact (own_slice (mem_getO 0 rfl)) ?_
  rintro ⟨a20, c20, rfl, ha20⟩
  refine l_nilCheck rfl rfl ?_
  refine l_fieldAddr rfl fa_49_1 rfl ?_
  refine l_st Try.sizeOf47 rfl rfl rfl rfl ?_
  refine l_nil ?_
  refine g_seq ?_
  refine g_region ?_
  refine l_move rfl rfl ?_
  refine l_move rfl rfl ?_
  refine l_call rfl Try.call39 rfl (samew_ok _ _ al aw n cl cw W (own_irow (fun w hw => (hw.ok _ (by first | exact mem_getO 0 rfl | exact mem_getO 1 rfl | exact mem_getO 2 rfl | exact mem_getO 3 rfl | exact mem_getO 4 rfl | exact mem_getO 5 rfl | exact mem_getO 6 rfl | exact mem_getO 7 rfl | exact mem_getO 8 rfl | exact mem_getO 9 rfl | exact mem_getO 10 rfl | exact mem_getO 11 rfl))) hWl hal) (reads_ir hR hWl).ex hb (by omega)) ?_; rintro _ _ ⟨rfl, rfl⟩
  refine l_assign rfl rfl ?_
  refine l_nil ?_
  refine g_take (BigF K (fun j => bkA (B j))) ?_
  refine g_take (Own 23 1 (.slice a10 n c10) n (ints .u32 W)) ?_
  refine g_take (Own 23 1 (.slice al n cl) n (ints .u32 W)) ?_
  refine g_unstar ?_
  refine g_snocb (fun j => bkA (upF B K ⟨al, cl, a10, c10, n, W⟩ j)) (by simp only [upF_at]; rfl) (fun k hk => by simp only [upF_ne (show k ≠ K by omega)]) ?_
  refine g_ret Try.func61 rfl (.tmp rfl .nil) ?_
  exact Gives.mki ⟨upF B K ⟨al, cl, a10, c10, n, W⟩, a20, c20, rfl, fun j hj => by
    by_cases e : j = K
    · subst e; rw [upF_at]; exact ⟨hWl, hn, hb, hal, ha10⟩
    · rw [upF_ne e]; exact hB j (by omega), ha20.resolve_left (by omega), rfl⟩
theorem gx_ext8 {X l : List Int} (hl : X.length = l.length) (h : ∀ j, j < l.length → X.getD j 0 = l.getD j 0) : X = l := by
  apply List.ext_getElem hl
  intro i h1 h2
  have := h i h2
  simpa [List.getD_eq_getElem?_getD, h1, h2] using this
theorem gx_set8 {X : List Int} {i j : Nat} {x : Int} (hi : i < X.length) : (X.set i x).getD j 0 = if i = j then x else X.getD j 0 := by
  simp only [List.getD_eq_getElem?_getD, List.getElem?_set]
  by_cases h : i = j
  · subst h; simp [hi]
  · simp [h]
/-- A list that is lent: with nine marks behind it. -/
def LentG8 (l : List Int) (n : Nat) (X : List Int) : Prop := X.length = n + 9 ∧ (∀ j, j < n → X.getD j 0 = l.getD j 0) ∧ ∀ j, n ≤ j → j < n + 9 → X.getD j 0 = 77
theorem LentG8.pre {l X : List Int} {n : Nat} (h : LentG8 l n X) (hl : l.length = n) : X.take n = l := by
  obtain ⟨h1, h2, _⟩ := h
  refine gx_ext8 (by rw [List.length_take]; omega) fun j hj => ?_
  have e : (X.take n).getD j 0 = X.getD j 0 := by simp [List.getD_eq_getElem?_getD, List.getElem?_take, show j < n by omega]
  rw [e]
  exact h2 j (by omega)
theorem lent_row8 {w0 : World} {F : List Atom} {g n cap : Nat} {E : Nat} {l X : List Int} (h : LentG8 l n X) (hl : l.length = n) (hm : Own E 1 (.slice (some ⟨g, 0, none⟩) (n + 9) cap) (n + 9) (ints .u8 X) ∈ F) : RowAt w0 F g 0 (ints .u8 l) := by
  have := (RowAt.own (w0 := w0) hm).mid 0 n
  rw [List.drop_zero, ints_take, h.pre hl] at this
  exact this
theorem lent08 {W : List Int} {n : Nat} (hW : W.length = n) : spl 0 (W.take (min n (n + 9))) (List.replicate (n + 9) 0) = W ++ List.replicate 9 0 := by
  rw [Nat.min_eq_left (by omega), List.take_of_length_le (by omega)]
  unfold spl
  simp [hW]
theorem l_copy0n8 {P : Program} {f : FuncId} {w0 : World} {K : Post} {n' : Nat} {d : List Deferred} {ops : Array Oper} {rest : List Oper} {k : List Go.Item} {e : Env} {F : List Atom} {ty : TypeId} {pos : String} {aft : Array Edge} {t x y T E m g o c c2 a q} (hq : q = 0) (ht : Nat.ble (t + 1) n' = true) (hT : P.underlying T = some (.slice E)) (hS : ∀ w, (sizeOf E).run P w = .ok 1 w)
    (hx : evO e x = some (.slice (some ⟨g, o, none⟩) m c)) (hy : evO e y = some (.slice a q c2)) (hk : GL P f w0 K n' d ops rest k ((t, .int .i64 0) :: e) F) :
    GL P f w0 K n' d ops (.mk (some t) (.call ⟨.builtin .copy, #[x, y], #[T, T]⟩) ty pos aft none :: rest) k e F := by
  subst hq
  exact l_copy0 ht hT hS hx hy hk
set_option maxHeartbeats 4000000 in
theorem lent_s8 (w0 : World) (F : List Atom) (a : Option Addr) (n c : Nat) (l : List Int) (hl : l.length = n) (hR : Reads w0 F (.slice a n c) n 1 (ints .u8 l)) (hn : n ≤ 2147483800) (hU : U8s l) :
    CallK Try.prog 49 [.slice a n c] w0 (F) (Gives w0 fun v F2 => ∃ g X, v = .slice (some ⟨g, 0, none⟩) n (n + 9) ∧ LentG8 l n X ∧ F2 = Own 5 1 (.slice (some ⟨g, 0, none⟩) (n + 9) (n + 9)) (n + 9) (ints .u8 X) :: F) := by
  refine c_enter Try.func49 rfl rfl rfl ?_
  refine g_seq ?_
  refine g_region ?_
  refine l_assign rfl rfl ?_
  refine l_nil ?_
  refine g_seq ?_
  refine g_region ?_
  refine l_move rfl rfl ?_
  refine l_len rfl Try.underlying36 rfl ?_
  first | refine l_add rfl rfl rfl (w_i64 (by omega) (by omega)) ?_ | refine l_addw rfl rfl rfl ?_
  refine l_makew rfl Try.underlying36 Try.type5 rfl rfl rfl rfl (by omega) (by show (1 : Int) * _ ≤ _; omega) (by omega) ?_; intro b8; rw [show ((n : Int) + 9).toNat = n + 9 by omega]
  refine l_assign rfl rfl ?_
  refine l_nil ?_
  refine g_seq ?_
  refine g_region ?_
  refine l_move rfl rfl ?_
  refine l_move rfl rfl ?_
  refine l_copyw 0 rfl Try.underlying36 Try.sizeOf5 rfl rfl rfl hR.ex (by simp) (by rw [lent08 hl]; rfl) ?_
  refine l_nil ?_
  refine g_seq ?_
  refine g_seq ?_
  refine g_region ?_
  refine l_move rfl rfl ?_
  refine l_len rfl Try.underlying36 rfl ?_
  refine l_assign rfl rfl ?_
  refine l_nil ?_
  refine g_block ?_
  refine g_loopk (X := Int × List Int) [(0, _), (2, _), (3, _)] (.cons rfl (.cons rfl (.cons rfl (.nil)))) (fun z => (n : Int) ≤ z.1 ∧ z.1 ≤ (n : Int) + 9 ∧ z.2.length = n + 9 ∧ (∀ j, j < n → z.2.getD j 0 = l.getD j 0) ∧ ∀ j : Nat, n ≤ j → (j : Int) < z.1 → z.2.getD j 0 = 77) (fun z => ((n : Int) + 9 - z.1).toNat) (fun z => [(4, .int .i64 z.1)]) (fun z => Own 5 1 (.slice (some ⟨b8, 0, none⟩) (n + 9) (n + 9)) (n + 9) (ints .u8 z.2) :: F) (((n : Int), l ++ List.replicate 9 0)) (⟨by simp only; omega, by simp only; omega, by simp [hl], fun j hj => by simp only [List.getD_eq_getElem?_getD]; rw [List.getElem?_append_left (by omega)], fun j h1 h2 => by simp only at h2; omega⟩) (.cons rfl .nil) (fun w hw => SPI.holds hw) ?_
  rintro ⟨i, X⟩ ⟨i0, i1, hX, hy, hz⟩ ih
  dsimp only [List.cons_append, List.nil_append] at ih ⊢
  simp only at i0 i1 hX hy hz
  refine g_seq ?_
  refine g_seq ?_
  refine g_region ?_
  refine l_move rfl rfl ?_
  refine l_move rfl rfl ?_
  refine l_len rfl Try.underlying36 rfl ?_
  refine l_lss rfl rfl rfl ?_
  refine l_nil ?_
  refine g_cond rfl ?_ ?_
  · intro hbr
    have hbr := of_decide_eq_true hbr
    refine g_skip ?_
    refine g_seq ?_
    refine g_block ?_
    refine g_region ?_
    refine l_move rfl rfl ?_
    refine l_move rfl rfl ?_
    refine l_ixs rfl Try.underlying36 Try.sizeOf5 rfl rfl (by omega) (by omega) ?_
    refine l_storew 0 Try.sizeOf5 rfl rfl rfl (by omega) rfl ?_
    refine l_nil ?_
    refine g_inBlock ?_
    refine g_region ?_
    refine l_move rfl rfl ?_
    first | refine l_add rfl rfl rfl (w_i64 (by omega) (by omega)) ?_ | refine l_addw rfl rfl rfl ?_
    refine l_assign rfl rfl ?_
    refine l_nil ?_
    exact g_againi (ih (i + 1, X.set i.toNat 77) ⟨by simp only; omega, by simp only; omega, by simp only [List.length_set]; exact hX, fun j hj => by simp only; rw [gx_set8 (by omega), if_neg (by omega)]; exact hy j hj, fun j h1 h2 => by simp only at h2 ⊢; rw [gx_set8 (by omega)]; split; rfl; exact hz j h1 (by omega)⟩ (by simp only; omega)) (.cons rfl (.cons rfl (.cons rfl (.cons rfl (.nil)))))
  intro hbr
  have hbr := of_decide_eq_false hbr
  refine g_exit rfl ?_
  obtain rfl : i = (n : Int) + 9 := by omega
  refine g_seq ?_
  refine g_region ?_
  refine l_move rfl rfl ?_
  refine l_move rfl rfl ?_
  refine l_len rfl Try.underlying36 rfl ?_
  refine l_slice_hi rfl Try.underlying36 Try.sizeOf5 rfl rfl (by omega) (by omega) ?_
  refine l_assign rfl rfl ?_
  refine l_nil ?_
  refine g_ret Try.func49 rfl (.tmp rfl .nil) ?_
  exact Gives.mki ⟨b8, X, by rw [Int.toNat_natCast]; rfl, ⟨hX, hy, fun j h1 h2 => hz j h1 (by omega)⟩, rfl⟩
set_option maxHeartbeats 4000000 in
theorem lent_z8 (w0 : World) (F : List Atom) (a : Option Addr) (n c : Nat) (l : List Int) (hl : l.length = n)  (hn : n ≤ 2147483800) (hU : U8s l) (hn0 : n = 0) :
    CallK Try.prog 49 [.slice a n c] w0 (F) (Gives w0 fun v F2 => ∃ g X, v = .slice (some ⟨g, 0, none⟩) n (n + 9) ∧ LentG8 l n X ∧ F2 = Own 5 1 (.slice (some ⟨g, 0, none⟩) (n + 9) (n + 9)) (n + 9) (ints .u8 X) :: F) := by
  refine c_enter Try.func49 rfl rfl rfl ?_
  refine g_seq ?_
  refine g_region ?_
  refine l_assign rfl rfl ?_
  refine l_nil ?_
  refine g_seq ?_
  refine g_region ?_
  refine l_move rfl rfl ?_
  refine l_len rfl Try.underlying36 rfl ?_
  first | refine l_add rfl rfl rfl (w_i64 (by omega) (by omega)) ?_ | refine l_addw rfl rfl rfl ?_
  refine l_makew rfl Try.underlying36 Try.type5 rfl rfl rfl rfl (by omega) (by show (1 : Int) * _ ≤ _; omega) (by omega) ?_; intro b8; rw [show ((n : Int) + 9).toNat = n + 9 by omega]
  refine l_assign rfl rfl ?_
  refine l_nil ?_
  refine g_seq ?_
  refine g_region ?_
  refine l_move rfl rfl ?_
  refine l_move rfl rfl ?_
  refine l_copy0n8 hn0 rfl Try.underlying36 Try.sizeOf5 rfl rfl ?_
  rw [show List.replicate (n + 9) (0 : Int) = l ++ List.replicate 9 0 by rw [List.eq_nil_of_length_eq_zero (hl.trans hn0), hn0]; rfl]
  refine l_nil ?_
  refine g_seq ?_
  refine g_seq ?_
  refine g_region ?_
  refine l_move rfl rfl ?_
  refine l_len rfl Try.underlying36 rfl ?_
  refine l_assign rfl rfl ?_
  refine l_nil ?_
  refine g_block ?_
  refine g_loopk (X := Int × List Int) [(0, _), (2, _), (3, _)] (.cons rfl (.cons rfl (.cons rfl (.nil)))) (fun z => (n : Int) ≤ z.1 ∧ z.1 ≤ (n : Int) + 9 ∧ z.2.length = n + 9 ∧ (∀ j, j < n → z.2.getD j 0 = l.getD j 0) ∧ ∀ j : Nat, n ≤ j → (j : Int) < z.1 → z.2.getD j 0 = 77) (fun z => ((n : Int) + 9 - z.1).toNat) (fun z => [(4, .int .i64 z.1)]) (fun z => Own 5 1 (.slice (some ⟨b8, 0, none⟩) (n + 9) (n + 9)) (n + 9) (ints .u8 z.2) :: F) (((n : Int), l ++ List.replicate 9 0)) (⟨by simp only; omega, by simp only; omega, by simp [hl], fun j hj => by simp only [List.getD_eq_getElem?_getD]; rw [List.getElem?_append_left (by omega)], fun j h1 h2 => by simp only at h2; omega⟩) (.cons rfl .nil) (fun w hw => SPI.holds hw) ?_
  rintro ⟨i, X⟩ ⟨i0, i1, hX, hy, hz⟩ ih
  dsimp only [List.cons_append, List.nil_append] at ih ⊢
  simp only at i0 i1 hX hy hz
  refine g_seq ?_
  refine g_seq ?_
  refine g_region ?_
  refine l_move rfl rfl ?_
  refine l_move rfl rfl ?_
  refine l_len rfl Try.underlying36 rfl ?_
  refine l_lss rfl rfl rfl ?_
  refine l_nil ?_
  refine g_cond rfl ?_ ?_
  · intro hbr
    have hbr := of_decide_eq_true hbr
    refine g_skip ?_
    refine g_seq ?_
    refine g_block ?_
    refine g_region ?_
    refine l_move rfl rfl ?_
    refine l_move rfl rfl ?_
    refine l_ixs rfl Try.underlying36 Try.sizeOf5 rfl rfl (by omega) (by omega) ?_
    refine l_storew 0 Try.sizeOf5 rfl rfl rfl (by omega) rfl ?_
    refine l_nil ?_
    refine g_inBlock ?_
    refine g_region ?_
    refine l_move rfl rfl ?_
    first | refine l_add rfl rfl rfl (w_i64 (by omega) (by omega)) ?_ | refine l_addw rfl rfl rfl ?_
    refine l_assign rfl rfl ?_
    refine l_nil ?_
    exact g_againi (ih (i + 1, X.set i.toNat 77) ⟨by simp only; omega, by simp only; omega, by simp only [List.length_set]; exact hX, fun j hj => by simp only; rw [gx_set8 (by omega), if_neg (by omega)]; exact hy j hj, fun j h1 h2 => by simp only at h2 ⊢; rw [gx_set8 (by omega)]; split; rfl; exact hz j h1 (by omega)⟩ (by simp only; omega)) (.cons rfl (.cons rfl (.cons rfl (.cons rfl (.nil)))))
  intro hbr
  have hbr := of_decide_eq_false hbr
  refine g_exit rfl ?_
  obtain rfl : i = (n : Int) + 9 := by omega
  refine g_seq ?_
  refine g_region ?_
  refine l_move rfl rfl ?_
  refine l_move rfl rfl ?_
  refine l_len rfl Try.underlying36 rfl ?_
  refine l_slice_hi rfl Try.underlying36 Try.sizeOf5 rfl rfl (by omega) (by omega) ?_
  refine l_assign rfl rfl ?_
  refine l_nil ?_
  refine g_ret Try.func49 rfl (.tmp rfl .nil) ?_
  exact Gives.mki ⟨b8, X, by rw [Int.toNat_natCast]; rfl, ⟨hX, hy, fun j h1 h2 => hz j h1 (by omega)⟩, rfl⟩
theorem lent_ok8 (w0 : World) (F : List Atom) (a : Option Addr) (n c : Nat) (l : List Int) (hl : l.length = n) (hI : IR w0 F .u8 a n l) (hn : n ≤ 2147483800) (hU : U8s l) : CallK Try.prog 49 [.slice a n c] w0 (F) (Gives w0 fun v F2 => ∃ g X, v = .slice (some ⟨g, 0, none⟩) n (n + 9) ∧ LentG8 l n X ∧ F2 = Own 5 1 (.slice (some ⟨g, 0, none⟩) (n + 9) (n + 9)) (n + 9) (ints .u8 X) :: F) := by
  by_cases h : n = 0
  · exact lent_z8 w0 F a n c l hl hn hU h
  · obtain ⟨b, o, rfl, hr⟩ := hI.some (i := 0) (by omega)
    exact lent_s8 w0 F _ n c l hl ⟨by rw [ints_length, hl, Nat.mul_one], .inl ⟨b, o, c, rfl, hr⟩⟩ hn hU
set_option maxHeartbeats 4000000 in
theorem back_ok8 (w0 : World) (F : List Atom) (g : Nat) (Z : List Int) (a : Option Addr) (n c : Nat) (l : List Int) (hl : l.length = n) (hI : IR w0 F .u8 a n l) (hn : n ≤ 2147483800) (hU : U8s l) (hZ : LentG8 l n Z) :
    CallK Try.prog 51 [.slice (some ⟨g, 0, none⟩) n (n + 9), .slice a n c] w0 (Own 5 1 (.slice (some ⟨g, 0, none⟩) (n + 9) (n + 9)) (n + 9) (ints .u8 Z) :: F) (Gives w0 fun v F2 => v = .bool true ∧ F2 = F) := by
  refine c_enter Try.func51 rfl rfl rfl ?_
  refine g_seq ?_
  refine g_region ?_
  refine l_assign rfl rfl ?_
  refine l_nil ?_
  refine g_seq ?_
  refine g_region ?_
  refine l_move rfl rfl ?_
  refine l_move rfl rfl ?_
  refine l_len rfl Try.underlying36 rfl ?_
  first | refine l_add rfl rfl rfl (w_i64 (by omega) (by omega)) ?_ | refine l_addw rfl rfl rfl ?_
  refine l_slice_hi rfl Try.underlying36 Try.sizeOf5 rfl rfl (by omega) (by omega) ?_
  rw [show ((n : Int) + 9).toNat = n + 9 by omega]
  refine l_assign rfl rfl ?_
  refine l_nil ?_
  refine g_seq ?_
  refine g_region ?_
  refine l_assign rfl rfl ?_
  refine l_nil ?_
  refine g_seq ?_
  refine g_seq ?_
  refine g_region ?_
  refine l_assign rfl rfl ?_
  refine l_nil ?_
  refine g_block ?_
  refine g_loopk (X := Int × List Int) [(1, _), (4, _), (5, _)] (.cons rfl (.cons rfl (.cons rfl (.nil)))) (fun z => 0 ≤ z.1 ∧ z.1 ≤ (n : Int) + 9 ∧ z.2.length = n + 9 ∧ ∀ j : Nat, z.1 ≤ j → z.2.getD j 0 = Z.getD j 0) (fun z => ((n : Int) + 9 - z.1).toNat) (fun z => [(6, .bool true), (7, .int .i64 z.1)]) (fun z => Own 5 1 (.slice (some ⟨g, 0, none⟩) (n + 9) (n + 9)) (n + 9) (ints .u8 z.2) :: F) (((0 : Int), Z)) (⟨by simp only; omega, by simp only; omega, hZ.1, fun j hj => rfl⟩) (.cons rfl (.cons rfl .nil)) (fun w hw => SPI.holds hw) ?_
  rintro ⟨i, X⟩ ⟨i0, i1, hX, hx⟩ ih
  dsimp only [List.cons_append, List.nil_append] at ih ⊢
  simp only at i0 i1 hX hx
  have hx1 := hZ.2.1 i.toNat
  have hx2 := hZ.2.2 i.toNat
  refine g_seq ?_
  refine g_seq ?_
  refine g_region ?_
  refine l_move rfl rfl ?_
  refine l_move rfl rfl ?_
  refine l_len rfl Try.underlying36 rfl ?_
  refine l_lss rfl rfl rfl ?_
  refine l_nil ?_
  refine g_cond rfl ?_ ?_
  · intro hbr
    have hbr := of_decide_eq_true hbr
    refine g_skip ?_
    refine g_seq ?_
    refine g_block ?_
    refine g_seq ?_
    refine g_seq ?_
    refine g_region ?_
    refine l_move rfl rfl ?_
    refine l_move rfl rfl ?_
    refine l_len rfl Try.underlying36 rfl ?_
    refine l_lss rfl rfl rfl ?_
    refine l_nil ?_
    refine g_cond rfl ?_ ?_
    · intro hbr
      have hbr := of_decide_eq_true hbr
      refine gp_start mo (by kernel_rfl) (by kernel_rfl) ?_
      obtain ⟨b9, o9, rfl, hr9⟩ := hI.some (i := i.toNat) (by omega)
      refine gp_quiet 0 rfl rfl rfl rfl rfl rfl (q_move rfl) ?_
      refine gp_quiet 1 rfl rfl rfl rfl rfl rfl (q_move rfl) ?_
      refine gp_split 24 rfl ?_ ?_
      · intro hbr
        have hg24 := hbr
        refine gp_quietg 2 rfl rfl rfl rfl rfl rfl (.yes rfl rfl (q_move rfl)) ?_
        refine gp_quietg 3 rfl rfl rfl rfl rfl rfl (.yes rfl rfl (q_move rfl)) ?_
        refine gp_quietg 4 rfl rfl rfl rfl rfl rfl (.yes rfl rfl (q_ixs Try.underlying36 Try.sizeOf5 rfl rfl (by omega) (by omega))) ?_
        refine gp_quietg 5 rfl rfl rfl rfl rfl rfl (.yes rfl rfl (q_loadc (v := .int .u8 (X.getD i.toNat 0)) Try.isAgg5 rfl (word_at (mem_getO 0 rfl) (by omega)))) ?_
        refine gp_quietg 6 rfl rfl rfl rfl rfl rfl (.yes rfl rfl (q_move rfl)) ?_
        refine gp_quietg 7 rfl rfl rfl rfl rfl rfl (.yes rfl rfl (q_move rfl)) ?_
        refine gp_quietg 8 rfl rfl rfl rfl rfl rfl (.yes rfl rfl (q_ixs Try.underlying36 Try.sizeOf5 rfl rfl (by omega) (by omega))) ?_
        refine gp_quietg 9 rfl rfl rfl rfl rfl rfl (.yes rfl rfl (q_loadc (v := .int .u8 (l.getD i.toNat 0)) Try.isAgg5 rfl (word_any hr9 (by omega)))) ?_
        refine gp_quietg 10 rfl rfl rfl rfl rfl rfl (.yes rfl rfl (q_eql rfl rfl)) ?_
        rw [decide_eq_true (show X.getD i.toNat 0 = l.getD i.toNat 0 by rw [hx i.toNat (by omega)]; exact hx1 (by omega))]
        refine gp_quiet 11 rfl rfl rfl rfl rfl rfl (q_pick_t rfl rfl) ?_
        refine gp_after 12 rfl rfl rfl rfl rfl rfl rfl rfl (q_assign rfl) ?_
        refine gp_end rfl rfl ?_
        refine g_region ?_
        refine l_move rfl rfl ?_
        refine l_move rfl rfl ?_
        refine l_ixs rfl Try.underlying36 Try.sizeOf5 rfl rfl (by omega) (by omega) ?_
        refine l_storew 0 Try.sizeOf5 rfl rfl rfl (by omega) rfl ?_
        refine l_nil ?_
        refine g_inBlock ?_
        refine g_region ?_
        refine l_move rfl rfl ?_
        first | refine l_add rfl rfl rfl (w_i64 (by omega) (by omega)) ?_ | refine l_addw rfl rfl rfl ?_
        refine l_assign rfl rfl ?_
        refine l_nil ?_
        exact g_againi (ih (i + 1, X.set i.toNat 78) ⟨by simp only; omega, by simp only; omega, by simp only [List.length_set]; exact hX, fun j hj => by simp only at hj ⊢; rw [gx_set8 (by omega), if_neg (by omega)]; exact hx j (by omega)⟩ (by simp only; omega)) (.cons rfl (.cons rfl (.cons rfl (.cons rfl (.cons rfl (.nil))))))
      · intro hbr
        first | (exfalso; simp at hbr; done) | (exfalso; simp at hbr; omega) | (exfalso; first | omega | (simp at hbr; done))
    intro hbr
    have hbr := of_decide_eq_false hbr
    refine g_region ?_
    refine l_move rfl rfl ?_
    refine l_move rfl rfl ?_
    refine l_split 36 rfl ?_ ?_
    · intro hbr
      refine l_guard_yes rfl rfl ?_
      refine l_move rfl rfl ?_
      refine l_guard_yes rfl rfl ?_
      refine l_move rfl rfl ?_
      refine l_guard_yes rfl rfl ?_
      refine l_ixs rfl Try.underlying36 Try.sizeOf5 rfl rfl (by omega) (by omega) ?_
      refine l_guard_yes rfl rfl ?_
      refine l_loadc (v := .int .u8 (X.getD i.toNat 0)) rfl Try.isAgg5 rfl (word_at (mem_getO 0 rfl) (by omega)) ?_
      refine l_guard_yes rfl rfl ?_
      refine l_eql rfl rfl rfl ?_
      rw [decide_eq_true (show X.getD i.toNat 0 = 77 by rw [hx i.toNat (by omega)]; exact hx2 (by omega) (by omega))]
      refine l_pick_t rfl rfl rfl ?_
      refine l_assign rfl rfl ?_
      refine l_nil ?_
      refine g_region ?_
      refine l_move rfl rfl ?_
      refine l_move rfl rfl ?_
      refine l_ixs rfl Try.underlying36 Try.sizeOf5 rfl rfl (by omega) (by omega) ?_
      refine l_storew 0 Try.sizeOf5 rfl rfl rfl (by omega) rfl ?_
      refine l_nil ?_
      refine g_inBlock ?_
      refine g_region ?_
      refine l_move rfl rfl ?_
      first | refine l_add rfl rfl rfl (w_i64 (by omega) (by omega)) ?_ | refine l_addw rfl rfl rfl ?_
      refine l_assign rfl rfl ?_
      refine l_nil ?_
      exact g_againi (ih (i + 1, X.set i.toNat 78) ⟨by simp only; omega, by simp only; omega, by simp only [List.length_set]; exact hX, fun j hj => by simp only at hj ⊢; rw [gx_set8 (by omega), if_neg (by omega)]; exact hx j (by omega)⟩ (by simp only; omega)) (.cons rfl (.cons rfl (.cons rfl (.cons rfl (.cons rfl (.nil))))))
    · intro hbr
      first | (exfalso; simp at hbr; done) | (exfalso; simp at hbr; omega) | (exfalso; first | omega | (simp at hbr; done))
  intro hbr
  have hbr := of_decide_eq_false hbr
  refine g_exit rfl ?_
  refine g_seq ?_
  refine g_region ?_
  refine l_move rfl rfl ?_
  refine l_assign rfl rfl ?_
  refine l_nil ?_
  refine g_ret Try.func51 rfl (.tmp rfl .nil) ?_
  exact Gives.mki ⟨rfl, rfl⟩
theorem gx_ext {X l : List Int} (hl : X.length = l.length) (h : ∀ j, j < l.length → X.getD j 0 = l.getD j 0) : X = l := by
  apply List.ext_getElem hl
  intro i h1 h2
  have := h i h2
  simpa [List.getD_eq_getElem?_getD, h1, h2] using this
theorem gx_set {X : List Int} {i j : Nat} {x : Int} (hi : i < X.length) : (X.set i x).getD j 0 = if i = j then x else X.getD j 0 := by
  simp only [List.getD_eq_getElem?_getD, List.getElem?_set]
  by_cases h : i = j
  · subst h; simp [hi]
  · simp [h]
/-- A list that is lent: with nine marks behind it. -/
def LentG (l : List Int) (n : Nat) (X : List Int) : Prop := X.length = n + 9 ∧ (∀ j, j < n → X.getD j 0 = l.getD j 0) ∧ ∀ j, n ≤ j → j < n + 9 → X.getD j 0 = 2004318071
theorem LentG.pre {l X : List Int} {n : Nat} (h : LentG l n X) (hl : l.length = n) : X.take n = l := by
  obtain ⟨h1, h2, _⟩ := h
  refine gx_ext (by rw [List.length_take]; omega) fun j hj => ?_
  have e : (X.take n).getD j 0 = X.getD j 0 := by simp [List.getD_eq_getElem?_getD, List.getElem?_take, show j < n by omega]
  rw [e]
  exact h2 j (by omega)
theorem lent_row {w0 : World} {F : List Atom} {g n cap : Nat} {E : Nat} {l X : List Int} (h : LentG l n X) (hl : l.length = n) (hm : Own E 1 (.slice (some ⟨g, 0, none⟩) (n + 9) cap) (n + 9) (ints .u32 X) ∈ F) : RowAt w0 F g 0 (ints .u32 l) := by
  have := (RowAt.own (w0 := w0) hm).mid 0 n
  rw [List.drop_zero, ints_take, h.pre hl] at this
  exact this
theorem lent0 {W : List Int} {n : Nat} (hW : W.length = n) : spl 0 (W.take (min n (n + 9))) (List.replicate (n + 9) 0) = W ++ List.replicate 9 0 := by
  rw [Nat.min_eq_left (by omega), List.take_of_length_le (by omega)]
  unfold spl
  simp [hW]
theorem l_copy0n {P : Program} {f : FuncId} {w0 : World} {K : Post} {n' : Nat} {d : List Deferred} {ops : Array Oper} {rest : List Oper} {k : List Go.Item} {e : Env} {F : List Atom} {ty : TypeId} {pos : String} {aft : Array Edge} {t x y T E m g o c c2 a q} (hq : q = 0) (ht : Nat.ble (t + 1) n' = true) (hT : P.underlying T = some (.slice E)) (hS : ∀ w, (sizeOf E).run P w = .ok 1 w)
    (hx : evO e x = some (.slice (some ⟨g, o, none⟩) m c)) (hy : evO e y = some (.slice a q c2)) (hk : GL P f w0 K n' d ops rest k ((t, .int .i64 0) :: e) F) :
    GL P f w0 K n' d ops (.mk (some t) (.call ⟨.builtin .copy, #[x, y], #[T, T]⟩) ty pos aft none :: rest) k e F := by
  subst hq
  exact l_copy0 ht hT hS hx hy hk
set_option maxHeartbeats 4000000 in
theorem lent_s (w0 : World) (F : List Atom) (a : Option Addr) (n c : Nat) (l : List Int) (hl : l.length = n) (hR : Reads w0 F (.slice a n c) n 1 (ints .u32 l)) (hn : n ≤ 2147483800) (hU : W32s l) :
    CallK Try.prog 56 [.slice a n c] w0 (F) (Gives w0 fun v F2 => ∃ g X, v = .slice (some ⟨g, 0, none⟩) n (n + 9) ∧ LentG l n X ∧ F2 = Own 23 1 (.slice (some ⟨g, 0, none⟩) (n + 9) (n + 9)) (n + 9) (ints .u32 X) :: F) := by
  refine c_enter Try.func56 rfl rfl rfl ?_
  refine g_seq ?_
  refine g_region ?_
  refine l_assign rfl rfl ?_
  refine l_nil ?_
  refine g_seq ?_
  refine g_region ?_
  refine l_move rfl rfl ?_
  refine l_len rfl Try.underlying54 rfl ?_
  first | refine l_add rfl rfl rfl (w_i64 (by omega) (by omega)) ?_ | refine l_addw rfl rfl rfl ?_
  refine l_makew rfl Try.underlying54 Try.type23 rfl rfl rfl rfl (by omega) (by show (4 : Int) * _ ≤ _; omega) (by omega) ?_; intro b8; rw [show ((n : Int) + 9).toNat = n + 9 by omega]
  refine l_assign rfl rfl ?_
  refine l_nil ?_
  refine g_seq ?_
  refine g_region ?_
  refine l_move rfl rfl ?_
  refine l_move rfl rfl ?_
  refine l_copyw 0 rfl Try.underlying54 Try.sizeOf23 rfl rfl rfl hR.ex (by simp) (by rw [lent0 hl]; rfl) ?_
  refine l_nil ?_
  refine g_seq ?_
  refine g_seq ?_
  refine g_region ?_
  refine l_move rfl rfl ?_
  refine l_len rfl Try.underlying54 rfl ?_
  refine l_assign rfl rfl ?_
  refine l_nil ?_
  refine g_block ?_
  refine g_loopk (X := Int × List Int) [(0, _), (2, _), (3, _)] (.cons rfl (.cons rfl (.cons rfl (.nil)))) (fun z => (n : Int) ≤ z.1 ∧ z.1 ≤ (n : Int) + 9 ∧ z.2.length = n + 9 ∧ (∀ j, j < n → z.2.getD j 0 = l.getD j 0) ∧ ∀ j : Nat, n ≤ j → (j : Int) < z.1 → z.2.getD j 0 = 2004318071) (fun z => ((n : Int) + 9 - z.1).toNat) (fun z => [(4, .int .i64 z.1)]) (fun z => Own 23 1 (.slice (some ⟨b8, 0, none⟩) (n + 9) (n + 9)) (n + 9) (ints .u32 z.2) :: F) (((n : Int), l ++ List.replicate 9 0)) (⟨by simp only; omega, by simp only; omega, by simp [hl], fun j hj => by simp only [List.getD_eq_getElem?_getD]; rw [List.getElem?_append_left (by omega)], fun j h1 h2 => by simp only at h2; omega⟩) (.cons rfl .nil) (fun w hw => SPI.holds hw) ?_
  rintro ⟨i, X⟩ ⟨i0, i1, hX, hy, hz⟩ ih
  dsimp only [List.cons_append, List.nil_append] at ih ⊢
  simp only at i0 i1 hX hy hz
  refine g_seq ?_
  refine g_seq ?_
  refine g_region ?_
  refine l_move rfl rfl ?_
  refine l_move rfl rfl ?_
  refine l_len rfl Try.underlying54 rfl ?_
  refine l_lss rfl rfl rfl ?_
  refine l_nil ?_
  refine g_cond rfl ?_ ?_
  · intro hbr
    have hbr := of_decide_eq_true hbr
    refine g_skip ?_
    refine g_seq ?_
    refine g_block ?_
    refine g_region ?_
    refine l_move rfl rfl ?_
    refine l_move rfl rfl ?_
    refine l_ixs rfl Try.underlying54 Try.sizeOf23 rfl rfl (by omega) (by omega) ?_
    refine l_storew 0 Try.sizeOf23 rfl rfl rfl (by omega) rfl ?_
    refine l_nil ?_
    refine g_inBlock ?_
    refine g_region ?_
    refine l_move rfl rfl ?_
    first | refine l_add rfl rfl rfl (w_i64 (by omega) (by omega)) ?_ | refine l_addw rfl rfl rfl ?_
    refine l_assign rfl rfl ?_
    refine l_nil ?_
    exact g_againi (ih (i + 1, X.set i.toNat 2004318071) ⟨by simp only; omega, by simp only; omega, by simp only [List.length_set]; exact hX, fun j hj => by simp only; rw [gx_set (by omega), if_neg (by omega)]; exact hy j hj, fun j h1 h2 => by simp only at h2 ⊢; rw [gx_set (by omega)]; split; rfl; exact hz j h1 (by omega)⟩ (by simp only; omega)) (.cons rfl (.cons rfl (.cons rfl (.cons rfl (.nil)))))
  intro hbr
  have hbr := of_decide_eq_false hbr
  refine g_exit rfl ?_
  obtain rfl : i = (n : Int) + 9 := by omega
  refine g_seq ?_
  refine g_region ?_
  refine l_move rfl rfl ?_
  refine l_move rfl rfl ?_
  refine l_len rfl Try.underlying54 rfl ?_
  refine l_slice_hi rfl Try.underlying54 Try.sizeOf23 rfl rfl (by omega) (by omega) ?_
  refine l_assign rfl rfl ?_
  refine l_nil ?_
  refine g_ret Try.func56 rfl (.tmp rfl .nil) ?_
  exact Gives.mki ⟨b8, X, by rw [Int.toNat_natCast]; rfl, ⟨hX, hy, fun j h1 h2 => hz j h1 (by omega)⟩, rfl⟩
set_option maxHeartbeats 4000000 in
theorem lent_z (w0 : World) (F : List Atom) (a : Option Addr) (n c : Nat) (l : List Int) (hl : l.length = n)  (hn : n ≤ 2147483800) (hU : W32s l) (hn0 : n = 0) :
    CallK Try.prog 56 [.slice a n c] w0 (F) (Gives w0 fun v F2 => ∃ g X, v = .slice (some ⟨g, 0, none⟩) n (n + 9) ∧ LentG l n X ∧ F2 = Own 23 1 (.slice (some ⟨g, 0, none⟩) (n + 9) (n + 9)) (n + 9) (ints .u32 X) :: F) := by
  refine c_enter Try.func56 rfl rfl rfl ?_
  refine g_seq ?_
  refine g_region ?_
  refine l_assign rfl rfl ?_
  refine l_nil ?_
  refine g_seq ?_
  refine g_region ?_
  refine l_move rfl rfl ?_
  refine l_len rfl Try.underlying54 rfl ?_
  first | refine l_add rfl rfl rfl (w_i64 (by omega) (by omega)) ?_ | refine l_addw rfl rfl rfl ?_
  refine l_makew rfl Try.underlying54 Try.type23 rfl rfl rfl rfl (by omega) (by show (4 : Int) * _ ≤ _; omega) (by omega) ?_; intro b8; rw [show ((n : Int) + 9).toNat = n + 9 by omega]
  refine l_assign rfl rfl ?_
  refine l_nil ?_
  refine g_seq ?_
  refine g_region ?_
  refine l_move rfl rfl ?_
  refine l_move rfl rfl ?_
  refine l_copy0n hn0 rfl Try.underlying54 Try.sizeOf23 rfl rfl ?_
  rw [show List.replicate (n + 9) (0 : Int) = l ++ List.replicate 9 0 by rw [List.eq_nil_of_length_eq_zero (hl.trans hn0), hn0]; rfl]
  refine l_nil ?_
  refine g_seq ?_
  refine g_seq ?_
  refine g_region ?_
  refine l_move rfl rfl ?_
  refine l_len rfl Try.underlying54 rfl ?_
  refine l_assign rfl rfl ?_
  refine l_nil ?_
  refine g_block ?_
  refine g_loopk (X := Int × List Int) [(0, _), (2, _), (3, _)] (.cons rfl (.cons rfl (.cons rfl (.nil)))) (fun z => (n : Int) ≤ z.1 ∧ z.1 ≤ (n : Int) + 9 ∧ z.2.length = n + 9 ∧ (∀ j, j < n → z.2.getD j 0 = l.getD j 0) ∧ ∀ j : Nat, n ≤ j → (j : Int) < z.1 → z.2.getD j 0 = 2004318071) (fun z => ((n : Int) + 9 - z.1).toNat) (fun z => [(4, .int .i64 z.1)]) (fun z => Own 23 1 (.slice (some ⟨b8, 0, none⟩) (n + 9) (n + 9)) (n + 9) (ints .u32 z.2) :: F) (((n : Int), l ++ List.replicate 9 0)) (⟨by simp only; omega, by simp only; omega, by simp [hl], fun j hj => by simp only [List.getD_eq_getElem?_getD]; rw [List.getElem?_append_left (by omega)], fun j h1 h2 => by simp only at h2; omega⟩) (.cons rfl .nil) (fun w hw => SPI.holds hw) ?_
  rintro ⟨i, X⟩ ⟨i0, i1, hX, hy, hz⟩ ih
  dsimp only [List.cons_append, List.nil_append] at ih ⊢
  simp only at i0 i1 hX hy hz
  refine g_seq ?_
  refine g_seq ?_
  refine g_region ?_
  refine l_move rfl rfl ?_
  refine l_move rfl rfl ?_
  refine l_len rfl Try.underlying54 rfl ?_
  refine l_lss rfl rfl rfl ?_
  refine l_nil ?_
  refine g_cond rfl ?_ ?_
  · intro hbr
    have hbr := of_decide_eq_true hbr
    refine g_skip ?_
    refine g_seq ?_
    refine g_block ?_
    refine g_region ?_
    refine l_move rfl rfl ?_
    refine l_move rfl rfl ?_
    refine l_ixs rfl Try.underlying54 Try.sizeOf23 rfl rfl (by omega) (by omega) ?_
    refine l_storew 0 Try.sizeOf23 rfl rfl rfl (by omega) rfl ?_
    refine l_nil ?_
    refine g_inBlock ?_
    refine g_region ?_
    refine l_move rfl rfl ?_
    first | refine l_add rfl rfl rfl (w_i64 (by omega) (by omega)) ?_ | refine l_addw rfl rfl rfl ?_
    refine l_assign rfl rfl ?_
    refine l_nil ?_
    exact g_againi (ih (i + 1, X.set i.toNat 2004318071) ⟨by simp only; omega, by simp only; omega, by simp only [List.length_set]; exact hX, fun j hj => by simp only; rw [gx_set (by omega), if_neg (by omega)]; exact hy j hj, fun j h1 h2 => by simp only at h2 ⊢; rw [gx_set (by omega)]; split; rfl; exact hz j h1 (by omega)⟩ (by simp only; omega)) (.cons rfl (.cons rfl (.cons rfl (.cons rfl (.nil)))))
  intro hbr
  have hbr := of_decide_eq_false hbr
  refine g_exit rfl ?_
  obtain rfl : i = (n : Int) + 9 := by omega
  refine g_seq ?_
  refine g_region ?_
  refine l_move rfl rfl ?_
  refine l_move rfl rfl ?_
  refine l_len rfl Try.underlying54 rfl ?_
  refine l_slice_hi rfl Try.underlying54 Try.sizeOf23 rfl rfl (by omega) (by omega) ?_
  refine l_assign rfl rfl ?_
  refine l_nil ?_
  refine g_ret Try.func56 rfl (.tmp rfl .nil) ?_
  exact Gives.mki ⟨b8, X, by rw [Int.toNat_natCast]; rfl, ⟨hX, hy, fun j h1 h2 => hz j h1 (by omega)⟩, rfl⟩
theorem lent_ok (w0 : World) (F : List Atom) (a : Option Addr) (n c : Nat) (l : List Int) (hl : l.length = n) (hI : IR w0 F .u32 a n l) (hn : n ≤ 2147483800) (hU : W32s l) : CallK Try.prog 56 [.slice a n c] w0 (F) (Gives w0 fun v F2 => ∃ g X, v = .slice (some ⟨g, 0, none⟩) n (n + 9) ∧ LentG l n X ∧ F2 = Own 23 1 (.slice (some ⟨g, 0, none⟩) (n + 9) (n + 9)) (n + 9) (ints .u32 X) :: F) := by
  by_cases h : n = 0
  · exact lent_z w0 F a n c l hl hn hU h
  · obtain ⟨b, o, rfl, hr⟩ := hI.some (i := 0) (by omega)
    exact lent_s w0 F _ n c l hl ⟨by rw [ints_length, hl, Nat.mul_one], .inl ⟨b, o, c, rfl, hr⟩⟩ hn hU
set_option maxHeartbeats 4000000 in
theorem back_ok (w0 : World) (F : List Atom) (g : Nat) (Z : List Int) (a : Option Addr) (n c : Nat) (l : List Int) (hl : l.length = n) (hI : IR w0 F .u32 a n l) (hn : n ≤ 2147483800) (hU : W32s l) (hZ : LentG l n Z) :
    CallK Try.prog 59 [.slice (some ⟨g, 0, none⟩) n (n + 9), .slice a n c] w0 (Own 23 1 (.slice (some ⟨g, 0, none⟩) (n + 9) (n + 9)) (n + 9) (ints .u32 Z) :: F) (Gives w0 fun v F2 => v = .bool true ∧ F2 = F) := by
  refine c_enter Try.func59 rfl rfl rfl ?_
  refine g_seq ?_
  refine g_region ?_
  refine l_assign rfl rfl ?_
  refine l_nil ?_
  refine g_seq ?_
  refine g_region ?_
  refine l_move rfl rfl ?_
  refine l_move rfl rfl ?_
  refine l_len rfl Try.underlying54 rfl ?_
  first | refine l_add rfl rfl rfl (w_i64 (by omega) (by omega)) ?_ | refine l_addw rfl rfl rfl ?_
  refine l_slice_hi rfl Try.underlying54 Try.sizeOf23 rfl rfl (by omega) (by omega) ?_
  rw [show ((n : Int) + 9).toNat = n + 9 by omega]
  refine l_assign rfl rfl ?_
  refine l_nil ?_
  refine g_seq ?_
  refine g_region ?_
  refine l_assign rfl rfl ?_
  refine l_nil ?_
  refine g_seq ?_
  refine g_seq ?_
  refine g_region ?_
  refine l_assign rfl rfl ?_
  refine l_nil ?_
  refine g_block ?_
  refine g_loopk (X := Int × List Int) [(1, _), (4, _), (5, _)] (.cons rfl (.cons rfl (.cons rfl (.nil)))) (fun z => 0 ≤ z.1 ∧ z.1 ≤ (n : Int) + 9 ∧ z.2.length = n + 9 ∧ ∀ j : Nat, z.1 ≤ j → z.2.getD j 0 = Z.getD j 0) (fun z => ((n : Int) + 9 - z.1).toNat) (fun z => [(6, .bool true), (7, .int .i64 z.1)]) (fun z => Own 23 1 (.slice (some ⟨g, 0, none⟩) (n + 9) (n + 9)) (n + 9) (ints .u32 z.2) :: F) (((0 : Int), Z)) (⟨by simp only; omega, by simp only; omega, hZ.1, fun j hj => rfl⟩) (.cons rfl (.cons rfl .nil)) (fun w hw => SPI.holds hw) ?_
  rintro ⟨i, X⟩ ⟨i0, i1, hX, hx⟩ ih
  dsimp only [List.cons_append, List.nil_append] at ih ⊢
  simp only at i0 i1 hX hx
  have hx1 := hZ.2.1 i.toNat
  have hx2 := hZ.2.2 i.toNat
  refine g_seq ?_
  refine g_seq ?_
  refine g_region ?_
  refine l_move rfl rfl ?_
  refine l_move rfl rfl ?_
  refine l_len rfl Try.underlying54 rfl ?_
  refine l_lss rfl rfl rfl ?_
  refine l_nil ?_
  refine g_cond rfl ?_ ?_
  · intro hbr
    have hbr := of_decide_eq_true hbr
    refine g_skip ?_
    refine g_seq ?_
    refine g_block ?_
    refine g_seq ?_
    refine g_seq ?_
    refine g_region ?_
    refine l_move rfl rfl ?_
    refine l_move rfl rfl ?_
    refine l_len rfl Try.underlying54 rfl ?_
    refine l_lss rfl rfl rfl ?_
    refine l_nil ?_
    refine g_cond rfl ?_ ?_
    · intro hbr
      have hbr := of_decide_eq_true hbr
      refine gp_start mo (by kernel_rfl) (by kernel_rfl) ?_
      obtain ⟨b9, o9, rfl, hr9⟩ := hI.some (i := i.toNat) (by omega)
      refine gp_quiet 0 rfl rfl rfl rfl rfl rfl (q_move rfl) ?_
      refine gp_quiet 1 rfl rfl rfl rfl rfl rfl (q_move rfl) ?_
      refine gp_split 24 rfl ?_ ?_
      · intro hbr
        have hg24 := hbr
        refine gp_quietg 2 rfl rfl rfl rfl rfl rfl (.yes rfl rfl (q_move rfl)) ?_
        refine gp_quietg 3 rfl rfl rfl rfl rfl rfl (.yes rfl rfl (q_move rfl)) ?_
        refine gp_quietg 4 rfl rfl rfl rfl rfl rfl (.yes rfl rfl (q_ixs Try.underlying54 Try.sizeOf23 rfl rfl (by omega) (by omega))) ?_
        refine gp_quietg 5 rfl rfl rfl rfl rfl rfl (.yes rfl rfl (q_loadc (v := .int .u32 (X.getD i.toNat 0)) Try.isAgg23 rfl (word_at (mem_getO 0 rfl) (by omega)))) ?_
        refine gp_quietg 6 rfl rfl rfl rfl rfl rfl (.yes rfl rfl (q_move rfl)) ?_
        refine gp_quietg 7 rfl rfl rfl rfl rfl rfl (.yes rfl rfl (q_move rfl)) ?_
        refine gp_quietg 8 rfl rfl rfl rfl rfl rfl (.yes rfl rfl (q_ixs Try.underlying54 Try.sizeOf23 rfl rfl (by omega) (by omega))) ?_
        refine gp_quietg 9 rfl rfl rfl rfl rfl rfl (.yes rfl rfl (q_loadc (v := .int .u32 (l.getD i.toNat 0)) Try.isAgg23 rfl (word_any hr9 (by omega)))) ?_
        refine gp_quietg 10 rfl rfl rfl rfl rfl rfl (.yes rfl rfl (q_eql rfl rfl)) ?_
        rw [decide_eq_true (show X.getD i.toNat 0 = l.getD i.toNat 0 by rw [hx i.toNat (by omega)]; exact hx1 (by omega))]
        refine gp_quiet 11 rfl rfl rfl rfl rfl rfl (q_pick_t rfl rfl) ?_
        refine gp_after 12 rfl rfl rfl rfl rfl rfl rfl rfl (q_assign rfl) ?_
        refine gp_end rfl rfl ?_
        refine g_region ?_
        refine l_move rfl rfl ?_
        refine l_move rfl rfl ?_
        refine l_ixs rfl Try.underlying54 Try.sizeOf23 rfl rfl (by omega) (by omega) ?_
        refine l_storew 0 Try.sizeOf23 rfl rfl rfl (by omega) rfl ?_
        refine l_nil ?_
        refine g_inBlock ?_
        refine g_region ?_
        refine l_move rfl rfl ?_
        first | refine l_add rfl rfl rfl (w_i64 (by omega) (by omega)) ?_ | refine l_addw rfl rfl rfl ?_
        refine l_assign rfl rfl ?_
        refine l_nil ?_
        exact g_againi (ih (i + 1, X.set i.toNat 2021161080) ⟨by simp only; omega, by simp only; omega, by simp only [List.length_set]; exact hX, fun j hj => by simp only at hj ⊢; rw [gx_set (by omega), if_neg (by omega)]; exact hx j (by omega)⟩ (by simp only; omega)) (.cons rfl (.cons rfl (.cons rfl (.cons rfl (.cons rfl (.nil))))))
      · intro hbr
        first | (exfalso; simp at hbr; done) | (exfalso; simp at hbr; omega) | (exfalso; first | omega | (simp at hbr; done))
    intro hbr
    have hbr := of_decide_eq_false hbr
    refine g_region ?_
    refine l_move rfl rfl ?_
    refine l_move rfl rfl ?_
    refine l_split 36 rfl ?_ ?_
    · intro hbr
      refine l_guard_yes rfl rfl ?_
      refine l_move rfl rfl ?_
      refine l_guard_yes rfl rfl ?_
      refine l_move rfl rfl ?_
      refine l_guard_yes rfl rfl ?_
      refine l_ixs rfl Try.underlying54 Try.sizeOf23 rfl rfl (by omega) (by omega) ?_
      refine l_guard_yes rfl rfl ?_
      refine l_loadc (v := .int .u32 (X.getD i.toNat 0)) rfl Try.isAgg23 rfl (word_at (mem_getO 0 rfl) (by omega)) ?_
      refine l_guard_yes rfl rfl ?_
      refine l_eql rfl rfl rfl ?_
      rw [decide_eq_true (show X.getD i.toNat 0 = 2004318071 by rw [hx i.toNat (by omega)]; exact hx2 (by omega) (by omega))]
      refine l_pick_t rfl rfl rfl ?_
      refine l_assign rfl rfl ?_
      refine l_nil ?_
      refine g_region ?_
      refine l_move rfl rfl ?_
      refine l_move rfl rfl ?_
      refine l_ixs rfl Try.underlying54 Try.sizeOf23 rfl rfl (by omega) (by omega) ?_
      refine l_storew 0 Try.sizeOf23 rfl rfl rfl (by omega) rfl ?_
      refine l_nil ?_
      refine g_inBlock ?_
      refine g_region ?_
      refine l_move rfl rfl ?_
      first | refine l_add rfl rfl rfl (w_i64 (by omega) (by omega)) ?_ | refine l_addw rfl rfl rfl ?_
      refine l_assign rfl rfl ?_
      refine l_nil ?_
      exact g_againi (ih (i + 1, X.set i.toNat 2021161080) ⟨by simp only; omega, by simp only; omega, by simp only [List.length_set]; exact hX, fun j hj => by simp only at hj ⊢; rw [gx_set (by omega), if_neg (by omega)]; exact hx j (by omega)⟩ (by simp only; omega)) (.cons rfl (.cons rfl (.cons rfl (.cons rfl (.cons rfl (.nil))))))
    · intro hbr
      first | (exfalso; simp at hbr; done) | (exfalso; simp at hbr; omega) | (exfalso; first | omega | (simp at hbr; done))
  intro hbr
  have hbr := of_decide_eq_false hbr
  refine g_exit rfl ?_
  refine g_seq ?_
  refine g_region ?_
  refine l_move rfl rfl ?_
  refine l_assign rfl rfl ?_
  refine l_nil ?_
  refine g_ret Try.func59 rfl (.tmp rfl .nil) ?_
  exact Gives.mki ⟨rfl, rfl⟩
def mk08 (i : Int) : Int := (2 * i + 1) % 256
def mg08 (i : Int) : Int := (2 * i + 2) % 256
/-- The lists that were told, marked; and what stands then. -/
def apA8 (B : Nat → BK8) (c : Nat → List Int) : Nat → Atom := fun k => Own 5 1 (.slice (B k).la (B k).n (B k).lc) (B k).n (ints .u8 (c k))
def apZ8 (n : Nat) (k : Nat) : List Value := ints .u8 (List.replicate n (mk08 k) ++ List.replicate 64 (mg08 k))
def apB8 (B : Nat → BK8) (i : Nat) (X Y : Nat → Value) : Nat → Atom := fun k => if k < i then Fam 5 1 (apZ8 (B k).n k) [(Y k, (B k).n + 64), (X k, (B k).n + 17), (.slice (B k).la (B k).n (B k).lc, (B k).n)] else Own 5 1 (.slice (B k).la (B k).n (B k).lc) (B k).n (ints .u8 (List.replicate (B k).n (mk08 k)))
theorem apB_now8 {B : Nat → BK8} {i : Nat} {X Y : Nat → Value} {la lc wa wc n c} (hk : B i = ⟨la, lc, wa, wc, n, c⟩) : apB8 B i X Y i = Own 5 1 (.slice la n lc) n (ints .u8 (List.replicate n (mk08 i))) := by
  unfold apB8
  rw [if_neg (by omega), hk]
theorem apB_done8 {B : Nat → BK8} {i : Nat} {X Y : Nat → Value} {x y : Value} {la lc wa wc n c} (hk : B i = ⟨la, lc, wa, wc, n, c⟩) : apB8 B (i + 1) (upF X i x) (upF Y i y) i = Fam 5 1 (ints .u8 (List.replicate n (mk08 i) ++ List.replicate 64 (mg08 i))) [(y, n + 64), (x, n + 17), (.slice la n lc, n)] := by
  unfold apB8 apZ8
  rw [if_pos (by omega), upF_at, upF_at, hk]
theorem apB_keep8 {B : Nat → BK8} {i k : Nat} {X Y : Nat → Value} {x y : Value} (h : k ≠ i) : apB8 B (i + 1) (upF X i x) (upF Y i y) k = apB8 B i X Y k := by
  unfold apB8
  by_cases hk : k < i
  · rw [if_pos (by omega), if_pos hk, upF_ne h, upF_ne h]
  · rw [if_neg (by omega), if_neg hk]
theorem apB_read8 {B : Nat → BK8} {N i : Nat} {X Y : Nat → Value} {la lc wa wc n c} (hk : B i = ⟨la, lc, wa, wc, n, c⟩) (hi : i < N) : apB8 B N X Y i = Fam 5 1 (ints .u8 (List.replicate n (mk08 i) ++ List.replicate 64 (mg08 i))) [(Y i, n + 64), (X i, n + 17), (.slice la n lc, n)] := by
  unfold apB8 apZ8
  rw [if_pos hi, hk]
/-- The rows, with what has grown. -/
def bkR28 (B : Nat → BK8) (X Y : Nat → Value) (k : Nat) : List Value := [.slice (B k).la (B k).n (B k).lc, .slice (B k).wa (B k).n (B k).wc, X k, Y k]
theorem bkR2_len8 (B : Nat → BK8) (X Y : Nat → Value) (N : Nat) : ∀ q, q < N → (bkR28 B X Y q).length = 4 := fun q _ => rfl
theorem bkR2_X8 {B : Nat → BK8} {X Y : Nat → Value} {N i : Nat} {x : Value} (hi : i < N) : (rowsN N (bkR28 B X Y)).set (0 + i * 4 + 2) x = rowsN N (bkR28 B (upF X i x) Y) := by
  rw [show 0 + i * 4 + 2 = i * 4 + 2 by omega, rowsN_set (bkR2_len8 B X Y N) hi (by decide)]
  refine rowsN_congr fun k hk => ?_
  by_cases e : k = i
  · subst e; simp [bkR28, upF_at]
  · rw [if_neg e]; simp [bkR28, upF_ne e]
theorem bkR2_Y8 {B : Nat → BK8} {X Y : Nat → Value} {N i : Nat} {y : Value} (hi : i < N) : (rowsN N (bkR28 B X Y)).set (0 + i * 4 + 3) y = rowsN N (bkR28 B X (upF Y i y)) := by
  rw [show 0 + i * 4 + 3 = i * 4 + 3 by omega, rowsN_set (bkR2_len8 B X Y N) hi (by decide)]
  refine rowsN_congr fun k hk => ?_
  by_cases e : k = i
  · subst e; simp [bkR28, upF_at]
  · rw [if_neg e]; simp [bkR28, upF_ne e]
theorem rr_len8 (n : Nat) (x y : Int) (m : Nat) : (ints .u8 (List.replicate n x ++ List.replicate m y)).length = n + m := by rw [ints_length, List.length_append, List.length_replicate, List.length_replicate]
theorem rr_get8 {n m q : Nat} {x y : Int} (h : q < n + m) : (ints .u8 (List.replicate n x ++ List.replicate m y))[q]? = some (.int .u8 (if q < n then x else y)) := by
  rw [ints_get (by rw [← ints_length .u8, rr_len8]; exact h), getD_repapp h]
theorem r_get8 {m q : Nat} {y : Int} (h : q < m) : (ints .u8 (List.replicate m y))[q]? = some (.int .u8 y) := by
  simp [ints, h]
class FrontF8 (F : List Atom) (B : outParam Atom) (F' : outParam (List Atom)) : Prop where
  perm : F.Perm (B :: F')
instance (priority := 2000) frontF_here8 {E sz : Nat} {Z : List Value} {vs : List (Value × Nat)} {F : List Atom} : FrontF8 (Fam E sz Z vs :: F) (Fam E sz Z vs) F := ⟨.refl _⟩
instance frontF_there8 {A B : Atom} {F F' : List Atom} [h : FrontF8 F B F'] : FrontF8 (A :: F) B (A :: F') := ⟨(h.perm.cons A).trans (.swap _ _ _)⟩
section
variable {P : Program} {f : FuncId} {w0 : World} {K : Post} {n : Nat} {d : List Deferred} {ops : Array Oper} {rest : List Oper} {k : List Go.Item} {e : Env} {F : List Atom}
theorem l_frontf8 {B F'} [h : FrontF8 F B F'] (hk : GL P f w0 K n d ops rest k e (B :: F')) : GL P f w0 K n d ops rest k e F := gl_heap (fun w hw => hw.perm h.perm) hk
theorem gp_frontf8 {D A : List Nat} {B F'} [h : FrontF8 F B F'] (hk : GP P f w0 K n d ops k D A e (B :: F')) : GP P f w0 K n d ops k D A e F := fun hreg hac hPA hp => by
  intro X hX fuel listed a w h1 h2 h3 h4 hw
  exact hk hreg hac hPA (hp.perm h.perm) X hX fuel listed a w h1 h2 h3 h4 (hw.perm h.perm)
theorem g_frontv_fam8 {B F'} [h : FrontF8 F B F'] (hk : G P f w0 K n d k e (B :: F')) : G P f w0 K n d k e F := g_heap (fun w hw => hw.perm h.perm) hk
end
def mk0 (i : Int) : Int := (2 * i % 4294967296 + 2684354561) % 4294967296
def mg0 (i : Int) : Int := (2 * i % 4294967296 + 2684354562) % 4294967296
/-- The lists that were told, marked; and what stands then. -/
def apA (B : Nat → BK) (c : Nat → List Int) : Nat → Atom := fun k => Own 23 1 (.slice (B k).la (B k).n (B k).lc) (B k).n (ints .u32 (c k))
def apZ (n : Nat) (k : Nat) : List Value := ints .u32 (List.replicate n (mk0 k) ++ List.replicate 64 (mg0 k))
def apB (B : Nat → BK) (i : Nat) (X Y : Nat → Value) : Nat → Atom := fun k => if k < i then Fam 23 1 (apZ (B k).n k) [(Y k, (B k).n + 64), (X k, (B k).n + 17), (.slice (B k).la (B k).n (B k).lc, (B k).n)] else Own 23 1 (.slice (B k).la (B k).n (B k).lc) (B k).n (ints .u32 (List.replicate (B k).n (mk0 k)))
theorem apB_now {B : Nat → BK} {i : Nat} {X Y : Nat → Value} {la lc wa wc n c} (hk : B i = ⟨la, lc, wa, wc, n, c⟩) : apB B i X Y i = Own 23 1 (.slice la n lc) n (ints .u32 (List.replicate n (mk0 i))) := by
  unfold apB
  rw [if_neg (by omega), hk]
theorem apB_done {B : Nat → BK} {i : Nat} {X Y : Nat → Value} {x y : Value} {la lc wa wc n c} (hk : B i = ⟨la, lc, wa, wc, n, c⟩) : apB B (i + 1) (upF X i x) (upF Y i y) i = Fam 23 1 (ints .u32 (List.replicate n (mk0 i) ++ List.replicate 64 (mg0 i))) [(y, n + 64), (x, n + 17), (.slice la n lc, n)] := by
  unfold apB apZ
  rw [if_pos (by omega), upF_at, upF_at, hk]
theorem apB_keep {B : Nat → BK} {i k : Nat} {X Y : Nat → Value} {x y : Value} (h : k ≠ i) : apB B (i + 1) (upF X i x) (upF Y i y) k = apB B i X Y k := by
  unfold apB
  by_cases hk : k < i
  · rw [if_pos (by omega), if_pos hk, upF_ne h, upF_ne h]
  · rw [if_neg (by omega), if_neg hk]
theorem apB_read {B : Nat → BK} {N i : Nat} {X Y : Nat → Value} {la lc wa wc n c} (hk : B i = ⟨la, lc, wa, wc, n, c⟩) (hi : i < N) : apB B N X Y i = Fam 23 1 (ints .u32 (List.replicate n (mk0 i) ++ List.replicate 64 (mg0 i))) [(Y i, n + 64), (X i, n + 17), (.slice la n lc, n)] := by
  unfold apB apZ
  rw [if_pos hi, hk]
/-- The rows, with what has grown. -/
def bkR2 (B : Nat → BK) (X Y : Nat → Value) (k : Nat) : List Value := [.slice (B k).la (B k).n (B k).lc, .slice (B k).wa (B k).n (B k).wc, X k, Y k]
theorem bkR2_len (B : Nat → BK) (X Y : Nat → Value) (N : Nat) : ∀ q, q < N → (bkR2 B X Y q).length = 4 := fun q _ => rfl
theorem bkR2_X {B : Nat → BK} {X Y : Nat → Value} {N i : Nat} {x : Value} (hi : i < N) : (rowsN N (bkR2 B X Y)).set (0 + i * 4 + 2) x = rowsN N (bkR2 B (upF X i x) Y) := by
  rw [show 0 + i * 4 + 2 = i * 4 + 2 by omega, rowsN_set (bkR2_len B X Y N) hi (by decide)]
  refine rowsN_congr fun k hk => ?_
  by_cases e : k = i
  · subst e; simp [bkR2, upF_at]
  · rw [if_neg e]; simp [bkR2, upF_ne e]
theorem bkR2_Y {B : Nat → BK} {X Y : Nat → Value} {N i : Nat} {y : Value} (hi : i < N) : (rowsN N (bkR2 B X Y)).set (0 + i * 4 + 3) y = rowsN N (bkR2 B X (upF Y i y)) := by
  rw [show 0 + i * 4 + 3 = i * 4 + 3 by omega, rowsN_set (bkR2_len B X Y N) hi (by decide)]
  refine rowsN_congr fun k hk => ?_
  by_cases e : k = i
  · subst e; simp [bkR2, upF_at]
  · rw [if_neg e]; simp [bkR2, upF_ne e]
theorem rr_len (n : Nat) (x y : Int) (m : Nat) : (ints .u32 (List.replicate n x ++ List.replicate m y)).length = n + m := by rw [ints_length, List.length_append, List.length_replicate, List.length_replicate]
theorem rr_get {n m q : Nat} {x y : Int} (h : q < n + m) : (ints .u32 (List.replicate n x ++ List.replicate m y))[q]? = some (.int .u32 (if q < n then x else y)) := by
  rw [ints_get (by rw [← ints_length .u32, rr_len]; exact h), getD_repapp h]
theorem r_get {m q : Nat} {y : Int} (h : q < m) : (ints .u32 (List.replicate m y))[q]? = some (.int .u32 y) := by
  simp [ints, h]
class FrontF (F : List Atom) (B : outParam Atom) (F' : outParam (List Atom)) : Prop where
  perm : F.Perm (B :: F')
instance (priority := 2000) frontF_here {E sz : Nat} {Z : List Value} {vs : List (Value × Nat)} {F : List Atom} : FrontF (Fam E sz Z vs :: F) (Fam E sz Z vs) F := ⟨.refl _⟩
instance frontF_there {A B : Atom} {F F' : List Atom} [h : FrontF F B F'] : FrontF (A :: F) B (A :: F') := ⟨(h.perm.cons A).trans (.swap _ _ _)⟩
section
variable {P : Program} {f : FuncId} {w0 : World} {K : Post} {n : Nat} {d : List Deferred} {ops : Array Oper} {rest : List Oper} {k : List Go.Item} {e : Env} {F : List Atom}
theorem l_frontf {B F'} [h : FrontF F B F'] (hk : GL P f w0 K n d ops rest k e (B :: F')) : GL P f w0 K n d ops rest k e F := gl_heap (fun w hw => hw.perm h.perm) hk
theorem gp_frontf {D A : List Nat} {B F'} [h : FrontF F B F'] (hk : GP P f w0 K n d ops k D A e (B :: F')) : GP P f w0 K n d ops k D A e F := fun hreg hac hPA hp => by
  intro X hX fuel listed a w h1 h2 h3 h4 hw
  exact hk hreg hac hPA (hp.perm h.perm) X hX fuel listed a w h1 h2 h3 h4 (hw.perm h.perm)
theorem g_frontv_fam {B F'} [h : FrontF F B F'] (hk : G P f w0 K n d k e (B :: F')) : G P f w0 K n d k e F := g_heap (fun w hw => hw.perm h.perm) hk
end
set_option maxHeartbeats 16000000 in
theorem settled_ok (w0 : World) (F : List Atom) (kb : Nat) (u0 u1 u2 u3 : Value) (ka8 : Option Addr) (K8 kc8 : Nat) (B8 : Nat → BK8) (hB8 : ∀ j, j < K8 → BkOk8 (B8 j)) (hK8 : K8 ≤ 1099511627776) (hka8 : K8 = 0 ∨ ∃ g, ka8 = some ⟨g, 0, none⟩) (ka : Option Addr) (K kc : Nat) (B : Nat → BK) (hB : ∀ j, j < K → BkOk (B j)) (hK : K ≤ 1099511627776) (hka : K = 0 ∨ ∃ g, ka = some ⟨g, 0, none⟩) :
    CallK Try.prog 23 [.pointer (some ⟨kb, 4, none⟩)] w0 (Blk kb (.cells [u0, u1, u2, u3, .slice ka8 K8 kc8, .slice ka K kc].toArray 51 (0, 0)) :: Own 102 4 (.slice ka8 K8 kc8) K8 (rowsN K8 (fun j => bkR8 (B8 j))) :: BigF K8 (fun j => bkA8 (B8 j)) :: Own 104 4 (.slice ka K kc) K (rowsN K (fun j => bkR (B j))) :: BigF K (fun j => bkA (B j)) :: F) (Gives w0 fun v F2 => v = .bool true ∧ F2 = F) := by
  refine c_enter Try.func23 rfl rfl rfl ?_
  refine g_seq ?_
  refine g_region ?_
  refine l_assign rfl rfl ?_
  refine l_nil ?_
  refine g_seq ?_
  refine g_region ?_
  refine l_assign rfl rfl ?_
  refine l_nil ?_
  refine g_seq ?_
  refine g_seq ?_
  refine g_region ?_
  refine l_assign rfl rfl ?_
  refine l_nil ?_
  refine g_block ?_
  refine g_loopc (X := Int) [(0, _), (2, _)] (.cons rfl (.cons rfl (.nil))) (fun i => 0 ≤ i ∧ i ≤ K8) (fun i => ((K8 : Int) - i).toNat) (fun i => [(3, .bool true), (4, .int .i64 i)]) (0) (by omega) (.cons rfl (.cons rfl .nil)) ?_
  rintro i ⟨i0, i1⟩ ih
  dsimp only [List.cons_append, List.nil_append] at ih ⊢
  refine g_seq ?_
  refine g_seq ?_
  refine g_region ?_
  refine l_move rfl rfl ?_
  refine l_move rfl rfl ?_
  refine l_nilCheck rfl rfl ?_
  refine l_fieldAddr rfl fa_49_0 rfl ?_
  refine l_ld rfl Try.isAgg46 rfl rfl ?_
  refine l_len rfl Try.underlying46 rfl ?_
  refine l_lss rfl rfl rfl ?_
  refine l_nil ?_
  refine g_cond rfl ?_ ?_
  · intro hbr
    have hbr := of_decide_eq_true hbr
    refine g_skip ?_
    refine g_seq ?_
    refine g_block ?_
    refine g_seq ?_
    refine gp_start mo (by kernel_rfl) (by kernel_rfl) ?_
    obtain ⟨gk8, rfl⟩ := hka8.resolve_left (by omega)
    have hbk := hB8 i.toNat (by omega)
    refine gp_quiet 0 rfl rfl rfl rfl rfl rfl (q_move rfl) ?_
    refine gp_quiet 1 rfl rfl rfl rfl rfl rfl (q_nilCheck rfl) ?_
    refine gp_quiet 2 rfl rfl rfl rfl rfl rfl (q_fieldAddr fa_49_0 rfl) ?_
    refine gp_quiet 3 rfl rfl rfl rfl rfl rfl (q_ld Try.isAgg46 rfl rfl) ?_
    refine gp_quiet 4 rfl rfl rfl rfl rfl rfl (q_move rfl) ?_
    refine gp_quiet 5 rfl rfl rfl rfl rfl rfl (q_ixs Try.underlying46 Try.sizeOf102 rfl rfl (by omega) (by omega)) ?_
    refine gp_quiet 6 rfl rfl rfl rfl rfl rfl (q_fieldAddr fa_102_0 rfl) ?_
    refine gp_quiet 7 rfl rfl rfl rfl rfl rfl (q_loadc (v := .slice (B8 i.toNat).la (B8 i.toNat).n (B8 i.toNat).lc) Try.isAgg36 rfl (rn_cell (f := fun j => bkR8 (B8 j)) (k := i.toNat) (j := 0) (by first | exact mem_getO 0 rfl | exact mem_getO 1 rfl | exact mem_getO 2 rfl | exact mem_getO 3 rfl | exact mem_getO 4 rfl | exact mem_getO 5 rfl | exact mem_getO 6 rfl | exact mem_getO 7 rfl) (bkR_len8 B8 K8) (by omega) (by decide) rfl)) ?_
    refine gp_quiet 8 rfl rfl rfl rfl rfl rfl (q_move rfl) ?_
    refine gp_quiet 9 rfl rfl rfl rfl rfl rfl (q_nilCheck rfl) ?_
    refine gp_quiet 10 rfl rfl rfl rfl rfl rfl (q_fieldAddr fa_49_0 rfl) ?_
    refine gp_quiet 11 rfl rfl rfl rfl rfl rfl (q_ld Try.isAgg46 rfl rfl) ?_
    refine gp_quiet 12 rfl rfl rfl rfl rfl rfl (q_move rfl) ?_
    refine gp_quiet 13 rfl rfl rfl rfl rfl rfl (q_ixs Try.underlying46 Try.sizeOf102 rfl rfl (by omega) (by omega)) ?_
    refine gp_quiet 14 rfl rfl rfl rfl rfl rfl (q_fieldAddr fa_102_1 rfl) ?_
    refine gp_quiet 15 rfl rfl rfl rfl rfl rfl (q_loadc (v := .slice (B8 i.toNat).wa (B8 i.toNat).n (B8 i.toNat).wc) Try.isAgg36 rfl (rn_cell (f := fun j => bkR8 (B8 j)) (k := i.toNat) (j := 1) (by first | exact mem_getO 0 rfl | exact mem_getO 1 rfl | exact mem_getO 2 rfl | exact mem_getO 3 rfl | exact mem_getO 4 rfl | exact mem_getO 5 rfl | exact mem_getO 6 rfl | exact mem_getO 7 rfl) (bkR_len8 B8 K8) (by omega) (by decide) rfl)) ?_
    refine gp_effa 16 [7, 15] [14, 13, 12, 11, 10, 9, 8, 6, 5, 4, 3, 2, 1, 0] rfl rfl rfl rfl rfl rfl rfl (does_call Try.call69 rfl (samew_ok8 _ _ _ _ _ _ _ (B8 i.toNat).c (bk_ir8 (by first | exact mem_getO 0 rfl | exact mem_getO 1 rfl | exact mem_getO 2 rfl | exact mem_getO 3 rfl | exact mem_getO 4 rfl | exact mem_getO 5 rfl | exact mem_getO 6 rfl | exact mem_getO 7 rfl | exact mem_getO 8 rfl | exact mem_getO 9 rfl | exact mem_getO 10 rfl | exact mem_getO 11 rfl) (by omega) hbk).1 (bk_ir8 (by first | exact mem_getO 0 rfl | exact mem_getO 1 rfl | exact mem_getO 2 rfl | exact mem_getO 3 rfl | exact mem_getO 4 rfl | exact mem_getO 5 rfl | exact mem_getO 6 rfl | exact mem_getO 7 rfl | exact mem_getO 8 rfl | exact mem_getO 9 rfl | exact mem_getO 10 rfl | exact mem_getO 11 rfl) (by omega) hbk).2 hbk.2.2.1 (by have := hbk.2.1; omega))) ?_
    rintro _ _ ⟨rfl, rfl⟩
    refine ⟨?_, ?_⟩
    · refine .cons rfl rfl rfl rfl rfl (q_fieldAddr fa_102_1 rfl) ?_
      refine .cons rfl rfl rfl rfl rfl (q_ixs Try.underlying46 Try.sizeOf102 rfl rfl (by omega) (by omega)) ?_
      refine .cons rfl rfl rfl rfl rfl (q_move rfl) ?_
      refine .cons rfl rfl rfl rfl rfl (q_ld Try.isAgg46 rfl rfl) ?_
      refine .cons rfl rfl rfl rfl rfl (q_fieldAddr fa_49_0 rfl) ?_
      refine .cons rfl rfl rfl rfl rfl (q_nilCheck rfl) ?_
      refine .cons rfl rfl rfl rfl rfl (q_move rfl) ?_
      refine .cons rfl rfl rfl rfl rfl (q_fieldAddr fa_102_0 rfl) ?_
      refine .cons rfl rfl rfl rfl rfl (q_ixs Try.underlying46 Try.sizeOf102 rfl rfl (by omega) (by omega)) ?_
      refine .cons rfl rfl rfl rfl rfl (q_move rfl) ?_
      refine .cons rfl rfl rfl rfl rfl (q_ld Try.isAgg46 rfl rfl) ?_
      refine .cons rfl rfl rfl rfl rfl (q_fieldAddr fa_49_0 rfl) ?_
      refine .cons rfl rfl rfl rfl rfl (q_nilCheck rfl) ?_
      refine .cons rfl rfl rfl rfl rfl (q_move rfl) ?_
      exact .nil
    refine gp_quiet 17 rfl rfl rfl rfl rfl rfl (q_assign rfl) ?_
    refine gp_end rfl rfl ?_
    refine g_region ?_
    refine l_move rfl rfl ?_
    refine l_move rfl rfl ?_
    refine l_split 57 rfl ?_ ?_
    · intro hbr
      refine l_guard_yes rfl rfl ?_
      refine l_move rfl rfl ?_
      refine l_pick_t rfl rfl rfl ?_
      refine l_assign rfl rfl ?_
      refine l_nil ?_
      refine g_inBlock ?_
      refine g_region ?_
      refine l_move rfl rfl ?_
      first | refine l_add rfl rfl rfl (w_i64 (by omega) (by omega)) ?_ | refine l_addw rfl rfl rfl ?_
      refine l_assign rfl rfl ?_
      refine l_nil ?_
      exact g_againi (ih (i + 1) (by omega) (by omega)) (.cons rfl (.cons rfl (.cons rfl (.cons rfl (.nil)))))
    · intro hbr
      first | (exfalso; simp at hbr; done) | (exfalso; simp at hbr; omega) | (exfalso; first | omega | (simp at hbr; done))
  intro hbr
  have hbr := of_decide_eq_false hbr
  refine g_exit rfl ?_
  refine g_heap (F' := Blk kb (.cells [u0, u1, u2, u3, .slice ka8 K8 kc8, .slice ka K kc].toArray 51 (0, 0)) :: Own 102 4 (.slice ka8 K8 kc8) K8 (rowsN K8 (bkR28 B8 (fun _ => Value.slice none 0 0) (fun _ => Value.slice none 0 0))) :: BigF K8 (apA8 B8 (fun k => (B8 k).c)) :: Own 104 4 (.slice ka K kc) K (rowsN K (fun j => bkR (B j))) :: BigF K (fun j => bkA (B j)) :: F) (fun w hw => ?_) ?_
  · have h1 : Holds w0 (BigF K8 (fun j => bkA8 (B8 j)) :: Blk kb (.cells [u0, u1, u2, u3, .slice ka8 K8 kc8, .slice ka K kc].toArray 51 (0, 0)) :: Own 102 4 (.slice ka8 K8 kc8) K8 (rowsN K8 (fun j => bkR8 (B8 j))) :: Own 104 4 (.slice ka K kc) K (rowsN K (fun j => bkR (B j))) :: BigF K (fun j => bkA (B j)) :: F) w := SPI.holds hw
    exact (SPI.holds (BigF.mono (B := apA8 B8 (fun k => (B8 k).c)) h1 (fun k hk ho => ho.1) (fun k hk b hb => .inl hb)) : Holds w0 (Blk kb (.cells [u0, u1, u2, u3, .slice ka8 K8 kc8, .slice ka K kc].toArray 51 (0, 0)) :: Own 102 4 (.slice ka8 K8 kc8) K8 (rowsN K8 (fun j => bkR8 (B8 j))) :: BigF K8 (apA8 B8 (fun k => (B8 k).c)) :: Own 104 4 (.slice ka K kc) K (rowsN K (fun j => bkR (B j))) :: BigF K (fun j => bkA (B j)) :: F) w)
  refine g_seq ?_
  refine g_seq ?_
  refine g_region ?_
  refine l_assign rfl rfl ?_
  refine l_nil ?_
  refine g_block ?_
  refine g_loopc (X := Int) [(0, _), (2, _)] (.cons rfl (.cons rfl (.nil))) (fun i => 0 ≤ i ∧ i ≤ K) (fun i => ((K : Int) - i).toNat) (fun i => [(3, .bool true), (6, .int .i64 i)]) (0) (by omega) (.cons rfl (.cons rfl .nil)) ?_
  rintro i ⟨i0, i1⟩ ih
  dsimp only [List.cons_append, List.nil_append] at ih ⊢
  refine g_seq ?_
  refine g_seq ?_
  refine g_region ?_
  refine l_move rfl rfl ?_
  refine l_move rfl rfl ?_
  refine l_nilCheck rfl rfl ?_
  refine l_fieldAddr rfl fa_49_1 rfl ?_
  refine l_ld rfl Try.isAgg47 rfl rfl ?_
  refine l_len rfl Try.underlying47 rfl ?_
  refine l_lss rfl rfl rfl ?_
  refine l_nil ?_
  refine g_cond rfl ?_ ?_
  · intro hbr
    have hbr := of_decide_eq_true hbr
    refine g_skip ?_
    refine g_seq ?_
    refine g_block ?_
    refine g_seq ?_
    refine gp_start mo (by kernel_rfl) (by kernel_rfl) ?_
    obtain ⟨gk, rfl⟩ := hka.resolve_left (by omega)
    have hbk := hB i.toNat (by omega)
    refine gp_quiet 0 rfl rfl rfl rfl rfl rfl (q_move rfl) ?_
    refine gp_quiet 1 rfl rfl rfl rfl rfl rfl (q_nilCheck rfl) ?_
    refine gp_quiet 2 rfl rfl rfl rfl rfl rfl (q_fieldAddr fa_49_1 rfl) ?_
    refine gp_quiet 3 rfl rfl rfl rfl rfl rfl (q_ld Try.isAgg47 rfl rfl) ?_
    refine gp_quiet 4 rfl rfl rfl rfl rfl rfl (q_move rfl) ?_
    refine gp_quiet 5 rfl rfl rfl rfl rfl rfl (q_ixs Try.underlying47 Try.sizeOf104 rfl rfl (by omega) (by omega)) ?_
    refine gp_quiet 6 rfl rfl rfl rfl rfl rfl (q_fieldAddr fa_104_0 rfl) ?_
    refine gp_quiet 7 rfl rfl rfl rfl rfl rfl (q_loadc (v := .slice (B i.toNat).la (B i.toNat).n (B i.toNat).lc) Try.isAgg54 rfl (rn_cell (f := fun j => bkR (B j)) (k := i.toNat) (j := 0) (by first | exact mem_getO 0 rfl | exact mem_getO 1 rfl | exact mem_getO 2 rfl | exact mem_getO 3 rfl | exact mem_getO 4 rfl | exact mem_getO 5 rfl | exact mem_getO 6 rfl | exact mem_getO 7 rfl) (bkR_len B K) (by omega) (by decide) rfl)) ?_
    refine gp_quiet 8 rfl rfl rfl rfl rfl rfl (q_move rfl) ?_
    refine gp_quiet 9 rfl rfl rfl rfl rfl rfl (q_nilCheck rfl) ?_
    refine gp_quiet 10 rfl rfl rfl rfl rfl rfl (q_fieldAddr fa_49_1 rfl) ?_
    refine gp_quiet 11 rfl rfl rfl rfl rfl rfl (q_ld Try.isAgg47 rfl rfl) ?_
    refine gp_quiet 12 rfl rfl rfl rfl rfl rfl (q_move rfl) ?_
    refine gp_quiet 13 rfl rfl rfl rfl rfl rfl (q_ixs Try.underlying47 Try.sizeOf104 rfl rfl (by omega) (by omega)) ?_
    refine gp_quiet 14 rfl rfl rfl rfl rfl rfl (q_fieldAddr fa_104_1 rfl) ?_
    refine gp_quiet 15 rfl rfl rfl rfl rfl rfl (q_loadc (v := .slice (B i.toNat).wa (B i.toNat).n (B i.toNat).wc) Try.isAgg54 rfl (rn_cell (f := fun j => bkR (B j)) (k := i.toNat) (j := 1) (by first | exact mem_getO 0 rfl | exact mem_getO 1 rfl | exact mem_getO 2 rfl | exact mem_getO 3 rfl | exact mem_getO 4 rfl | exact mem_getO 5 rfl | exact mem_getO 6 rfl | exact mem_getO 7 rfl) (bkR_len B K) (by omega) (by decide) rfl)) ?_
    refine gp_effa 16 [7, 15] [14, 13, 12, 11, 10, 9, 8, 6, 5, 4, 3, 2, 1, 0] rfl rfl rfl rfl rfl rfl rfl (does_call Try.call39 rfl (samew_ok _ _ _ _ _ _ _ (B i.toNat).c (bk_ir (by first | exact mem_getO 0 rfl | exact mem_getO 1 rfl | exact mem_getO 2 rfl | exact mem_getO 3 rfl | exact mem_getO 4 rfl | exact mem_getO 5 rfl | exact mem_getO 6 rfl | exact mem_getO 7 rfl | exact mem_getO 8 rfl | exact mem_getO 9 rfl | exact mem_getO 10 rfl | exact mem_getO 11 rfl) (by omega) hbk).1 (bk_ir (by first | exact mem_getO 0 rfl | exact mem_getO 1 rfl | exact mem_getO 2 rfl | exact mem_getO 3 rfl | exact mem_getO 4 rfl | exact mem_getO 5 rfl | exact mem_getO 6 rfl | exact mem_getO 7 rfl | exact mem_getO 8 rfl | exact mem_getO 9 rfl | exact mem_getO 10 rfl | exact mem_getO 11 rfl) (by omega) hbk).2 hbk.2.2.1 (by have := hbk.2.1; omega))) ?_
    rintro _ _ ⟨rfl, rfl⟩
    refine ⟨?_, ?_⟩
    · refine .cons rfl rfl rfl rfl rfl (q_fieldAddr fa_104_1 rfl) ?_
      refine .cons rfl rfl rfl rfl rfl (q_ixs Try.underlying47 Try.sizeOf104 rfl rfl (by omega) (by omega)) ?_
      refine .cons rfl rfl rfl rfl rfl (q_move rfl) ?_
      refine .cons rfl rfl rfl rfl rfl (q_ld Try.isAgg47 rfl rfl) ?_
      refine .cons rfl rfl rfl rfl rfl (q_fieldAddr fa_49_1 rfl) ?_
      refine .cons rfl rfl rfl rfl rfl (q_nilCheck rfl) ?_
      refine .cons rfl rfl rfl rfl rfl (q_move rfl) ?_
      refine .cons rfl rfl rfl rfl rfl (q_fieldAddr fa_104_0 rfl) ?_
      refine .cons rfl rfl rfl rfl rfl (q_ixs Try.underlying47 Try.sizeOf104 rfl rfl (by omega) (by omega)) ?_
      refine .cons rfl rfl rfl rfl rfl (q_move rfl) ?_
      refine .cons rfl rfl rfl rfl rfl (q_ld Try.isAgg47 rfl rfl) ?_
      refine .cons rfl rfl rfl rfl rfl (q_fieldAddr fa_49_1 rfl) ?_
      refine .cons rfl rfl rfl rfl rfl (q_nilCheck rfl) ?_
      refine .cons rfl rfl rfl rfl rfl (q_move rfl) ?_
      exact .nil
    refine gp_quiet 17 rfl rfl rfl rfl rfl rfl (q_assign rfl) ?_
    refine gp_end rfl rfl ?_
    refine g_region ?_
    refine l_move rfl rfl ?_
    refine l_move rfl rfl ?_
    refine l_split 87 rfl ?_ ?_
    · intro hbr
      refine l_guard_yes rfl rfl ?_
      refine l_move rfl rfl ?_
      refine l_pick_t rfl rfl rfl ?_
      refine l_assign rfl rfl ?_
      refine l_nil ?_
      refine g_inBlock ?_
      refine g_region ?_
      refine l_move rfl rfl ?_
      first | refine l_add rfl rfl rfl (w_i64 (by omega) (by omega)) ?_ | refine l_addw rfl rfl rfl ?_
      refine l_assign rfl rfl ?_
      refine l_nil ?_
      exact g_againi (ih (i + 1) (by omega) (by omega)) (.cons rfl (.cons rfl (.cons rfl (.cons rfl (.nil)))))
    · intro hbr
      first | (exfalso; simp at hbr; done) | (exfalso; simp at hbr; omega) | (exfalso; first | omega | (simp at hbr; done))
  intro hbr
  have hbr := of_decide_eq_false hbr
  refine g_exit rfl ?_
  refine g_heap (F' := Blk kb (.cells [u0, u1, u2, u3, .slice ka8 K8 kc8, .slice ka K kc].toArray 51 (0, 0)) :: Own 104 4 (.slice ka K kc) K (rowsN K (bkR2 B (fun _ => Value.slice none 0 0) (fun _ => Value.slice none 0 0))) :: BigF K (apA B (fun k => (B k).c)) :: Own 102 4 (.slice ka8 K8 kc8) K8 (rowsN K8 (bkR28 B8 (fun _ => Value.slice none 0 0) (fun _ => Value.slice none 0 0))) :: BigF K8 (apA8 B8 (fun k => (B8 k).c)) :: F) (fun w hw => ?_) ?_
  · have h1 : Holds w0 (BigF K (fun j => bkA (B j)) :: Blk kb (.cells [u0, u1, u2, u3, .slice ka8 K8 kc8, .slice ka K kc].toArray 51 (0, 0)) :: Own 104 4 (.slice ka K kc) K (rowsN K (fun j => bkR (B j))) :: Own 102 4 (.slice ka8 K8 kc8) K8 (rowsN K8 (bkR28 B8 (fun _ => Value.slice none 0 0) (fun _ => Value.slice none 0 0))) :: BigF K8 (apA8 B8 (fun k => (B8 k).c)) :: F) w := SPI.holds hw
    exact (SPI.holds (BigF.mono (B := apA B (fun k => (B k).c)) h1 (fun k hk ho => ho.1) (fun k hk b hb => .inl hb)) : Holds w0 (Blk kb (.cells [u0, u1, u2, u3, .slice ka8 K8 kc8, .slice ka K kc].toArray 51 (0, 0)) :: Own 104 4 (.slice ka K kc) K (rowsN K (fun j => bkR (B j))) :: BigF K (apA B (fun k => (B k).c)) :: Own 102 4 (.slice ka8 K8 kc8) K8 (rowsN K8 (bkR28 B8 (fun _ => Value.slice none 0 0) (fun _ => Value.slice none 0 0))) :: BigF K8 (apA8 B8 (fun k => (B8 k).c)) :: F) w)
  refine g_seq ?_
  refine g_seq ?_
  refine g_region ?_
  refine l_assign rfl rfl ?_
  refine l_nil ?_
  refine g_block ?_
  refine g_loopk (X := Int × (Nat → List Int)) [(0, _), (2, _), (3, _)] (.cons rfl (.cons rfl (.cons rfl (.nil)))) (fun z => 0 ≤ z.1 ∧ z.1 ≤ K8 ∧ ∀ k : Nat, (k : Int) < z.1 → z.2 k = List.replicate (B8 k).n (mk08 k)) (fun z => ((K8 : Int) - z.1).toNat) (fun z => [(8, .int .i64 z.1)]) (fun z => Blk kb (.cells [u0, u1, u2, u3, .slice ka8 K8 kc8, .slice ka K kc].toArray 51 (0, 0)) :: Own 102 4 (.slice ka8 K8 kc8) K8 (rowsN K8 (bkR28 B8 (fun _ => Value.slice none 0 0) (fun _ => Value.slice none 0 0))) :: BigF K8 (apA8 B8 z.2) :: Own 104 4 (.slice ka K kc) K (rowsN K (bkR2 B (fun _ => Value.slice none 0 0) (fun _ => Value.slice none 0 0))) :: BigF K (apA B (fun k => (B k).c)) :: F) ((0, fun k => (B8 k).c)) (⟨by simp only; omega, by simp only; omega, fun k hk => by simp only at hk; omega⟩) (.cons rfl .nil) (fun w hw => SPI.holds hw) ?_
  rintro ⟨i, c⟩ ⟨i0, i1, hc⟩ ih
  dsimp only [List.cons_append, List.nil_append] at ih ⊢
  simp only at i0 i1 hc
  refine g_seq ?_
  refine g_seq ?_
  refine g_region ?_
  refine l_move rfl rfl ?_
  refine l_move rfl rfl ?_
  refine l_nilCheck rfl rfl ?_
  refine l_fieldAddr rfl fa_49_0 rfl ?_
  refine l_ld rfl Try.isAgg46 rfl rfl ?_
  refine l_len rfl Try.underlying46 rfl ?_
  refine l_lss rfl rfl rfl ?_
  refine l_nil ?_
  refine g_cond rfl ?_ ?_
  · intro hbr
    have hbr := of_decide_eq_true hbr
    refine g_skip ?_
    refine g_seq ?_
    refine g_block ?_
    refine g_seq ?_
    refine g_region ?_
    refine l_assign rfl rfl ?_
    refine l_nil ?_
    refine g_block ?_
    obtain ⟨gk8, rfl⟩ := hka8.resolve_left (by omega)
    obtain ⟨⟨la, lc, wa, wc, n, c9⟩, hk⟩ : ∃ x, B8 i.toNat = x := ⟨_, rfl⟩
    have hbk := hB8 i.toNat (by omega)
    rw [hk] at hbk
    obtain ⟨hb1, hb2, _, hla, _⟩ := hbk
    simp only at hb1 hb2 hla
    refine g_take (BigF K8 (apA8 B8 c)) ?_
    refine g_focus i.toNat (by omega) ?_
    rw [show apA8 B8 c i.toNat = Own 5 1 (.slice la n lc) n (ints .u8 (c i.toNat)) by simp [apA8, hk]]
    refine g_fact (fun w hw => Own.len hw (mem_getO 0 rfl)) ?_
    intro hcl
    rw [ints_length, Nat.mul_one] at hcl
    refine g_loopk (X := Int × List Int) [(0, _), (2, _), (3, _), (8, _), (90, _), (91, _), (92, _), (93, _), (94, _), (95, _), (96, _)] (.cons rfl (.cons rfl (.cons rfl (.cons rfl (.cons rfl (.cons rfl (.cons rfl (.cons rfl (.cons rfl (.cons rfl (.cons rfl (.nil)))))))))))) (fun z => 0 ≤ z.1 ∧ z.1 ≤ n ∧ z.2.length = n ∧ ∀ q, q < z.1.toNat → z.2.getD q 0 = mk08 i) (fun z => (n - z.1).toNat) (fun z => [(9, .int .i64 z.1)]) (fun z => Own 5 1 (.slice la n lc) n (ints .u8 z.2) :: BigBut K8 i.toNat (apA8 B8 c) :: Blk kb (.cells [u0, u1, u2, u3, .slice (some ⟨gk8, 0, none⟩) K8 kc8, .slice ka K kc].toArray 51 (0, 0)) :: Own 102 4 (.slice (some ⟨gk8, 0, none⟩) K8 kc8) K8 (rowsN K8 (bkR28 B8 (fun _ => Value.slice none 0 0) (fun _ => Value.slice none 0 0))) :: Own 104 4 (.slice ka K kc) K (rowsN K (bkR2 B (fun _ => Value.slice none 0 0) (fun _ => Value.slice none 0 0))) :: BigF K (apA B (fun k => (B k).c)) :: F) ((0, c i.toNat)) (⟨by simp only; omega, by simp only; omega, hcl, fun q hq => by simp only at hq; omega⟩) (.cons rfl .nil) (fun w hw => SPI.holds hw) ?_
    rintro ⟨j, W⟩ ⟨j0, j1, hWl, hq⟩ ihj
    dsimp only [List.cons_append, List.nil_append] at ihj ⊢
    simp only at j0 j1 hWl hq
    refine g_seq ?_
    refine g_seq ?_
    refine g_region ?_
    refine l_move rfl rfl ?_
    refine l_move rfl rfl ?_
    refine l_nilCheck rfl rfl ?_
    refine l_fieldAddr rfl fa_49_0 rfl ?_
    refine l_ld rfl Try.isAgg46 rfl rfl ?_
    refine l_move rfl rfl ?_
    refine l_ixs rfl Try.underlying46 Try.sizeOf102 rfl rfl (by omega) (by omega) ?_
    refine l_fieldAddr rfl fa_102_0 rfl ?_
    refine l_loadc (v := .slice la n lc) rfl Try.isAgg36 rfl (rn_cell (k := i.toNat) (j := 0) (by first | exact mem_getO 0 rfl | exact mem_getO 1 rfl | exact mem_getO 2 rfl | exact mem_getO 3 rfl | exact mem_getO 4 rfl | exact mem_getO 5 rfl | exact mem_getO 6 rfl | exact mem_getO 7 rfl) (bkR2_len8 B8 _ _ K8) (by omega) (by decide) (by simp [bkR28, hk])) ?_
    refine l_len rfl Try.underlying36 rfl ?_
    refine l_lss rfl rfl rfl ?_
    refine l_nil ?_
    refine g_cond rfl ?_ ?_
    · intro hbr
      have hbr := of_decide_eq_true hbr
      refine g_skip ?_
      refine g_seq ?_
      refine g_block ?_
      refine g_region ?_
      refine l_move rfl rfl ?_
      refine l_nilCheck rfl rfl ?_
      refine l_fieldAddr rfl fa_49_0 rfl ?_
      refine l_ld rfl Try.isAgg46 rfl rfl ?_
      refine l_move rfl rfl ?_
      refine l_ixs rfl Try.underlying46 Try.sizeOf102 rfl rfl (by omega) (by omega) ?_
      refine l_fieldAddr rfl fa_102_0 rfl ?_
      refine l_loadc (v := .slice la n lc) rfl Try.isAgg36 rfl (rn_cell (k := i.toNat) (j := 0) (by first | exact mem_getO 0 rfl | exact mem_getO 1 rfl | exact mem_getO 2 rfl | exact mem_getO 3 rfl | exact mem_getO 4 rfl | exact mem_getO 5 rfl | exact mem_getO 6 rfl | exact mem_getO 7 rfl) (bkR2_len8 B8 _ _ K8) (by omega) (by decide) (by simp [bkR28, hk])) ?_
      refine l_move rfl rfl ?_
      refine l_move rfl rfl ?_
      refine l_mul rfl rfl rfl (w_i64 (by omega) (by omega)) ?_
      refine l_add rfl rfl rfl (w_i64 (by omega) (by omega)) ?_
      refine l_convm (m := 256) rfl wr_u8 Try.underlying3 Try.underlying5 rfl ?_
      rw [show (2 * i + 1) % 256 = mk08 i from rfl]
      obtain ⟨g9, rfl⟩ := hla.resolve_left (by omega)
      refine l_ixs rfl Try.underlying36 Try.sizeOf5 rfl rfl (by omega) (by omega) ?_
      refine l_take (Own 5 1 (.slice (some ⟨g9, 0, none⟩) n lc) n (ints .u8 W)) ?_
      refine l_storew 0 Try.sizeOf5 rfl rfl rfl (by omega) rfl ?_
      refine l_nil ?_
      refine g_inBlock ?_
      refine g_region ?_
      refine l_move rfl rfl ?_
      first | refine l_add rfl rfl rfl (w_i64 (by omega) (by omega)) ?_ | refine l_addw rfl rfl rfl ?_
      refine l_assign rfl rfl ?_
      refine l_nil ?_
      have hrn := rep_next hWl hq (show j.toNat < n by omega)
      rw [show j.toNat + 1 = (j + 1).toNat by omega] at hrn
      exact g_againi (ihj (j + 1, W.set j.toNat (mk08 i)) ⟨by simp only; omega, by simp only; omega, by simpa using hWl, hrn⟩ (by simp only; omega)) (.cons rfl (.cons rfl (.cons rfl (.cons rfl (.cons rfl (.cons rfl (.cons rfl (.cons rfl (.cons rfl (.cons rfl (.cons rfl (.cons rfl (.nil)))))))))))))
    intro hbr
    have hbr := of_decide_eq_false hbr
    refine g_exit rfl ?_
    obtain rfl : j = n := by omega
    rw [Int.toNat_natCast] at hq
    have hWr := rep_full hWl hq
    subst hWr
    refine g_take (BigBut K8 i.toNat (apA8 B8 c)) ?_
    refine g_take (Own 5 1 (.slice la n lc) n (ints .u8 (List.replicate n (mk08 i)))) ?_
    refine g_unfocus (apA8 B8 (fun k => if k = i.toNat then List.replicate n (mk08 i) else c k)) (by simp [apA8, hk]) (fun k _ hki => by simp [apA8, hki]) ?_
    refine g_inBlock ?_
    refine g_region ?_
    refine l_move rfl rfl ?_
    first | refine l_add rfl rfl rfl (w_i64 (by omega) (by omega)) ?_ | refine l_addw rfl rfl rfl ?_
    refine l_assign rfl rfl ?_
    refine l_nil ?_
    refine g_againi (ih (i + 1, fun k => if k = i.toNat then List.replicate n (mk08 i) else c k) ⟨by simp only; omega, by simp only; omega, fun k hk2 => ?_⟩ (by simp only; omega)) (.cons rfl (.cons rfl (.cons rfl (.cons rfl (.nil)))))
    simp only at hk2 ⊢
    by_cases hki : k = i.toNat
    · subst hki
      rw [if_pos rfl, hk, Int.toNat_of_nonneg i0]
    · rw [if_neg hki]; exact hc k (by omega)
  intro hbr
  have hbr := of_decide_eq_false hbr
  refine g_exit rfl ?_
  obtain rfl : i = K8 := by omega
  refine g_take (BigF K8 (apA8 B8 c)) ?_
  refine g_bigcongr (apB8 B8 0 (fun _ => Value.slice none 0 0) (fun _ => Value.slice none 0 0)) (fun k hk => by simp [apA8, apB8, hc k (by omega)]) ?_
  refine g_seq ?_
  refine g_seq ?_
  refine g_region ?_
  refine l_assign rfl rfl ?_
  refine l_nil ?_
  refine g_block ?_
  refine g_loopk (X := Int × (Nat → List Int)) [(0, _), (2, _), (3, _)] (.cons rfl (.cons rfl (.cons rfl (.nil)))) (fun z => 0 ≤ z.1 ∧ z.1 ≤ K ∧ ∀ k : Nat, (k : Int) < z.1 → z.2 k = List.replicate (B k).n (mk0 k)) (fun z => ((K : Int) - z.1).toNat) (fun z => [(10, .int .i64 z.1)]) (fun z => Blk kb (.cells [u0, u1, u2, u3, .slice ka8 K8 kc8, .slice ka K kc].toArray 51 (0, 0)) :: Own 104 4 (.slice ka K kc) K (rowsN K (bkR2 B (fun _ => Value.slice none 0 0) (fun _ => Value.slice none 0 0))) :: BigF K (apA B z.2) :: Own 102 4 (.slice ka8 K8 kc8) K8 (rowsN K8 (bkR28 B8 (fun _ => Value.slice none 0 0) (fun _ => Value.slice none 0 0))) :: BigF K8 (apB8 B8 0 (fun _ => Value.slice none 0 0) (fun _ => Value.slice none 0 0)) :: F) ((0, fun k => (B k).c)) (⟨by simp only; omega, by simp only; omega, fun k hk => by simp only at hk; omega⟩) (.cons rfl .nil) (fun w hw => SPI.holds hw) ?_
  rintro ⟨i, c⟩ ⟨i0, i1, hc⟩ ih
  dsimp only [List.cons_append, List.nil_append] at ih ⊢
  simp only at i0 i1 hc
  refine g_seq ?_
  refine g_seq ?_
  refine g_region ?_
  refine l_move rfl rfl ?_
  refine l_move rfl rfl ?_
  refine l_nilCheck rfl rfl ?_
  refine l_fieldAddr rfl fa_49_1 rfl ?_
  refine l_ld rfl Try.isAgg47 rfl rfl ?_
  refine l_len rfl Try.underlying47 rfl ?_
  refine l_lss rfl rfl rfl ?_
  refine l_nil ?_
  refine g_cond rfl ?_ ?_
  · intro hbr
    have hbr := of_decide_eq_true hbr
    refine g_skip ?_
    refine g_seq ?_
    refine g_block ?_
    refine g_seq ?_
    refine g_region ?_
    refine l_assign rfl rfl ?_
    refine l_nil ?_
    refine g_block ?_
    obtain ⟨gk, rfl⟩ := hka.resolve_left (by omega)
    obtain ⟨⟨la, lc, wa, wc, n, c9⟩, hk⟩ : ∃ x, B i.toNat = x := ⟨_, rfl⟩
    have hbk := hB i.toNat (by omega)
    rw [hk] at hbk
    obtain ⟨hb1, hb2, _, hla, _⟩ := hbk
    simp only at hb1 hb2 hla
    refine g_take (BigF K (apA B c)) ?_
    refine g_focus i.toNat (by omega) ?_
    rw [show apA B c i.toNat = Own 23 1 (.slice la n lc) n (ints .u32 (c i.toNat)) by simp [apA, hk]]
    refine g_fact (fun w hw => Own.len hw (mem_getO 0 rfl)) ?_
    intro hcl
    rw [ints_length, Nat.mul_one] at hcl
    refine g_loopk (X := Int × List Int) [(0, _), (2, _), (3, _), (10, _), (126, _), (127, _), (128, _), (129, _), (130, _), (131, _), (132, _)] (.cons rfl (.cons rfl (.cons rfl (.cons rfl (.cons rfl (.cons rfl (.cons rfl (.cons rfl (.cons rfl (.cons rfl (.cons rfl (.nil)))))))))))) (fun z => 0 ≤ z.1 ∧ z.1 ≤ n ∧ z.2.length = n ∧ ∀ q, q < z.1.toNat → z.2.getD q 0 = mk0 i) (fun z => (n - z.1).toNat) (fun z => [(11, .int .i64 z.1)]) (fun z => Own 23 1 (.slice la n lc) n (ints .u32 z.2) :: BigBut K i.toNat (apA B c) :: Blk kb (.cells [u0, u1, u2, u3, .slice ka8 K8 kc8, .slice (some ⟨gk, 0, none⟩) K kc].toArray 51 (0, 0)) :: Own 104 4 (.slice (some ⟨gk, 0, none⟩) K kc) K (rowsN K (bkR2 B (fun _ => Value.slice none 0 0) (fun _ => Value.slice none 0 0))) :: Own 102 4 (.slice ka8 K8 kc8) K8 (rowsN K8 (bkR28 B8 (fun _ => Value.slice none 0 0) (fun _ => Value.slice none 0 0))) :: BigF K8 (apB8 B8 0 (fun _ => Value.slice none 0 0) (fun _ => Value.slice none 0 0)) :: F) ((0, c i.toNat)) (⟨by simp only; omega, by simp only; omega, hcl, fun q hq => by simp only at hq; omega⟩) (.cons rfl .nil) (fun w hw => SPI.holds hw) ?_
    rintro ⟨j, W⟩ ⟨j0, j1, hWl, hq⟩ ihj
    dsimp only [List.cons_append, List.nil_append] at ihj ⊢
    simp only at j0 j1 hWl hq
    refine g_seq ?_
    refine g_seq ?_
    refine g_region ?_
    refine l_move rfl rfl ?_
    refine l_move rfl rfl ?_
    refine l_nilCheck rfl rfl ?_
    refine l_fieldAddr rfl fa_49_1 rfl ?_
    refine l_ld rfl Try.isAgg47 rfl rfl ?_
    refine l_move rfl rfl ?_
    refine l_ixs rfl Try.underlying47 Try.sizeOf104 rfl rfl (by omega) (by omega) ?_
    refine l_fieldAddr rfl fa_104_0 rfl ?_
    refine l_loadc (v := .slice la n lc) rfl Try.isAgg54 rfl (rn_cell (k := i.toNat) (j := 0) (by first | exact mem_getO 0 rfl | exact mem_getO 1 rfl | exact mem_getO 2 rfl | exact mem_getO 3 rfl | exact mem_getO 4 rfl | exact mem_getO 5 rfl | exact mem_getO 6 rfl | exact mem_getO 7 rfl) (bkR2_len B _ _ K) (by omega) (by decide) (by simp [bkR2, hk])) ?_
    refine l_len rfl Try.underlying54 rfl ?_
    refine l_lss rfl rfl rfl ?_
    refine l_nil ?_
    refine g_cond rfl ?_ ?_
    · intro hbr
      have hbr := of_decide_eq_true hbr
      refine g_skip ?_
      refine g_seq ?_
      refine g_block ?_
      refine g_region ?_
      refine l_move rfl rfl ?_
      refine l_nilCheck rfl rfl ?_
      refine l_fieldAddr rfl fa_49_1 rfl ?_
      refine l_ld rfl Try.isAgg47 rfl rfl ?_
      refine l_move rfl rfl ?_
      refine l_ixs rfl Try.underlying47 Try.sizeOf104 rfl rfl (by omega) (by omega) ?_
      refine l_fieldAddr rfl fa_104_0 rfl ?_
      refine l_loadc (v := .slice la n lc) rfl Try.isAgg54 rfl (rn_cell (k := i.toNat) (j := 0) (by first | exact mem_getO 0 rfl | exact mem_getO 1 rfl | exact mem_getO 2 rfl | exact mem_getO 3 rfl | exact mem_getO 4 rfl | exact mem_getO 5 rfl | exact mem_getO 6 rfl | exact mem_getO 7 rfl) (bkR2_len B _ _ K) (by omega) (by decide) (by simp [bkR2, hk])) ?_
      refine l_move rfl rfl ?_
      refine l_move rfl rfl ?_
      refine l_mul rfl rfl rfl (w_i64 (by omega) (by omega)) ?_
      refine l_convm (m := 4294967296) rfl wr_u32 Try.underlying3 Try.underlying23 rfl ?_
      refine l_addm (m := 4294967296) rfl wr_u32 rfl rfl ?_
      rw [show (2 * i % 4294967296 + 2684354561) % 4294967296 = mk0 i from rfl]
      obtain ⟨g9, rfl⟩ := hla.resolve_left (by omega)
      refine l_ixs rfl Try.underlying54 Try.sizeOf23 rfl rfl (by omega) (by omega) ?_
      refine l_take (Own 23 1 (.slice (some ⟨g9, 0, none⟩) n lc) n (ints .u32 W)) ?_
      refine l_storew 0 Try.sizeOf23 rfl rfl rfl (by omega) rfl ?_
      refine l_nil ?_
      refine g_inBlock ?_
      refine g_region ?_
      refine l_move rfl rfl ?_
      first | refine l_add rfl rfl rfl (w_i64 (by omega) (by omega)) ?_ | refine l_addw rfl rfl rfl ?_
      refine l_assign rfl rfl ?_
      refine l_nil ?_
      have hrn := rep_next hWl hq (show j.toNat < n by omega)
      rw [show j.toNat + 1 = (j + 1).toNat by omega] at hrn
      exact g_againi (ihj (j + 1, W.set j.toNat (mk0 i)) ⟨by simp only; omega, by simp only; omega, by simpa using hWl, hrn⟩ (by simp only; omega)) (.cons rfl (.cons rfl (.cons rfl (.cons rfl (.cons rfl (.cons rfl (.cons rfl (.cons rfl (.cons rfl (.cons rfl (.cons rfl (.cons rfl (.nil)))))))))))))
    intro hbr
    have hbr := of_decide_eq_false hbr
    refine g_exit rfl ?_
    obtain rfl : j = n := by omega
    rw [Int.toNat_natCast] at hq
    have hWr := rep_full hWl hq
    subst hWr
    refine g_take (BigBut K i.toNat (apA B c)) ?_
    refine g_take (Own 23 1 (.slice la n lc) n (ints .u32 (List.replicate n (mk0 i)))) ?_
    refine g_unfocus (apA B (fun k => if k = i.toNat then List.replicate n (mk0 i) else c k)) (by simp [apA, hk]) (fun k _ hki => by simp [apA, hki]) ?_
    refine g_inBlock ?_
    refine g_region ?_
    refine l_move rfl rfl ?_
    first | refine l_add rfl rfl rfl (w_i64 (by omega) (by omega)) ?_ | refine l_addw rfl rfl rfl ?_
    refine l_assign rfl rfl ?_
    refine l_nil ?_
    refine g_againi (ih (i + 1, fun k => if k = i.toNat then List.replicate n (mk0 i) else c k) ⟨by simp only; omega, by simp only; omega, fun k hk2 => ?_⟩ (by simp only; omega)) (.cons rfl (.cons rfl (.cons rfl (.cons rfl (.nil)))))
    simp only at hk2 ⊢
    by_cases hki : k = i.toNat
    · subst hki
      rw [if_pos rfl, hk, Int.toNat_of_nonneg i0]
    · rw [if_neg hki]; exact hc k (by omega)
  intro hbr
  have hbr := of_decide_eq_false hbr
  refine g_exit rfl ?_
  obtain rfl : i = K := by omega
  refine g_take (BigF K (apA B c)) ?_
  refine g_bigcongr (apB B 0 (fun _ => Value.slice none 0 0) (fun _ => Value.slice none 0 0)) (fun k hk => by simp [apA, apB, hc k (by omega)]) ?_
  refine g_seq ?_
  refine g_seq ?_
  refine g_region ?_
  refine l_assign rfl rfl ?_
  refine l_nil ?_
  refine g_block ?_
  refine g_loopk (X := Int × (Nat → Value) × (Nat → Value)) [(0, _), (2, _), (3, _)] (.cons rfl (.cons rfl (.cons rfl (.nil)))) (fun z => 0 ≤ z.1 ∧ z.1 ≤ K8) (fun z => ((K8 : Int) - z.1).toNat) (fun z => [(12, .int .i64 z.1)]) (fun z => Blk kb (.cells [u0, u1, u2, u3, .slice ka8 K8 kc8, .slice ka K kc].toArray 51 (0, 0)) :: Own 102 4 (.slice ka8 K8 kc8) K8 (rowsN K8 (bkR28 B8 z.2.1 z.2.2)) :: BigF K8 (apB8 B8 z.1.toNat z.2.1 z.2.2) :: Own 104 4 (.slice ka K kc) K (rowsN K (bkR2 B (fun _ => Value.slice none 0 0) (fun _ => Value.slice none 0 0))) :: BigF K (apB B 0 (fun _ => Value.slice none 0 0) (fun _ => Value.slice none 0 0)) :: F) ((0, (fun _ => Value.slice none 0 0), (fun _ => Value.slice none 0 0))) (⟨by simp only; omega, by simp only; omega⟩) (.cons rfl .nil) (fun w hw => (SPI.holds hw : Holds w0 (Blk kb (.cells [u0, u1, u2, u3, .slice ka8 K8 kc8, .slice ka K kc].toArray 51 (0, 0)) :: Own 102 4 (.slice ka8 K8 kc8) K8 (rowsN K8 (bkR28 B8 (fun _ => Value.slice none 0 0) (fun _ => Value.slice none 0 0))) :: BigF K8 (apB8 B8 0 (fun _ => Value.slice none 0 0) (fun _ => Value.slice none 0 0)) :: Own 104 4 (.slice ka K kc) K (rowsN K (bkR2 B (fun _ => Value.slice none 0 0) (fun _ => Value.slice none 0 0))) :: BigF K (apB B 0 (fun _ => Value.slice none 0 0) (fun _ => Value.slice none 0 0)) :: F) w)) ?_
  rintro ⟨i, X8, Y8⟩ ⟨i0, i1⟩ ih
  dsimp only [List.cons_append, List.nil_append] at ih ⊢
  simp only at i0 i1
  refine g_seq ?_
  refine g_seq ?_
  refine g_region ?_
  refine l_move rfl rfl ?_
  refine l_move rfl rfl ?_
  refine l_nilCheck rfl rfl ?_
  refine l_fieldAddr rfl fa_49_0 rfl ?_
  refine l_ld rfl Try.isAgg46 rfl rfl ?_
  refine l_len rfl Try.underlying46 rfl ?_
  refine l_lss rfl rfl rfl ?_
  refine l_nil ?_
  refine g_cond rfl ?_ ?_
  · intro hbr
    have hbr := of_decide_eq_true hbr
    refine g_skip ?_
    refine g_seq ?_
    refine g_block ?_
    refine g_seq ?_
    refine g_region ?_
    obtain ⟨gk8, rfl⟩ := hka8.resolve_left (by omega)
    obtain ⟨⟨la, lc, wa, wc, n, c9⟩, hk⟩ : ∃ x, B8 i.toNat = x := ⟨_, rfl⟩
    have hbk := hB8 i.toNat (by omega)
    rw [hk] at hbk
    obtain ⟨hb1, hb2, _, hla, _⟩ := hbk
    simp only at hb1 hb2 hla
    refine l_move rfl rfl ?_
    refine l_nilCheck rfl rfl ?_
    refine l_fieldAddr rfl fa_49_0 rfl ?_
    refine l_ld rfl Try.isAgg46 rfl rfl ?_
    refine l_move rfl rfl ?_
    refine l_ixs rfl Try.underlying46 Try.sizeOf102 rfl rfl (by omega) (by omega) ?_
    refine l_fieldAddr rfl fa_102_0 rfl ?_
    refine l_loadc (v := .slice la n lc) rfl Try.isAgg36 rfl (rn_cell (k := i.toNat) (j := 0) (by first | exact mem_getO 0 rfl | exact mem_getO 1 rfl | exact mem_getO 2 rfl | exact mem_getO 3 rfl | exact mem_getO 4 rfl | exact mem_getO 5 rfl | exact mem_getO 6 rfl | exact mem_getO 7 rfl) (bkR2_len8 B8 _ _ K8) (by omega) (by decide) (by simp [bkR28, hk])) ?_
    refine l_assign rfl rfl ?_
    refine l_nil ?_
    refine g_seq ?_
    refine g_region ?_
    refine l_assign rfl rfl ?_
    refine l_nil ?_
    refine g_seq ?_
    refine g_seq ?_
    refine g_region ?_
    refine l_assign rfl rfl ?_
    refine l_nil ?_
    refine g_block ?_
    refine g_take (BigF K8 (apB8 B8 i.toNat X8 Y8)) ?_
    refine g_focus i.toNat (by omega) ?_
    rw [apB_now8 hk, Int.toNat_of_nonneg i0]
    refine g_fam (ints .u8 (List.replicate n (mk08 i) ++ List.replicate 64 (mg08 i))) (fun q hq => by rw [rr_get8 (by omega), if_pos (by omega), r_get8 (by omega)]) (by rw [rr_len8]; omega) ?_
    refine g_heap (fun w hw => Fam.mono (vs' := [(.slice la n lc, n + min (0 : Int).toNat 17), (.slice la n lc, n)]) hw (fun p hp => by simpa using hp)) ?_
    refine g_own_nil 5 1 ?_
    refine g_loopk (X := Int × Value × Value) [(0, _), (2, _), (3, _), (12, _), (162, _), (163, _), (164, _), (165, _), (166, _), (167, _), (168, _), (171, _), (172, _), (173, _), (174, _), (175, _), (176, _), (177, _), (178, _)] (.cons rfl (.cons rfl (.cons rfl (.cons rfl (.cons rfl (.cons rfl (.cons rfl (.cons rfl (.cons rfl (.cons rfl (.cons rfl (.cons rfl (.cons rfl (.cons rfl (.cons rfl (.cons rfl (.cons rfl (.cons rfl (.cons rfl (.nil)))))))))))))))))))) (fun z => 0 ≤ z.1 ∧ z.1 ≤ 64) (fun z => (64 - z.1).toNat) (fun z => [(13, z.2.1), (14, z.2.2), (15, .int .i64 z.1)]) (fun z => Fam 5 1 (ints .u8 (List.replicate n (mk08 i) ++ List.replicate 64 (mg08 i))) [(z.2.1, n + min z.1.toNat 17), (.slice la n lc, n)] :: Own 5 1 z.2.2 z.1.toNat (ints .u8 (List.replicate z.1.toNat (mg08 i))) :: BigBut K8 i.toNat (apB8 B8 i.toNat X8 Y8) :: Blk kb (.cells [u0, u1, u2, u3, .slice (some ⟨gk8, 0, none⟩) K8 kc8, .slice ka K kc].toArray 51 (0, 0)) :: Own 102 4 (.slice (some ⟨gk8, 0, none⟩) K8 kc8) K8 (rowsN K8 (bkR28 B8 X8 Y8)) :: Own 104 4 (.slice ka K kc) K (rowsN K (bkR2 B (fun _ => Value.slice none 0 0) (fun _ => Value.slice none 0 0))) :: BigF K (apB B 0 (fun _ => Value.slice none 0 0) (fun _ => Value.slice none 0 0)) :: F) ((0, .slice la n lc, .slice none 0 0)) (⟨by simp only; omega, by simp only; omega⟩) (.cons rfl (.cons rfl (.cons rfl .nil))) (fun w hw => (SPI.holds hw : Holds w0 (Fam 5 1 (ints .u8 (List.replicate n (mk08 i) ++ List.replicate 64 (mg08 i))) [(.slice la n lc, n + min (0 : Int).toNat 17), (.slice la n lc, n)] :: Own 5 1 (.slice none 0 0) 0 [] :: BigBut K8 i.toNat (apB8 B8 i.toNat X8 Y8) :: Blk kb (.cells [u0, u1, u2, u3, .slice (some ⟨gk8, 0, none⟩) K8 kc8, .slice ka K kc].toArray 51 (0, 0)) :: Own 102 4 (.slice (some ⟨gk8, 0, none⟩) K8 kc8) K8 (rowsN K8 (bkR28 B8 X8 Y8)) :: Own 104 4 (.slice ka K kc) K (rowsN K (bkR2 B (fun _ => Value.slice none 0 0) (fun _ => Value.slice none 0 0))) :: BigF K (apB B 0 (fun _ => Value.slice none 0 0) (fun _ => Value.slice none 0 0)) :: F) w)) ?_
    rintro ⟨j, g, mo⟩ ⟨j0, j1⟩ ihj
    dsimp only [List.cons_append, List.nil_append] at ihj ⊢
    simp only at j0 j1
    refine g_seq ?_
    refine g_seq ?_
    refine g_region ?_
    refine l_move rfl rfl ?_
    refine l_lss rfl rfl rfl ?_
    refine l_nil ?_
    refine g_cond rfl ?_ ?_
    · intro hbr
      have hbr := of_decide_eq_true hbr
      refine g_skip ?_
      refine g_seq ?_
      refine g_block ?_
      refine g_seq ?_
      refine g_seq ?_
      refine g_region ?_
      refine l_move rfl rfl ?_
      refine l_lss rfl rfl rfl ?_
      refine l_nil ?_
      refine g_cond rfl ?_ ?_
      · intro hbr
        have hbr := of_decide_eq_true hbr
        refine g_region ?_
        refine l_move rfl rfl ?_
        refine l_move rfl rfl ?_
        refine l_mul rfl rfl rfl (w_i64 (by omega) (by omega)) ?_
        refine l_add rfl rfl rfl (w_i64 (by omega) (by omega)) ?_
        refine l_convm (m := 256) rfl wr_u8 Try.underlying3 Try.underlying5 rfl ?_
        rw [show (2 * i + 2) % 256 = mg08 i from rfl]
        refine l_buildSlice rfl Try.underlying36 Try.sizeOf5 Try.zeroValue5 rfl rfl rfl rfl rfl rfl ?_; intro b190
        refine l_append_fam 1 (sz := 1) (by_ := 1) (m := n + min j.toNat 17) (m2 := 1) (news := [.int .u8 (mg08 i)]) rfl Try.underlying36 Try.type5 rfl rfl rfl rfl rfl rfl rfl rfl (List.mem_cons_self ..) ⟨rfl, .inl ⟨_, _, _, rfl, .own (mem_getO 0 rfl)⟩⟩ (by omega) rfl (fun q hq => by
          have : q = 0 := by simp at hq; omega
          subst this
          rw [rr_get8 (by omega), if_neg (by omega)]; rfl) (by rw [rr_len8]; omega) (by omega) (by simp only [maxLen]; omega) (fun _ => rfl) ?_; intro v191
        refine l_assign rfl rfl ?_
        refine l_nil ?_
        refine g_region ?_
        refine l_move rfl rfl ?_
        refine l_move rfl rfl ?_
        refine l_mul rfl rfl rfl (w_i64 (by omega) (by omega)) ?_
        refine l_add rfl rfl rfl (w_i64 (by omega) (by omega)) ?_
        refine l_convm (m := 256) rfl wr_u8 Try.underlying3 Try.underlying5 rfl ?_
        rw [show (2 * i + 2) % 256 = mg08 i from rfl]
        refine l_buildSlice rfl Try.underlying36 Try.sizeOf5 Try.zeroValue5 rfl rfl rfl rfl rfl rfl ?_; intro b197
        refine l_fronto b197 ?_
        refine l_frontv mo ?_
        refine l_appendw 0 (by_ := 1) (W := [mg08 i]) (V := List.replicate j.toNat (mg08 i)) (m3 := (j + 1).toNat) (V3 := List.replicate (j + 1).toNat (mg08 i)) rfl Try.underlying36 Try.type5 rfl rfl rfl rfl rfl rfl rfl ⟨rfl, .inl ⟨_, _, _, rfl, .own (mem_getO 1 rfl)⟩⟩ (by omega) (by simp only [maxLen]; omega) (by omega) (by rw [show (j + 1).toNat = j.toNat + 1 by omega]; exact rep_snoc _ _) (fun _ => rfl) ?_; intro v198 hv119
        refine l_assign rfl rfl ?_
        refine l_nil ?_
        refine g_inBlock ?_
        refine g_region ?_
        refine l_move rfl rfl ?_
        first | refine l_add rfl rfl rfl (w_i64 (by omega) (by omega)) ?_ | refine l_addw rfl rfl rfl ?_
        refine l_assign rfl rfl ?_
        refine l_nil ?_
        (first
          | (have hmn : n + min j.toNat 17 + 1 = n + min (j + 1).toNat 17 := by omega
             refine g_frontv_fam8 ?_
             rw [hmn]
             refine g_famsub (vs' := [(v191, n + min (j + 1).toNat 17), (.slice la n lc, n)]) (fun p hp => by rcases List.mem_cons.1 hp with rfl | hp <;> simp_all) ?_
             exact g_againi (ihj (j + 1, v191, v198) ⟨by simp only; omega, by simp only; omega⟩ (by simp only; omega)) (.cons rfl (.cons rfl (.cons rfl (.cons rfl (.cons rfl (.cons rfl (.cons rfl (.cons rfl (.cons rfl (.cons rfl (.cons rfl (.cons rfl (.cons rfl (.cons rfl (.cons rfl (.cons rfl (.cons rfl (.cons rfl (.cons rfl (.cons rfl (.cons rfl (.cons rfl (.nil))))))))))))))))))))))))
          | (have hmn : n + min j.toNat 17 = n + min (j + 1).toNat 17 := by omega
             rw [hmn]
             exact g_againi (ihj (j + 1, g, v198) ⟨by simp only; omega, by simp only; omega⟩ (by simp only; omega)) (.cons rfl (.cons rfl (.cons rfl (.cons rfl (.cons rfl (.cons rfl (.cons rfl (.cons rfl (.cons rfl (.cons rfl (.cons rfl (.cons rfl (.cons rfl (.cons rfl (.cons rfl (.cons rfl (.cons rfl (.cons rfl (.cons rfl (.cons rfl (.cons rfl (.cons rfl (.nil)))))))))))))))))))))))))
      intro hbr
      have hbr := of_decide_eq_false hbr
      refine g_skip ?_
      refine g_region ?_
      refine l_move rfl rfl ?_
      refine l_move rfl rfl ?_
      refine l_mul rfl rfl rfl (w_i64 (by omega) (by omega)) ?_
      refine l_add rfl rfl rfl (w_i64 (by omega) (by omega)) ?_
      refine l_convm (m := 256) rfl wr_u8 Try.underlying3 Try.underlying5 rfl ?_
      rw [show (2 * i + 2) % 256 = mg08 i from rfl]
      refine l_buildSlice rfl Try.underlying36 Try.sizeOf5 Try.zeroValue5 rfl rfl rfl rfl rfl rfl ?_; intro b197
      refine l_fronto b197 ?_
      refine l_frontv mo ?_
      refine l_appendw 0 (by_ := 1) (W := [mg08 i]) (V := List.replicate j.toNat (mg08 i)) (m3 := (j + 1).toNat) (V3 := List.replicate (j + 1).toNat (mg08 i)) rfl Try.underlying36 Try.type5 rfl rfl rfl rfl rfl rfl rfl ⟨rfl, .inl ⟨_, _, _, rfl, .own (mem_getO 1 rfl)⟩⟩ (by omega) (by simp only [maxLen]; omega) (by omega) (by rw [show (j + 1).toNat = j.toNat + 1 by omega]; exact rep_snoc _ _) (fun _ => rfl) ?_; intro v198 hv119
      refine l_assign rfl rfl ?_
      refine l_nil ?_
      refine g_inBlock ?_
      refine g_region ?_
      refine l_move rfl rfl ?_
      first | refine l_add rfl rfl rfl (w_i64 (by omega) (by omega)) ?_ | refine l_addw rfl rfl rfl ?_
      refine l_assign rfl rfl ?_
      refine l_nil ?_
      (first
        | (have hmn : n + min j.toNat 17 + 1 = n + min (j + 1).toNat 17 := by omega
           refine g_frontv_fam8 ?_
           rw [hmn]
           refine g_famsub (vs' := [(v191, n + min (j + 1).toNat 17), (.slice la n lc, n)]) (fun p hp => by rcases List.mem_cons.1 hp with rfl | hp <;> simp_all) ?_
           exact g_againi (ihj (j + 1, v191, v198) ⟨by simp only; omega, by simp only; omega⟩ (by simp only; omega)) (.cons rfl (.cons rfl (.cons rfl (.cons rfl (.cons rfl (.cons rfl (.cons rfl (.cons rfl (.cons rfl (.cons rfl (.cons rfl (.cons rfl (.cons rfl (.cons rfl (.cons rfl (.cons rfl (.cons rfl (.cons rfl (.cons rfl (.cons rfl (.cons rfl (.cons rfl (.nil))))))))))))))))))))))))
        | (have hmn : n + min j.toNat 17 = n + min (j + 1).toNat 17 := by omega
           rw [hmn]
           exact g_againi (ihj (j + 1, g, v198) ⟨by simp only; omega, by simp only; omega⟩ (by simp only; omega)) (.cons rfl (.cons rfl (.cons rfl (.cons rfl (.cons rfl (.cons rfl (.cons rfl (.cons rfl (.cons rfl (.cons rfl (.cons rfl (.cons rfl (.cons rfl (.cons rfl (.cons rfl (.cons rfl (.cons rfl (.cons rfl (.cons rfl (.cons rfl (.cons rfl (.cons rfl (.nil)))))))))))))))))))))))))
    intro hbr
    have hbr := of_decide_eq_false hbr
    refine g_exit rfl ?_
    obtain rfl : j = 64 := by omega
    refine g_fact (fam_slice (mem_getO 0 rfl) (List.mem_cons_self ..)) ?_
    rintro ⟨ag, cg, rfl, hag, hgl, hgm⟩
    refine g_fact (own_slice (mem_getO 1 rfl)) ?_
    rintro ⟨am, cm, rfl, ham⟩
    obtain ⟨gm, rfl⟩ := ham.resolve_left (by decide)
    rw [show min (64 : Int).toNat 17 = 17 by decide] at hag hgl hgm ⊢
    rw [show (64 : Int).toNat = 64 by decide]
    refine g_seq ?_
    refine g_region ?_
    refine l_move rfl rfl ?_
    refine l_nilCheck rfl rfl ?_
    refine l_fieldAddr rfl fa_49_0 rfl ?_
    refine l_ld rfl Try.isAgg46 rfl rfl ?_
    refine l_move rfl rfl ?_
    refine l_move rfl rfl ?_
    refine l_ixs rfl Try.underlying46 Try.sizeOf102 rfl rfl (by omega) (by omega) ?_
    refine l_fieldAddr rfl fa_102_2 rfl ?_
    refine l_take (Own 102 4 (.slice (some ⟨gk8, 0, none⟩) K8 kc8) K8 (rowsN K8 (bkR28 B8 X8 Y8))) ?_
    refine l_storeo 0 Try.sizeOf36 rfl rfl rfl rfl (by rw [rowsN_len (bkR2_len8 B8 X8 Y8 K8)]; omega) rfl ?_
    rw [bkR2_X8 (by omega)]
    refine l_nil ?_
    refine gp_start mo (by kernel_rfl) (by kernel_rfl) ?_
    refine gp_quiet 0 rfl rfl rfl rfl rfl rfl (q_move rfl) ?_
    refine gp_quiet 1 rfl rfl rfl rfl rfl rfl (q_nilCheck rfl) ?_
    refine gp_quiet 2 rfl rfl rfl rfl rfl rfl (q_fieldAddr fa_49_0 rfl) ?_
    refine gp_quiet 3 rfl rfl rfl rfl rfl rfl (q_ld Try.isAgg46 rfl rfl) ?_
    refine gp_quiet 4 rfl rfl rfl rfl rfl rfl (q_move rfl) ?_
    refine gp_quiet 5 rfl rfl rfl rfl rfl rfl (q_move rfl) ?_
    refine gp_quiet 6 rfl rfl rfl rfl rfl rfl (q_nilCheck rfl) ?_
    refine gp_quiet 7 rfl rfl rfl rfl rfl rfl (q_fieldAddr fa_49_0 rfl) ?_
    refine gp_quiet 8 rfl rfl rfl rfl rfl rfl (q_ld Try.isAgg46 rfl rfl) ?_
    refine gp_quiet 9 rfl rfl rfl rfl rfl rfl (q_move rfl) ?_
    refine gp_quiet 10 rfl rfl rfl rfl rfl rfl (q_ixs Try.underlying46 Try.sizeOf102 rfl rfl (by omega) (by omega)) ?_
    refine gp_quiet 11 rfl rfl rfl rfl rfl rfl (q_fieldAddr fa_102_0 rfl) ?_
    refine gp_quiet 12 rfl rfl rfl rfl rfl rfl (q_loadc (v := .slice la n lc) Try.isAgg36 rfl (rn_cell (k := i.toNat) (j := 0) (by first | exact mem_getO 0 rfl | exact mem_getO 1 rfl | exact mem_getO 2 rfl | exact mem_getO 3 rfl | exact mem_getO 4 rfl | exact mem_getO 5 rfl | exact mem_getO 6 rfl | exact mem_getO 7 rfl) (bkR2_len8 B8 _ _ K8) (by omega) (by decide) (by simp [bkR28, hk]))) ?_
    refine gp_quiet 13 rfl rfl rfl rfl rfl rfl (q_move rfl) ?_
    refine gp_frontf8 ?_
    refine gp_effa 14 [12, 13] [11, 10, 9, 8, 7, 6, 5, 4, 3, 2, 1, 0] rfl rfl rfl rfl rfl rfl rfl (does_append_fam 0 (sz := 1) (by_ := 1) (m := n) (m2 := 64) (m3 := n + 64) (news := ints .u8 (List.replicate 64 (mg08 i))) Try.underlying36 Try.type5 rfl rfl rfl rfl rfl rfl rfl rfl (List.mem_cons_of_mem _ (List.mem_cons_self ..)) ⟨rfl, .inl ⟨_, _, _, rfl, .own (OwnIn.mem (g := gm))⟩⟩ (by omega) (ints_scalar _ _) (fun q hq => by rw [ints_length, List.length_replicate] at hq; rw [rr_get8 (by omega), if_neg (by omega), r_get8 hq]) (by rw [rr_len8]; omega) (by omega) (by simp only [maxLen]; omega) rfl (fun _ => rfl)) ?_
    rintro _ _ ⟨a5, c5, rfl, ha5, rfl⟩
    refine ⟨?_, ?_⟩
    · refine .cons rfl rfl rfl rfl rfl (q_fieldAddr fa_102_0 rfl) ?_
      refine .cons rfl rfl rfl rfl rfl (q_ixs Try.underlying46 Try.sizeOf102 rfl rfl (by omega) (by omega)) ?_
      refine .cons rfl rfl rfl rfl rfl (q_move rfl) ?_
      refine .cons rfl rfl rfl rfl rfl (q_ld Try.isAgg46 rfl rfl) ?_
      refine .cons rfl rfl rfl rfl rfl (q_fieldAddr fa_49_0 rfl) ?_
      refine .cons rfl rfl rfl rfl rfl (q_nilCheck rfl) ?_
      refine .cons rfl rfl rfl rfl rfl (q_move rfl) ?_
      refine .cons rfl rfl rfl rfl rfl (q_move rfl) ?_
      refine .cons rfl rfl rfl rfl rfl (q_ld Try.isAgg46 rfl rfl) ?_
      refine .cons rfl rfl rfl rfl rfl (q_fieldAddr fa_49_0 rfl) ?_
      refine .cons rfl rfl rfl rfl rfl (q_nilCheck rfl) ?_
      refine .cons rfl rfl rfl rfl rfl (q_move rfl) ?_
      exact .nil
    refine gp_quiet 15 rfl rfl rfl rfl rfl rfl (q_ixs Try.underlying46 Try.sizeOf102 rfl rfl (by omega) (by omega)) ?_
    refine gp_quiet 16 rfl rfl rfl rfl rfl rfl (q_fieldAddr fa_102_3 rfl) ?_
    refine gp_take (Own 102 4 (.slice (some ⟨gk8, 0, none⟩) K8 kc8) K8 (rowsN K8 (bkR28 B8 (upF X8 i.toNat (.slice ag (n + 17) cg)) Y8))) ?_
    refine gp_effa 17 [0, 1, 2, 3, 4, 5, 6, 7, 8, 9, 10, 11, 16] [15] rfl rfl rfl rfl rfl rfl rfl (does_storeo 0 Try.sizeOf36 rfl rfl rfl rfl (by rw [rowsN_len (bkR2_len8 B8 _ _ K8)]; omega) rfl) ?_
    rintro _ _ ⟨rfl, rfl⟩
    rw [bkR2_Y8 (by omega)]
    refine ⟨?_, ?_⟩
    · refine .cons rfl rfl rfl rfl rfl (q_ixs Try.underlying46 Try.sizeOf102 rfl rfl (by omega) (by omega)) ?_
      exact .nil
    refine gp_end rfl rfl ?_
    refine g_inBlock ?_
    refine g_region ?_
    refine l_move rfl rfl ?_
    first | refine l_add rfl rfl rfl (w_i64 (by omega) (by omega)) ?_ | refine l_addw rfl rfl rfl ?_
    refine l_assign rfl rfl ?_
    refine l_nil ?_
    have hin : i.toNat + 1 = (i + 1).toNat := by omega
    refine g_take (BigBut K8 i.toNat (apB8 B8 i.toNat X8 Y8)) ?_
    refine g_frontv_fam8 ?_
    refine g_famsub (vs' := [(.slice a5 (n + 64) c5, n + 64), (.slice ag (n + 17) cg, n + 17), (.slice la n lc, n)]) (fun p hp => by simp only [List.mem_cons, List.not_mem_nil, or_false] at hp ⊢; rcases hp with rfl | rfl | rfl <;> simp) ?_
    refine g_unfocus (apB8 B8 (i + 1).toNat (upF X8 i.toNat (.slice ag (n + 17) cg)) (upF Y8 i.toNat (.slice a5 (n + 64) c5))) (by rw [← hin, apB_done8 hk, Int.toNat_of_nonneg i0]) (fun k _ hki => by rw [← hin]; exact apB_keep8 hki) ?_
    exact g_againi (ih (i + 1, upF X8 i.toNat (.slice ag (n + 17) cg), upF Y8 i.toNat (.slice a5 (n + 64) c5)) ⟨by simp only; omega, by simp only; omega⟩ (by simp only; omega)) (.cons rfl (.cons rfl (.cons rfl (.cons rfl (.nil)))))
  intro hbr
  have hbr := of_decide_eq_false hbr
  refine g_exit rfl ?_
  obtain rfl : i = K8 := by omega
  rw [Int.toNat_natCast]
  refine g_seq ?_
  refine g_seq ?_
  refine g_region ?_
  refine l_assign rfl rfl ?_
  refine l_nil ?_
  refine g_block ?_
  refine g_loopk (X := Int × (Nat → Value) × (Nat → Value)) [(0, _), (2, _), (3, _)] (.cons rfl (.cons rfl (.cons rfl (.nil)))) (fun z => 0 ≤ z.1 ∧ z.1 ≤ K) (fun z => ((K : Int) - z.1).toNat) (fun z => [(16, .int .i64 z.1)]) (fun z => Blk kb (.cells [u0, u1, u2, u3, .slice ka8 K8 kc8, .slice ka K kc].toArray 51 (0, 0)) :: Own 104 4 (.slice ka K kc) K (rowsN K (bkR2 B z.2.1 z.2.2)) :: BigF K (apB B z.1.toNat z.2.1 z.2.2) :: Own 102 4 (.slice ka8 K8 kc8) K8 (rowsN K8 (bkR28 B8 X8 Y8)) :: BigF K8 (apB8 B8 K8 X8 Y8) :: F) ((0, (fun _ => Value.slice none 0 0), (fun _ => Value.slice none 0 0))) (⟨by simp only; omega, by simp only; omega⟩) (.cons rfl .nil) (fun w hw => (SPI.holds hw : Holds w0 (Blk kb (.cells [u0, u1, u2, u3, .slice ka8 K8 kc8, .slice ka K kc].toArray 51 (0, 0)) :: Own 104 4 (.slice ka K kc) K (rowsN K (bkR2 B (fun _ => Value.slice none 0 0) (fun _ => Value.slice none 0 0))) :: BigF K (apB B 0 (fun _ => Value.slice none 0 0) (fun _ => Value.slice none 0 0)) :: Own 102 4 (.slice ka8 K8 kc8) K8 (rowsN K8 (bkR28 B8 X8 Y8)) :: BigF K8 (apB8 B8 K8 X8 Y8) :: F) w)) ?_
  rintro ⟨i, X, Y⟩ ⟨i0, i1⟩ ih
  dsimp only [List.cons_append, List.nil_append] at ih ⊢
  simp only at i0 i1
  refine g_seq ?_
  refine g_seq ?_
  refine g_region ?_
  refine l_move rfl rfl ?_
  refine l_move rfl rfl ?_
  refine l_nilCheck rfl rfl ?_
  refine l_fieldAddr rfl fa_49_1 rfl ?_
  refine l_ld rfl Try.isAgg47 rfl rfl ?_
  refine l_len rfl Try.underlying47 rfl ?_
  refine l_lss rfl rfl rfl ?_
  refine l_nil ?_
  refine g_cond rfl ?_ ?_
  · intro hbr
    have hbr := of_decide_eq_true hbr
    refine g_skip ?_
    refine g_seq ?_
    refine g_block ?_
    refine g_seq ?_
    refine g_region ?_
    obtain ⟨gk, rfl⟩ := hka.resolve_left (by omega)
    obtain ⟨⟨la, lc, wa, wc, n, c9⟩, hk⟩ : ∃ x, B i.toNat = x := ⟨_, rfl⟩
    have hbk := hB i.toNat (by omega)
    rw [hk] at hbk
    obtain ⟨hb1, hb2, _, hla, _⟩ := hbk
    simp only at hb1 hb2 hla
    refine l_move rfl rfl ?_
    refine l_nilCheck rfl rfl ?_
    refine l_fieldAddr rfl fa_49_1 rfl ?_
    refine l_ld rfl Try.isAgg47 rfl rfl ?_
    refine l_move rfl rfl ?_
    refine l_ixs rfl Try.underlying47 Try.sizeOf104 rfl rfl (by omega) (by omega) ?_
    refine l_fieldAddr rfl fa_104_0 rfl ?_
    refine l_loadc (v := .slice la n lc) rfl Try.isAgg54 rfl (rn_cell (k := i.toNat) (j := 0) (by first | exact mem_getO 0 rfl | exact mem_getO 1 rfl | exact mem_getO 2 rfl | exact mem_getO 3 rfl | exact mem_getO 4 rfl | exact mem_getO 5 rfl | exact mem_getO 6 rfl | exact mem_getO 7 rfl) (bkR2_len B _ _ K) (by omega) (by decide) (by simp [bkR2, hk])) ?_
    refine l_assign rfl rfl ?_
    refine l_nil ?_
    refine g_seq ?_
    refine g_region ?_
    refine l_assign rfl rfl ?_
    refine l_nil ?_
    refine g_seq ?_
    refine g_seq ?_
    refine g_region ?_
    refine l_assign rfl rfl ?_
    refine l_nil ?_
    refine g_block ?_
    refine g_take (BigF K (apB B i.toNat X Y)) ?_
    refine g_focus i.toNat (by omega) ?_
    rw [apB_now hk, Int.toNat_of_nonneg i0]
    refine g_fam (ints .u32 (List.replicate n (mk0 i) ++ List.replicate 64 (mg0 i))) (fun q hq => by rw [rr_get (by omega), if_pos (by omega), r_get (by omega)]) (by rw [rr_len]; omega) ?_
    refine g_heap (fun w hw => Fam.mono (vs' := [(.slice la n lc, n + min (0 : Int).toNat 17), (.slice la n lc, n)]) hw (fun p hp => by simpa using hp)) ?_
    refine g_own_nil 23 1 ?_
    refine g_loopk (X := Int × Value × Value) [(0, _), (2, _), (3, _), (16, _), (224, _), (225, _), (226, _), (227, _), (228, _), (229, _), (230, _), (233, _), (234, _), (235, _), (236, _), (237, _), (238, _), (239, _), (240, _)] (.cons rfl (.cons rfl (.cons rfl (.cons rfl (.cons rfl (.cons rfl (.cons rfl (.cons rfl (.cons rfl (.cons rfl (.cons rfl (.cons rfl (.cons rfl (.cons rfl (.cons rfl (.cons rfl (.cons rfl (.cons rfl (.cons rfl (.nil)))))))))))))))))))) (fun z => 0 ≤ z.1 ∧ z.1 ≤ 64) (fun z => (64 - z.1).toNat) (fun z => [(17, z.2.1), (18, z.2.2), (19, .int .i64 z.1)]) (fun z => Fam 23 1 (ints .u32 (List.replicate n (mk0 i) ++ List.replicate 64 (mg0 i))) [(z.2.1, n + min z.1.toNat 17), (.slice la n lc, n)] :: Own 23 1 z.2.2 z.1.toNat (ints .u32 (List.replicate z.1.toNat (mg0 i))) :: BigBut K i.toNat (apB B i.toNat X Y) :: Blk kb (.cells [u0, u1, u2, u3, .slice ka8 K8 kc8, .slice (some ⟨gk, 0, none⟩) K kc].toArray 51 (0, 0)) :: Own 104 4 (.slice (some ⟨gk, 0, none⟩) K kc) K (rowsN K (bkR2 B X Y)) :: Own 102 4 (.slice ka8 K8 kc8) K8 (rowsN K8 (bkR28 B8 X8 Y8)) :: BigF K8 (apB8 B8 K8 X8 Y8) :: F) ((0, .slice la n lc, .slice none 0 0)) (⟨by simp only; omega, by simp only; omega⟩) (.cons rfl (.cons rfl (.cons rfl .nil))) (fun w hw => (SPI.holds hw : Holds w0 (Fam 23 1 (ints .u32 (List.replicate n (mk0 i) ++ List.replicate 64 (mg0 i))) [(.slice la n lc, n + min (0 : Int).toNat 17), (.slice la n lc, n)] :: Own 23 1 (.slice none 0 0) 0 [] :: BigBut K i.toNat (apB B i.toNat X Y) :: Blk kb (.cells [u0, u1, u2, u3, .slice ka8 K8 kc8, .slice (some ⟨gk, 0, none⟩) K kc].toArray 51 (0, 0)) :: Own 104 4 (.slice (some ⟨gk, 0, none⟩) K kc) K (rowsN K (bkR2 B X Y)) :: Own 102 4 (.slice ka8 K8 kc8) K8 (rowsN K8 (bkR28 B8 X8 Y8)) :: BigF K8 (apB8 B8 K8 X8 Y8) :: F) w)) ?_
    rintro ⟨j, g, mo⟩ ⟨j0, j1⟩ ihj
    dsimp only [List.cons_append, List.nil_append] at ihj ⊢
    simp only at j0 j1
    refine g_seq ?_
    refine g_seq ?_
    refine g_region ?_
    refine l_move rfl rfl ?_
    refine l_lss rfl rfl rfl ?_
    refine l_nil ?_
    refine g_cond rfl ?_ ?_
    · intro hbr
      have hbr := of_decide_eq_true hbr
      refine g_skip ?_
      refine g_seq ?_
      refine g_block ?_
      refine g_seq ?_
      refine g_seq ?_
      refine g_region ?_
      refine l_move rfl rfl ?_
      refine l_lss rfl rfl rfl ?_
      refine l_nil ?_
      refine g_cond rfl ?_ ?_
      · intro hbr
        have hbr := of_decide_eq_true hbr
        refine g_region ?_
        refine l_move rfl rfl ?_
        refine l_move rfl rfl ?_
        refine l_mul rfl rfl rfl (w_i64 (by omega) (by omega)) ?_
        refine l_convm (m := 4294967296) rfl wr_u32 Try.underlying3 Try.underlying23 rfl ?_
        refine l_addm (m := 4294967296) rfl wr_u32 rfl rfl ?_
        rw [show (2 * i % 4294967296 + 2684354562) % 4294967296 = mg0 i from rfl]
        refine l_buildSlice rfl Try.underlying54 Try.sizeOf23 Try.zeroValue23 rfl rfl rfl rfl rfl rfl ?_; intro b252
        refine l_append_fam 1 (sz := 1) (by_ := 4) (m := n + min j.toNat 17) (m2 := 1) (news := [.int .u32 (mg0 i)]) rfl Try.underlying54 Try.type23 rfl rfl rfl rfl rfl rfl rfl rfl (List.mem_cons_self ..) ⟨rfl, .inl ⟨_, _, _, rfl, .own (mem_getO 0 rfl)⟩⟩ (by omega) rfl (fun q hq => by
          have : q = 0 := by simp at hq; omega
          subst this
          rw [rr_get (by omega), if_neg (by omega)]; rfl) (by rw [rr_len]; omega) (by omega) (by simp only [maxLen]; omega) (fun _ => rfl) ?_; intro v253
        refine l_assign rfl rfl ?_
        refine l_nil ?_
        refine g_region ?_
        refine l_move rfl rfl ?_
        refine l_move rfl rfl ?_
        refine l_mul rfl rfl rfl (w_i64 (by omega) (by omega)) ?_
        refine l_convm (m := 4294967296) rfl wr_u32 Try.underlying3 Try.underlying23 rfl ?_
        refine l_addm (m := 4294967296) rfl wr_u32 rfl rfl ?_
        rw [show (2 * i % 4294967296 + 2684354562) % 4294967296 = mg0 i from rfl]
        refine l_buildSlice rfl Try.underlying54 Try.sizeOf23 Try.zeroValue23 rfl rfl rfl rfl rfl rfl ?_; intro b259
        refine l_fronto b259 ?_
        refine l_frontv mo ?_
        refine l_appendw 0 (by_ := 4) (W := [mg0 i]) (V := List.replicate j.toNat (mg0 i)) (m3 := (j + 1).toNat) (V3 := List.replicate (j + 1).toNat (mg0 i)) rfl Try.underlying54 Try.type23 rfl rfl rfl rfl rfl rfl rfl ⟨rfl, .inl ⟨_, _, _, rfl, .own (mem_getO 1 rfl)⟩⟩ (by omega) (by simp only [maxLen]; omega) (by omega) (by rw [show (j + 1).toNat = j.toNat + 1 by omega]; exact rep_snoc _ _) (fun _ => rfl) ?_; intro v260 hv119
        refine l_assign rfl rfl ?_
        refine l_nil ?_
        refine g_inBlock ?_
        refine g_region ?_
        refine l_move rfl rfl ?_
        first | refine l_add rfl rfl rfl (w_i64 (by omega) (by omega)) ?_ | refine l_addw rfl rfl rfl ?_
        refine l_assign rfl rfl ?_
        refine l_nil ?_
        (first
          | (have hmn : n + min j.toNat 17 + 1 = n + min (j + 1).toNat 17 := by omega
             refine g_frontv_fam ?_
             rw [hmn]
             refine g_famsub (vs' := [(v253, n + min (j + 1).toNat 17), (.slice la n lc, n)]) (fun p hp => by rcases List.mem_cons.1 hp with rfl | hp <;> simp_all) ?_
             exact g_againi (ihj (j + 1, v253, v260) ⟨by simp only; omega, by simp only; omega⟩ (by simp only; omega)) (.cons rfl (.cons rfl (.cons rfl (.cons rfl (.cons rfl (.cons rfl (.cons rfl (.cons rfl (.cons rfl (.cons rfl (.cons rfl (.cons rfl (.cons rfl (.cons rfl (.cons rfl (.cons rfl (.cons rfl (.cons rfl (.cons rfl (.cons rfl (.cons rfl (.cons rfl (.nil))))))))))))))))))))))))
          | (have hmn : n + min j.toNat 17 = n + min (j + 1).toNat 17 := by omega
             rw [hmn]
             exact g_againi (ihj (j + 1, g, v260) ⟨by simp only; omega, by simp only; omega⟩ (by simp only; omega)) (.cons rfl (.cons rfl (.cons rfl (.cons rfl (.cons rfl (.cons rfl (.cons rfl (.cons rfl (.cons rfl (.cons rfl (.cons rfl (.cons rfl (.cons rfl (.cons rfl (.cons rfl (.cons rfl (.cons rfl (.cons rfl (.cons rfl (.cons rfl (.cons rfl (.cons rfl (.nil)))))))))))))))))))))))))
      intro hbr
      have hbr := of_decide_eq_false hbr
      refine g_skip ?_
      refine g_region ?_
      refine l_move rfl rfl ?_
      refine l_move rfl rfl ?_
      refine l_mul rfl rfl rfl (w_i64 (by omega) (by omega)) ?_
      refine l_convm (m := 4294967296) rfl wr_u32 Try.underlying3 Try.underlying23 rfl ?_
      refine l_addm (m := 4294967296) rfl wr_u32 rfl rfl ?_
      rw [show (2 * i % 4294967296 + 2684354562) % 4294967296 = mg0 i from rfl]
      refine l_buildSlice rfl Try.underlying54 Try.sizeOf23 Try.zeroValue23 rfl rfl rfl rfl rfl rfl ?_; intro b259
      refine l_fronto b259 ?_
      refine l_frontv mo ?_
      refine l_appendw 0 (by_ := 4) (W := [mg0 i]) (V := List.replicate j.toNat (mg0 i)) (m3 := (j + 1).toNat) (V3 := List.replicate (j + 1).toNat (mg0 i)) rfl Try.underlying54 Try.type23 rfl rfl rfl rfl rfl rfl rfl ⟨rfl, .inl ⟨_, _, _, rfl, .own (mem_getO 1 rfl)⟩⟩ (by omega) (by simp only [maxLen]; omega) (by omega) (by rw [show (j + 1).toNat = j.toNat + 1 by omega]; exact rep_snoc _ _) (fun _ => rfl) ?_; intro v260 hv119
      refine l_assign rfl rfl ?_
      refine l_nil ?_
      refine g_inBlock ?_
      refine g_region ?_
      refine l_move rfl rfl ?_
      first | refine l_add rfl rfl rfl (w_i64 (by omega) (by omega)) ?_ | refine l_addw rfl rfl rfl ?_
      refine l_assign rfl rfl ?_
      refine l_nil ?_
      (first
        | (have hmn : n + min j.toNat 17 + 1 = n + min (j + 1).toNat 17 := by omega
           refine g_frontv_fam ?_
           rw [hmn]
           refine g_famsub (vs' := [(v253, n + min (j + 1).toNat 17), (.slice la n lc, n)]) (fun p hp => by rcases List.mem_cons.1 hp with rfl | hp <;> simp_all) ?_
           exact g_againi (ihj (j + 1, v253, v260) ⟨by simp only; omega, by simp only; omega⟩ (by simp only; omega)) (.cons rfl (.cons rfl (.cons rfl (.cons rfl (.cons rfl (.cons rfl (.cons rfl (.cons rfl (.cons rfl (.cons rfl (.cons rfl (.cons rfl (.cons rfl (.cons rfl (.cons rfl (.cons rfl (.cons rfl (.cons rfl (.cons rfl (.cons rfl (.cons rfl (.cons rfl (.nil))))))))))))))))))))))))
        | (have hmn : n + min j.toNat 17 = n + min (j + 1).toNat 17 := by omega
           rw [hmn]
           exact g_againi (ihj (j + 1, g, v260) ⟨by simp only; omega, by simp only; omega⟩ (by simp only; omega)) (.cons rfl (.cons rfl (.cons rfl (.cons rfl (.cons rfl (.cons rfl (.cons rfl (.cons rfl (.cons rfl (.cons rfl (.cons rfl (.cons rfl (.cons rfl (.cons rfl (.cons rfl (.cons rfl (.cons rfl (.cons rfl (.cons rfl (.cons rfl (.cons rfl (.cons rfl (.nil)))))))))))))))))))))))))
    intro hbr
    have hbr := of_decide_eq_false hbr
    refine g_exit rfl ?_
    obtain rfl : j = 64 := by omega
    refine g_fact (fam_slice (mem_getO 0 rfl) (List.mem_cons_self ..)) ?_
    rintro ⟨ag, cg, rfl, hag, hgl, hgm⟩
    refine g_fact (own_slice (mem_getO 1 rfl)) ?_
    rintro ⟨am, cm, rfl, ham⟩
    obtain ⟨gm, rfl⟩ := ham.resolve_left (by decide)
    rw [show min (64 : Int).toNat 17 = 17 by decide] at hag hgl hgm ⊢
    rw [show (64 : Int).toNat = 64 by decide]
    refine g_seq ?_
    refine g_region ?_
    refine l_move rfl rfl ?_
    refine l_nilCheck rfl rfl ?_
    refine l_fieldAddr rfl fa_49_1 rfl ?_
    refine l_ld rfl Try.isAgg47 rfl rfl ?_
    refine l_move rfl rfl ?_
    refine l_move rfl rfl ?_
    refine l_ixs rfl Try.underlying47 Try.sizeOf104 rfl rfl (by omega) (by omega) ?_
    refine l_fieldAddr rfl fa_104_2 rfl ?_
    refine l_take (Own 104 4 (.slice (some ⟨gk, 0, none⟩) K kc) K (rowsN K (bkR2 B X Y))) ?_
    refine l_storeo 0 Try.sizeOf54 rfl rfl rfl rfl (by rw [rowsN_len (bkR2_len B X Y K)]; omega) rfl ?_
    rw [bkR2_X (by omega)]
    refine l_nil ?_
    refine gp_start mo (by kernel_rfl) (by kernel_rfl) ?_
    refine gp_quiet 0 rfl rfl rfl rfl rfl rfl (q_move rfl) ?_
    refine gp_quiet 1 rfl rfl rfl rfl rfl rfl (q_nilCheck rfl) ?_
    refine gp_quiet 2 rfl rfl rfl rfl rfl rfl (q_fieldAddr fa_49_1 rfl) ?_
    refine gp_quiet 3 rfl rfl rfl rfl rfl rfl (q_ld Try.isAgg47 rfl rfl) ?_
    refine gp_quiet 4 rfl rfl rfl rfl rfl rfl (q_move rfl) ?_
    refine gp_quiet 5 rfl rfl rfl rfl rfl rfl (q_move rfl) ?_
    refine gp_quiet 6 rfl rfl rfl rfl rfl rfl (q_nilCheck rfl) ?_
    refine gp_quiet 7 rfl rfl rfl rfl rfl rfl (q_fieldAddr fa_49_1 rfl) ?_
    refine gp_quiet 8 rfl rfl rfl rfl rfl rfl (q_ld Try.isAgg47 rfl rfl) ?_
    refine gp_quiet 9 rfl rfl rfl rfl rfl rfl (q_move rfl) ?_
    refine gp_quiet 10 rfl rfl rfl rfl rfl rfl (q_ixs Try.underlying47 Try.sizeOf104 rfl rfl (by omega) (by omega)) ?_
    refine gp_quiet 11 rfl rfl rfl rfl rfl rfl (q_fieldAddr fa_104_0 rfl) ?_
    refine gp_quiet 12 rfl rfl rfl rfl rfl rfl (q_loadc (v := .slice la n lc) Try.isAgg54 rfl (rn_cell (k := i.toNat) (j := 0) (by first | exact mem_getO 0 rfl | exact mem_getO 1 rfl | exact mem_getO 2 rfl | exact mem_getO 3 rfl | exact mem_getO 4 rfl | exact mem_getO 5 rfl | exact mem_getO 6 rfl | exact mem_getO 7 rfl) (bkR2_len B _ _ K) (by omega) (by decide) (by simp [bkR2, hk]))) ?_
    refine gp_quiet 13 rfl rfl rfl rfl rfl rfl (q_move rfl) ?_
    refine gp_frontf ?_
    refine gp_effa 14 [12, 13] [11, 10, 9, 8, 7, 6, 5, 4, 3, 2, 1, 0] rfl rfl rfl rfl rfl rfl rfl (does_append_fam 0 (sz := 1) (by_ := 4) (m := n) (m2 := 64) (m3 := n + 64) (news := ints .u32 (List.replicate 64 (mg0 i))) Try.underlying54 Try.type23 rfl rfl rfl rfl rfl rfl rfl rfl (List.mem_cons_of_mem _ (List.mem_cons_self ..)) ⟨rfl, .inl ⟨_, _, _, rfl, .own (OwnIn.mem (g := gm))⟩⟩ (by omega) (ints_scalar _ _) (fun q hq => by rw [ints_length, List.length_replicate] at hq; rw [rr_get (by omega), if_neg (by omega), r_get hq]) (by rw [rr_len]; omega) (by omega) (by simp only [maxLen]; omega) rfl (fun _ => rfl)) ?_
    rintro _ _ ⟨a5, c5, rfl, ha5, rfl⟩
    refine ⟨?_, ?_⟩
    · refine .cons rfl rfl rfl rfl rfl (q_fieldAddr fa_104_0 rfl) ?_
      refine .cons rfl rfl rfl rfl rfl (q_ixs Try.underlying47 Try.sizeOf104 rfl rfl (by omega) (by omega)) ?_
      refine .cons rfl rfl rfl rfl rfl (q_move rfl) ?_
      refine .cons rfl rfl rfl rfl rfl (q_ld Try.isAgg47 rfl rfl) ?_
      refine .cons rfl rfl rfl rfl rfl (q_fieldAddr fa_49_1 rfl) ?_
      refine .cons rfl rfl rfl rfl rfl (q_nilCheck rfl) ?_
      refine .cons rfl rfl rfl rfl rfl (q_move rfl) ?_
      refine .cons rfl rfl rfl rfl rfl (q_move rfl) ?_
      refine .cons rfl rfl rfl rfl rfl (q_ld Try.isAgg47 rfl rfl) ?_
      refine .cons rfl rfl rfl rfl rfl (q_fieldAddr fa_49_1 rfl) ?_
      refine .cons rfl rfl rfl rfl rfl (q_nilCheck rfl) ?_
      refine .cons rfl rfl rfl rfl rfl (q_move rfl) ?_
      exact .nil
    refine gp_quiet 15 rfl rfl rfl rfl rfl rfl (q_ixs Try.underlying47 Try.sizeOf104 rfl rfl (by omega) (by omega)) ?_
    refine gp_quiet 16 rfl rfl rfl rfl rfl rfl (q_fieldAddr fa_104_3 rfl) ?_
    refine gp_take (Own 104 4 (.slice (some ⟨gk, 0, none⟩) K kc) K (rowsN K (bkR2 B (upF X i.toNat (.slice ag (n + 17) cg)) Y))) ?_
    refine gp_effa 17 [0, 1, 2, 3, 4, 5, 6, 7, 8, 9, 10, 11, 16] [15] rfl rfl rfl rfl rfl rfl rfl (does_storeo 0 Try.sizeOf54 rfl rfl rfl rfl (by rw [rowsN_len (bkR2_len B _ _ K)]; omega) rfl) ?_
    rintro _ _ ⟨rfl, rfl⟩
    rw [bkR2_Y (by omega)]
    refine ⟨?_, ?_⟩
    · refine .cons rfl rfl rfl rfl rfl (q_ixs Try.underlying47 Try.sizeOf104 rfl rfl (by omega) (by omega)) ?_
      exact .nil
    refine gp_end rfl rfl ?_
    refine g_inBlock ?_
    refine g_region ?_
    refine l_move rfl rfl ?_
    first | refine l_add rfl rfl rfl (w_i64 (by omega) (by omega)) ?_ | refine l_addw rfl rfl rfl ?_
    refine l_assign rfl rfl ?_
    refine l_nil ?_
    have hin : i.toNat + 1 = (i + 1).toNat := by omega
    refine g_take (BigBut K i.toNat (apB B i.toNat X Y)) ?_
    refine g_frontv_fam ?_
    refine g_famsub (vs' := [(.slice a5 (n + 64) c5, n + 64), (.slice ag (n + 17) cg, n + 17), (.slice la n lc, n)]) (fun p hp => by simp only [List.mem_cons, List.not_mem_nil, or_false] at hp ⊢; rcases hp with rfl | rfl | rfl <;> simp) ?_
    refine g_unfocus (apB B (i + 1).toNat (upF X i.toNat (.slice ag (n + 17) cg)) (upF Y i.toNat (.slice a5 (n + 64) c5))) (by rw [← hin, apB_done hk, Int.toNat_of_nonneg i0]) (fun k _ hki => by rw [← hin]; exact apB_keep hki) ?_
    exact g_againi (ih (i + 1, upF X i.toNat (.slice ag (n + 17) cg), upF Y i.toNat (.slice a5 (n + 64) c5)) ⟨by simp only; omega, by simp only; omega⟩ (by simp only; omega)) (.cons rfl (.cons rfl (.cons rfl (.cons rfl (.nil)))))
  intro hbr
  have hbr := of_decide_eq_false hbr
  refine g_exit rfl ?_
  obtain rfl : i = K := by omega
  rw [Int.toNat_natCast]
  refine g_seq ?_
  refine g_seq ?_
  refine g_region ?_
  refine l_assign rfl rfl ?_
  refine l_nil ?_
  refine g_block ?_
  refine g_loopc (X := Int) [(0, _), (2, _)] (.cons rfl (.cons rfl (.nil))) (fun i => 0 ≤ i ∧ i ≤ K8) (fun i => ((K8 : Int) - i).toNat) (fun i => [(3, .bool true), (20, .int .i64 i)]) (0) (by omega) (.cons rfl (.cons rfl .nil)) ?_
  rintro i ⟨i0, i1⟩ iha
  dsimp only [List.cons_append, List.nil_append] at iha ⊢
  refine g_seq ?_
  refine g_seq ?_
  refine g_region ?_
  refine l_move rfl rfl ?_
  refine l_move rfl rfl ?_
  refine l_nilCheck rfl rfl ?_
  refine l_fieldAddr rfl fa_49_0 rfl ?_
  refine l_ld rfl Try.isAgg46 rfl rfl ?_
  refine l_len rfl Try.underlying46 rfl ?_
  refine l_lss rfl rfl rfl ?_
  refine l_nil ?_
  refine g_cond rfl ?_ ?_
  · intro hbr
    have hbr := of_decide_eq_true hbr
    refine g_skip ?_
    refine g_seq ?_
    refine g_block ?_
    refine g_seq ?_
    refine g_region ?_
    obtain ⟨gk8, rfl⟩ := hka8.resolve_left (by omega)
    obtain ⟨⟨la, lc, wa, wc, n, c9⟩, hk⟩ : ∃ x, B8 i.toNat = x := ⟨_, rfl⟩
    have hbk := hB8 i.toNat (by omega)
    rw [hk] at hbk
    obtain ⟨hb1, hb2, _, hla, _⟩ := hbk
    simp only at hb1 hb2 hla
    refine l_take (BigF K8 (apB8 B8 K8 X8 Y8)) ?_
    refine l_focus i.toNat (by omega) ?_
    rw [apB_read8 hk (by omega), Int.toNat_of_nonneg i0]
    refine l_fact (fam_slice (mem_getO 0 rfl) (List.mem_cons_self ..)) ?_
    rintro ⟨a5, c5, hv5, ha5, _, _⟩
    refine l_fact (fam_slice (mem_getO 0 rfl) (List.mem_cons_of_mem _ (List.mem_cons_self ..))) ?_
    rintro ⟨ag, cg, hvg, hag, _, _⟩
    rw [hv5, hvg]
    refine l_move rfl rfl ?_
    refine l_nilCheck rfl rfl ?_
    refine l_fieldAddr rfl fa_49_0 rfl ?_
    refine l_ld rfl Try.isAgg46 rfl rfl ?_
    refine l_move rfl rfl ?_
    refine l_ixs rfl Try.underlying46 Try.sizeOf102 rfl rfl (by omega) (by omega) ?_
    refine l_fieldAddr rfl fa_102_0 rfl ?_
    refine l_loadc (v := .slice la n lc) rfl Try.isAgg36 rfl (rn_cell (k := i.toNat) (j := 0) (by first | exact mem_getO 0 rfl | exact mem_getO 1 rfl | exact mem_getO 2 rfl | exact mem_getO 3 rfl | exact mem_getO 4 rfl | exact mem_getO 5 rfl | exact mem_getO 6 rfl | exact mem_getO 7 rfl) (bkR2_len8 B8 _ _ K8) (by omega) (by decide) (by simp [bkR28, hk])) ?_
    refine l_len rfl Try.underlying36 rfl ?_
    refine l_assign rfl rfl ?_
    refine l_nil ?_
    refine g_seq ?_
    refine g_region ?_
    refine l_move rfl rfl ?_
    refine l_nilCheck rfl rfl ?_
    refine l_fieldAddr rfl fa_49_0 rfl ?_
    refine l_ld rfl Try.isAgg46 rfl rfl ?_
    refine l_move rfl rfl ?_
    refine l_ixs rfl Try.underlying46 Try.sizeOf102 rfl rfl (by omega) (by omega) ?_
    refine l_fieldAddr rfl fa_102_0 rfl ?_
    refine l_loadc (v := .slice la n lc) rfl Try.isAgg36 rfl (rn_cell (k := i.toNat) (j := 0) (by first | exact mem_getO 0 rfl | exact mem_getO 1 rfl | exact mem_getO 2 rfl | exact mem_getO 3 rfl | exact mem_getO 4 rfl | exact mem_getO 5 rfl | exact mem_getO 6 rfl | exact mem_getO 7 rfl) (bkR2_len8 B8 _ _ K8) (by omega) (by decide) (by simp [bkR28, hk])) ?_
    refine l_move rfl rfl ?_
    refine l_move rfl rfl ?_
    refine l_mul rfl rfl rfl (w_i64 (by omega) (by omega)) ?_
    refine l_add rfl rfl rfl (w_i64 (by omega) (by omega)) ?_
    refine l_convm (m := 256) rfl wr_u8 Try.underlying3 Try.underlying5 rfl ?_
    rw [show (2 * i + 1) % 256 = mk08 i from rfl]
    refine l_move rfl rfl ?_
    refine l_mul rfl rfl rfl (w_i64 (by omega) (by omega)) ?_
    refine l_add rfl rfl rfl (w_i64 (by omega) (by omega)) ?_
    refine l_convm (m := 256) rfl wr_u8 Try.underlying3 Try.underlying5 rfl ?_
    rw [show (2 * i + 2) % 256 = mg08 i from rfl]
    refine l_frontf8 ?_
    refine l_call rfl Try.call70 rfl (allw_ok8 _ _ la n lc n (mk08 i) (mg08 i) _ (IR.fam (mem_getO 0 rfl) (List.mem_cons_of_mem _ (List.mem_cons_of_mem _ (List.mem_cons_self ..))) (by rw [← ints_length .u8, rr_len8]; omega) (hla.imp id id)) (by omega) (by omega) (fun q hq => by rw [getD_take (by omega), getD_repapp (by omega)])) ?_; rintro _ _ ⟨rfl, rfl⟩
    refine l_assign rfl rfl ?_
    refine l_nil ?_
    refine g_seq ?_
    refine g_region ?_
    refine l_move rfl rfl ?_
    refine l_nilCheck rfl rfl ?_
    refine l_fieldAddr rfl fa_49_0 rfl ?_
    refine l_ld rfl Try.isAgg46 rfl rfl ?_
    refine l_move rfl rfl ?_
    refine l_ixs rfl Try.underlying46 Try.sizeOf102 rfl rfl (by omega) (by omega) ?_
    refine l_fieldAddr rfl fa_102_2 rfl ?_
    refine l_loadc (v := .slice ag (n + 17) cg) rfl Try.isAgg36 rfl (rn_cell (k := i.toNat) (j := 2) (by first | exact mem_getO 0 rfl | exact mem_getO 1 rfl | exact mem_getO 2 rfl | exact mem_getO 3 rfl | exact mem_getO 4 rfl | exact mem_getO 5 rfl | exact mem_getO 6 rfl | exact mem_getO 7 rfl) (bkR2_len8 B8 _ _ K8) (by omega) (by decide) (by simp [bkR28, hvg])) ?_
    refine l_move rfl rfl ?_
    refine l_move rfl rfl ?_
    refine l_mul rfl rfl rfl (w_i64 (by omega) (by omega)) ?_
    refine l_add rfl rfl rfl (w_i64 (by omega) (by omega)) ?_
    refine l_convm (m := 256) rfl wr_u8 Try.underlying3 Try.underlying5 rfl ?_
    rw [show (2 * i + 1) % 256 = mk08 i from rfl]
    refine l_move rfl rfl ?_
    refine l_mul rfl rfl rfl (w_i64 (by omega) (by omega)) ?_
    refine l_add rfl rfl rfl (w_i64 (by omega) (by omega)) ?_
    refine l_convm (m := 256) rfl wr_u8 Try.underlying3 Try.underlying5 rfl ?_
    rw [show (2 * i + 2) % 256 = mg08 i from rfl]
    refine l_frontf8 ?_
    refine l_call rfl Try.call70 rfl (allw_ok8 _ _ ag (n + 17) cg n (mk08 i) (mg08 i) _ (IR.fam (mem_getO 0 rfl) (List.mem_cons_of_mem _ (List.mem_cons_self ..)) (by rw [← ints_length .u8, rr_len8]; omega) (hag.imp id id)) (by omega) (by omega) (fun q hq => by rw [getD_take (by omega), getD_repapp (by omega)])) ?_; rintro _ _ ⟨rfl, rfl⟩
    refine l_assign rfl rfl ?_
    refine l_nil ?_
    refine g_seq ?_
    refine g_region ?_
    refine l_move rfl rfl ?_
    refine l_nilCheck rfl rfl ?_
    refine l_fieldAddr rfl fa_49_0 rfl ?_
    refine l_ld rfl Try.isAgg46 rfl rfl ?_
    refine l_move rfl rfl ?_
    refine l_ixs rfl Try.underlying46 Try.sizeOf102 rfl rfl (by omega) (by omega) ?_
    refine l_fieldAddr rfl fa_102_3 rfl ?_
    refine l_loadc (v := .slice a5 (n + 64) c5) rfl Try.isAgg36 rfl (rn_cell (k := i.toNat) (j := 3) (by first | exact mem_getO 0 rfl | exact mem_getO 1 rfl | exact mem_getO 2 rfl | exact mem_getO 3 rfl | exact mem_getO 4 rfl | exact mem_getO 5 rfl | exact mem_getO 6 rfl | exact mem_getO 7 rfl) (bkR2_len8 B8 _ _ K8) (by omega) (by decide) (by simp [bkR28, hv5])) ?_
    refine l_move rfl rfl ?_
    refine l_move rfl rfl ?_
    refine l_mul rfl rfl rfl (w_i64 (by omega) (by omega)) ?_
    refine l_add rfl rfl rfl (w_i64 (by omega) (by omega)) ?_
    refine l_convm (m := 256) rfl wr_u8 Try.underlying3 Try.underlying5 rfl ?_
    rw [show (2 * i + 1) % 256 = mk08 i from rfl]
    refine l_move rfl rfl ?_
    refine l_mul rfl rfl rfl (w_i64 (by omega) (by omega)) ?_
    refine l_add rfl rfl rfl (w_i64 (by omega) (by omega)) ?_
    refine l_convm (m := 256) rfl wr_u8 Try.underlying3 Try.underlying5 rfl ?_
    rw [show (2 * i + 2) % 256 = mg08 i from rfl]
    refine l_frontf8 ?_
    refine l_call rfl Try.call70 rfl (allw_ok8 _ _ a5 (n + 64) c5 n (mk08 i) (mg08 i) _ (IR.fam (mem_getO 0 rfl) (List.mem_cons_self ..) (by rw [← ints_length .u8, rr_len8]; omega) (ha5.imp id id)) (by omega) (by omega) (fun q hq => by rw [getD_take (by omega), getD_repapp (by omega)])) ?_; rintro _ _ ⟨rfl, rfl⟩
    refine l_assign rfl rfl ?_
    refine l_nil ?_
    refine g_region ?_
    refine l_move rfl rfl ?_
    refine l_move rfl rfl ?_
    refine l_split 359 rfl ?_ ?_
    · intro hbr
      refine l_guard_yes rfl rfl ?_
      refine l_move rfl rfl ?_
      refine l_pick_t rfl rfl rfl ?_
      refine l_move rfl rfl ?_
      refine l_guard_yes rfl rfl ?_
      refine l_move rfl rfl ?_
      refine l_pick_t rfl rfl rfl ?_
      refine l_move rfl rfl ?_
      refine l_guard_yes rfl rfl ?_
      refine l_move rfl rfl ?_
      refine l_pick_t rfl rfl rfl ?_
      refine l_assign rfl rfl ?_
      refine l_nil ?_
      refine g_inBlock ?_
      refine g_region ?_
      refine l_move rfl rfl ?_
      first | refine l_add rfl rfl rfl (w_i64 (by omega) (by omega)) ?_ | refine l_addw rfl rfl rfl ?_
      refine l_assign rfl rfl ?_
      refine l_nil ?_
      refine g_take (BigBut K8 i.toNat (apB8 B8 K8 X8 Y8)) ?_
      refine g_frontv_fam8 ?_
      rw [← hv5, ← hvg]
      refine g_unfocus (apB8 B8 K8 X8 Y8) (by rw [apB_read8 hk (by omega), Int.toNat_of_nonneg i0]) (fun k _ _ => rfl) ?_
      exact g_againi (iha (i + 1) (by omega) (by omega)) (.cons rfl (.cons rfl (.cons rfl (.cons rfl (.nil)))))
    · intro hbr
      first | (exfalso; simp at hbr; done) | (exfalso; simp at hbr; omega) | (exfalso; first | omega | (simp at hbr; done))
  intro hbr
  have hbr := of_decide_eq_false hbr
  refine g_exit rfl ?_
  refine g_seq ?_
  refine g_seq ?_
  refine g_region ?_
  refine l_assign rfl rfl ?_
  refine l_nil ?_
  refine g_block ?_
  refine g_loopc (X := Int) [(0, _), (2, _)] (.cons rfl (.cons rfl (.nil))) (fun i => 0 ≤ i ∧ i ≤ K) (fun i => ((K : Int) - i).toNat) (fun i => [(3, .bool true), (25, .int .i64 i)]) (0) (by omega) (.cons rfl (.cons rfl .nil)) ?_
  rintro i ⟨i0, i1⟩ iha
  dsimp only [List.cons_append, List.nil_append] at iha ⊢
  refine g_seq ?_
  refine g_seq ?_
  refine g_region ?_
  refine l_move rfl rfl ?_
  refine l_move rfl rfl ?_
  refine l_nilCheck rfl rfl ?_
  refine l_fieldAddr rfl fa_49_1 rfl ?_
  refine l_ld rfl Try.isAgg47 rfl rfl ?_
  refine l_len rfl Try.underlying47 rfl ?_
  refine l_lss rfl rfl rfl ?_
  refine l_nil ?_
  refine g_cond rfl ?_ ?_
  · intro hbr
    have hbr := of_decide_eq_true hbr
    refine g_skip ?_
    refine g_seq ?_
    refine g_block ?_
    refine g_seq ?_
    refine g_region ?_
    obtain ⟨gk, rfl⟩ := hka.resolve_left (by omega)
    obtain ⟨⟨la, lc, wa, wc, n, c9⟩, hk⟩ : ∃ x, B i.toNat = x := ⟨_, rfl⟩
    have hbk := hB i.toNat (by omega)
    rw [hk] at hbk
    obtain ⟨hb1, hb2, _, hla, _⟩ := hbk
    simp only at hb1 hb2 hla
    refine l_take (BigF K (apB B K X Y)) ?_
    refine l_focus i.toNat (by omega) ?_
    rw [apB_read hk (by omega), Int.toNat_of_nonneg i0]
    refine l_fact (fam_slice (mem_getO 0 rfl) (List.mem_cons_self ..)) ?_
    rintro ⟨a5, c5, hv5, ha5, _, _⟩
    refine l_fact (fam_slice (mem_getO 0 rfl) (List.mem_cons_of_mem _ (List.mem_cons_self ..))) ?_
    rintro ⟨ag, cg, hvg, hag, _, _⟩
    rw [hv5, hvg]
    refine l_move rfl rfl ?_
    refine l_nilCheck rfl rfl ?_
    refine l_fieldAddr rfl fa_49_1 rfl ?_
    refine l_ld rfl Try.isAgg47 rfl rfl ?_
    refine l_move rfl rfl ?_
    refine l_ixs rfl Try.underlying47 Try.sizeOf104 rfl rfl (by omega) (by omega) ?_
    refine l_fieldAddr rfl fa_104_0 rfl ?_
    refine l_loadc (v := .slice la n lc) rfl Try.isAgg54 rfl (rn_cell (k := i.toNat) (j := 0) (by first | exact mem_getO 0 rfl | exact mem_getO 1 rfl | exact mem_getO 2 rfl | exact mem_getO 3 rfl | exact mem_getO 4 rfl | exact mem_getO 5 rfl | exact mem_getO 6 rfl | exact mem_getO 7 rfl) (bkR2_len B _ _ K) (by omega) (by decide) (by simp [bkR2, hk])) ?_
    refine l_len rfl Try.underlying54 rfl ?_
    refine l_assign rfl rfl ?_
    refine l_nil ?_
    refine g_seq ?_
    refine g_region ?_
    refine l_move rfl rfl ?_
    refine l_nilCheck rfl rfl ?_
    refine l_fieldAddr rfl fa_49_1 rfl ?_
    refine l_ld rfl Try.isAgg47 rfl rfl ?_
    refine l_move rfl rfl ?_
    refine l_ixs rfl Try.underlying47 Try.sizeOf104 rfl rfl (by omega) (by omega) ?_
    refine l_fieldAddr rfl fa_104_0 rfl ?_
    refine l_loadc (v := .slice la n lc) rfl Try.isAgg54 rfl (rn_cell (k := i.toNat) (j := 0) (by first | exact mem_getO 0 rfl | exact mem_getO 1 rfl | exact mem_getO 2 rfl | exact mem_getO 3 rfl | exact mem_getO 4 rfl | exact mem_getO 5 rfl | exact mem_getO 6 rfl | exact mem_getO 7 rfl) (bkR2_len B _ _ K) (by omega) (by decide) (by simp [bkR2, hk])) ?_
    refine l_move rfl rfl ?_
    refine l_move rfl rfl ?_
    refine l_mul rfl rfl rfl (w_i64 (by omega) (by omega)) ?_
    refine l_convm (m := 4294967296) rfl wr_u32 Try.underlying3 Try.underlying23 rfl ?_
    refine l_addm (m := 4294967296) rfl wr_u32 rfl rfl ?_
    rw [show (2 * i % 4294967296 + 2684354561) % 4294967296 = mk0 i from rfl]
    refine l_move rfl rfl ?_
    refine l_mul rfl rfl rfl (w_i64 (by omega) (by omega)) ?_
    refine l_convm (m := 4294967296) rfl wr_u32 Try.underlying3 Try.underlying23 rfl ?_
    refine l_addm (m := 4294967296) rfl wr_u32 rfl rfl ?_
    rw [show (2 * i % 4294967296 + 2684354562) % 4294967296 = mg0 i from rfl]
    refine l_frontf ?_
    refine l_call rfl Try.call71 rfl (allw_ok _ _ la n lc n (mk0 i) (mg0 i) _ (IR.fam (mem_getO 0 rfl) (List.mem_cons_of_mem _ (List.mem_cons_of_mem _ (List.mem_cons_self ..))) (by rw [← ints_length .u32, rr_len]; omega) (hla.imp id id)) (by omega) (by omega) (fun q hq => by rw [getD_take (by omega), getD_repapp (by omega)])) ?_; rintro _ _ ⟨rfl, rfl⟩
    refine l_assign rfl rfl ?_
    refine l_nil ?_
    refine g_seq ?_
    refine g_region ?_
    refine l_move rfl rfl ?_
    refine l_nilCheck rfl rfl ?_
    refine l_fieldAddr rfl fa_49_1 rfl ?_
    refine l_ld rfl Try.isAgg47 rfl rfl ?_
    refine l_move rfl rfl ?_
    refine l_ixs rfl Try.underlying47 Try.sizeOf104 rfl rfl (by omega) (by omega) ?_
    refine l_fieldAddr rfl fa_104_2 rfl ?_
    refine l_loadc (v := .slice ag (n + 17) cg) rfl Try.isAgg54 rfl (rn_cell (k := i.toNat) (j := 2) (by first | exact mem_getO 0 rfl | exact mem_getO 1 rfl | exact mem_getO 2 rfl | exact mem_getO 3 rfl | exact mem_getO 4 rfl | exact mem_getO 5 rfl | exact mem_getO 6 rfl | exact mem_getO 7 rfl) (bkR2_len B _ _ K) (by omega) (by decide) (by simp [bkR2, hvg])) ?_
    refine l_move rfl rfl ?_
    refine l_move rfl rfl ?_
    refine l_mul rfl rfl rfl (w_i64 (by omega) (by omega)) ?_
    refine l_convm (m := 4294967296) rfl wr_u32 Try.underlying3 Try.underlying23 rfl ?_
    refine l_addm (m := 4294967296) rfl wr_u32 rfl rfl ?_
    rw [show (2 * i % 4294967296 + 2684354561) % 4294967296 = mk0 i from rfl]
    refine l_move rfl rfl ?_
    refine l_mul rfl rfl rfl (w_i64 (by omega) (by omega)) ?_
    refine l_convm (m := 4294967296) rfl wr_u32 Try.underlying3 Try.underlying23 rfl ?_
    refine l_addm (m := 4294967296) rfl wr_u32 rfl rfl ?_
    rw [show (2 * i % 4294967296 + 2684354562) % 4294967296 = mg0 i from rfl]
    refine l_frontf ?_
    refine l_call rfl Try.call71 rfl (allw_ok _ _ ag (n + 17) cg n (mk0 i) (mg0 i) _ (IR.fam (mem_getO 0 rfl) (List.mem_cons_of_mem _ (List.mem_cons_self ..)) (by rw [← ints_length .u32, rr_len]; omega) (hag.imp id id)) (by omega) (by omega) (fun q hq => by rw [getD_take (by omega), getD_repapp (by omega)])) ?_; rintro _ _ ⟨rfl, rfl⟩
    refine l_assign rfl rfl ?_
    refine l_nil ?_
    refine g_seq ?_
    refine g_region ?_
    refine l_move rfl rfl ?_
    refine l_nilCheck rfl rfl ?_
    refine l_fieldAddr rfl fa_49_1 rfl ?_
    refine l_ld rfl Try.isAgg47 rfl rfl ?_
    refine l_move rfl rfl ?_
    refine l_ixs rfl Try.underlying47 Try.sizeOf104 rfl rfl (by omega) (by omega) ?_
    refine l_fieldAddr rfl fa_104_3 rfl ?_
    refine l_loadc (v := .slice a5 (n + 64) c5) rfl Try.isAgg54 rfl (rn_cell (k := i.toNat) (j := 3) (by first | exact mem_getO 0 rfl | exact mem_getO 1 rfl | exact mem_getO 2 rfl | exact mem_getO 3 rfl | exact mem_getO 4 rfl | exact mem_getO 5 rfl | exact mem_getO 6 rfl | exact mem_getO 7 rfl) (bkR2_len B _ _ K) (by omega) (by decide) (by simp [bkR2, hv5])) ?_
    refine l_move rfl rfl ?_
    refine l_move rfl rfl ?_
    refine l_mul rfl rfl rfl (w_i64 (by omega) (by omega)) ?_
    refine l_convm (m := 4294967296) rfl wr_u32 Try.underlying3 Try.underlying23 rfl ?_
    refine l_addm (m := 4294967296) rfl wr_u32 rfl rfl ?_
    rw [show (2 * i % 4294967296 + 2684354561) % 4294967296 = mk0 i from rfl]
    refine l_move rfl rfl ?_
    refine l_mul rfl rfl rfl (w_i64 (by omega) (by omega)) ?_
    refine l_convm (m := 4294967296) rfl wr_u32 Try.underlying3 Try.underlying23 rfl ?_
    refine l_addm (m := 4294967296) rfl wr_u32 rfl rfl ?_
    rw [show (2 * i % 4294967296 + 2684354562) % 4294967296 = mg0 i from rfl]
    refine l_frontf ?_
    refine l_call rfl Try.call71 rfl (allw_ok _ _ a5 (n + 64) c5 n (mk0 i) (mg0 i) _ (IR.fam (mem_getO 0 rfl) (List.mem_cons_self ..) (by rw [← ints_length .u32, rr_len]; omega) (ha5.imp id id)) (by omega) (by omega) (fun q hq => by rw [getD_take (by omega), getD_repapp (by omega)])) ?_; rintro _ _ ⟨rfl, rfl⟩
    refine l_assign rfl rfl ?_
    refine l_nil ?_
    refine g_region ?_
    refine l_move rfl rfl ?_
    refine l_move rfl rfl ?_
    refine l_split 441 rfl ?_ ?_
    · intro hbr
      refine l_guard_yes rfl rfl ?_
      refine l_move rfl rfl ?_
      refine l_pick_t rfl rfl rfl ?_
      refine l_move rfl rfl ?_
      refine l_guard_yes rfl rfl ?_
      refine l_move rfl rfl ?_
      refine l_pick_t rfl rfl rfl ?_
      refine l_move rfl rfl ?_
      refine l_guard_yes rfl rfl ?_
      refine l_move rfl rfl ?_
      refine l_pick_t rfl rfl rfl ?_
      refine l_assign rfl rfl ?_
      refine l_nil ?_
      refine g_inBlock ?_
      refine g_region ?_
      refine l_move rfl rfl ?_
      first | refine l_add rfl rfl rfl (w_i64 (by omega) (by omega)) ?_ | refine l_addw rfl rfl rfl ?_
      refine l_assign rfl rfl ?_
      refine l_nil ?_
      refine g_take (BigBut K i.toNat (apB B K X Y)) ?_
      refine g_frontv_fam ?_
      rw [← hv5, ← hvg]
      refine g_unfocus (apB B K X Y) (by rw [apB_read hk (by omega), Int.toNat_of_nonneg i0]) (fun k _ _ => rfl) ?_
      exact g_againi (iha (i + 1) (by omega) (by omega)) (.cons rfl (.cons rfl (.cons rfl (.cons rfl (.nil)))))
    · intro hbr
      first | (exfalso; simp at hbr; done) | (exfalso; simp at hbr; omega) | (exfalso; first | omega | (simp at hbr; done))
  intro hbr
  have hbr := of_decide_eq_false hbr
  refine g_exit rfl ?_
  refine g_seq ?_
  refine g_region ?_
  refine l_move rfl rfl ?_
  refine l_assign rfl rfl ?_
  refine l_nil ?_
  refine g_ret Try.func23 rfl (.tmp rfl .nil) ?_
  exact Gives.mki ⟨rfl, rfl⟩
set_option maxHeartbeats 4000000 in
theorem back2_ok8 (w0 : World) (F : List Atom) (g : Nat) (Z : List Int) (a : Option Addr) (n c : Nat) (l : List Int) (hl : l.length = n) (hI : IR w0 F .u8 a n l) (hn : n ≤ 2147483800) (hU : U8s l) (hZ : LentG8 l n Z) :
    CallK Try.prog 51 [.slice (some ⟨g, 0, none⟩) n (n + 9), .slice a n c] w0 (Own 5 1 (.slice (some ⟨g, 0, none⟩) (n + 9) (n + 9)) (n + 9) (ints .u8 Z) :: F) (Gives w0 fun v F2 => v = .bool true ∧ F2 = Own 5 1 (.slice (some ⟨g, 0, none⟩) (n + 9) (n + 9)) (n + 9) (ints .u8 (List.replicate (n + 9) 78)) :: F) := by
  refine c_enter Try.func51 rfl rfl rfl ?_
  refine g_seq ?_
  refine g_region ?_
  refine l_assign rfl rfl ?_
  refine l_nil ?_
  refine g_seq ?_
  refine g_region ?_
  refine l_move rfl rfl ?_
  refine l_move rfl rfl ?_
  refine l_len rfl Try.underlying36 rfl ?_
  first | refine l_add rfl rfl rfl (w_i64 (by omega) (by omega)) ?_ | refine l_addw rfl rfl rfl ?_
  refine l_slice_hi rfl Try.underlying36 Try.sizeOf5 rfl rfl (by omega) (by omega) ?_
  rw [show ((n : Int) + 9).toNat = n + 9 by omega]
  refine l_assign rfl rfl ?_
  refine l_nil ?_
  refine g_seq ?_
  refine g_region ?_
  refine l_assign rfl rfl ?_
  refine l_nil ?_
  refine g_seq ?_
  refine g_seq ?_
  refine g_region ?_
  refine l_assign rfl rfl ?_
  refine l_nil ?_
  refine g_block ?_
  refine g_loopk (X := Int × List Int) [(1, _), (4, _), (5, _)] (.cons rfl (.cons rfl (.cons rfl (.nil)))) (fun z => 0 ≤ z.1 ∧ z.1 ≤ (n : Int) + 9 ∧ z.2.length = n + 9 ∧ (∀ j : Nat, z.1 ≤ j → z.2.getD j 0 = Z.getD j 0) ∧ ∀ q, q < z.1.toNat → z.2.getD q 0 = 78) (fun z => ((n : Int) + 9 - z.1).toNat) (fun z => [(6, .bool true), (7, .int .i64 z.1)]) (fun z => Own 5 1 (.slice (some ⟨g, 0, none⟩) (n + 9) (n + 9)) (n + 9) (ints .u8 z.2) :: F) (((0 : Int), Z)) (⟨by simp only; omega, by simp only; omega, hZ.1, fun j hj => rfl, fun q hq => by simp only at hq; omega⟩) (.cons rfl (.cons rfl .nil)) (fun w hw => SPI.holds hw) ?_
  rintro ⟨i, X⟩ ⟨i0, i1, hX, hx, hq⟩ ih
  dsimp only [List.cons_append, List.nil_append] at ih ⊢
  simp only at i0 i1 hX hx hq
  have hx1 := hZ.2.1 i.toNat
  have hx2 := hZ.2.2 i.toNat
  refine g_seq ?_
  refine g_seq ?_
  refine g_region ?_
  refine l_move rfl rfl ?_
  refine l_move rfl rfl ?_
  refine l_len rfl Try.underlying36 rfl ?_
  refine l_lss rfl rfl rfl ?_
  refine l_nil ?_
  refine g_cond rfl ?_ ?_
  · intro hbr
    have hbr := of_decide_eq_true hbr
    refine g_skip ?_
    refine g_seq ?_
    refine g_block ?_
    refine g_seq ?_
    refine g_seq ?_
    refine g_region ?_
    refine l_move rfl rfl ?_
    refine l_move rfl rfl ?_
    refine l_len rfl Try.underlying36 rfl ?_
    refine l_lss rfl rfl rfl ?_
    refine l_nil ?_
    refine g_cond rfl ?_ ?_
    · intro hbr
      have hbr := of_decide_eq_true hbr
      refine gp_start mo (by kernel_rfl) (by kernel_rfl) ?_
      obtain ⟨b9, o9, rfl, hr9⟩ := hI.some (i := i.toNat) (by omega)
      refine gp_quiet 0 rfl rfl rfl rfl rfl rfl (q_move rfl) ?_
      refine gp_quiet 1 rfl rfl rfl rfl rfl rfl (q_move rfl) ?_
      refine gp_split 24 rfl ?_ ?_
      · intro hbr
        have hg24 := hbr
        refine gp_quietg 2 rfl rfl rfl rfl rfl rfl (.yes rfl rfl (q_move rfl)) ?_
        refine gp_quietg 3 rfl rfl rfl rfl rfl rfl (.yes rfl rfl (q_move rfl)) ?_
        refine gp_quietg 4 rfl rfl rfl rfl rfl rfl (.yes rfl rfl (q_ixs Try.underlying36 Try.sizeOf5 rfl rfl (by omega) (by omega))) ?_
        refine gp_quietg 5 rfl rfl rfl rfl rfl rfl (.yes rfl rfl (q_loadc (v := .int .u8 (X.getD i.toNat 0)) Try.isAgg5 rfl (word_at (mem_getO 0 rfl) (by omega)))) ?_
        refine gp_quietg 6 rfl rfl rfl rfl rfl rfl (.yes rfl rfl (q_move rfl)) ?_
        refine gp_quietg 7 rfl rfl rfl rfl rfl rfl (.yes rfl rfl (q_move rfl)) ?_
        refine gp_quietg 8 rfl rfl rfl rfl rfl rfl (.yes rfl rfl (q_ixs Try.underlying36 Try.sizeOf5 rfl rfl (by omega) (by omega))) ?_
        refine gp_quietg 9 rfl rfl rfl rfl rfl rfl (.yes rfl rfl (q_loadc (v := .int .u8 (l.getD i.toNat 0)) Try.isAgg5 rfl (word_any hr9 (by omega)))) ?_
        refine gp_quietg 10 rfl rfl rfl rfl rfl rfl (.yes rfl rfl (q_eql rfl rfl)) ?_
        rw [decide_eq_true (show X.getD i.toNat 0 = l.getD i.toNat 0 by rw [hx i.toNat (by omega)]; exact hx1 (by omega))]
        refine gp_quiet 11 rfl rfl rfl rfl rfl rfl (q_pick_t rfl rfl) ?_
        refine gp_after 12 rfl rfl rfl rfl rfl rfl rfl rfl (q_assign rfl) ?_
        refine gp_end rfl rfl ?_
        refine g_region ?_
        refine l_move rfl rfl ?_
        refine l_move rfl rfl ?_
        refine l_ixs rfl Try.underlying36 Try.sizeOf5 rfl rfl (by omega) (by omega) ?_
        refine l_storew 0 Try.sizeOf5 rfl rfl rfl (by omega) rfl ?_
        refine l_nil ?_
        refine g_inBlock ?_
        refine g_region ?_
        refine l_move rfl rfl ?_
        first | refine l_add rfl rfl rfl (w_i64 (by omega) (by omega)) ?_ | refine l_addw rfl rfl rfl ?_
        refine l_assign rfl rfl ?_
        refine l_nil ?_
        have hrn := rep_next hX hq (show i.toNat < n + 9 by omega)
        rw [show i.toNat + 1 = (i + 1).toNat by omega] at hrn
        exact g_againi (ih (i + 1, X.set i.toNat 78) ⟨by simp only; omega, by simp only; omega, by simp only [List.length_set]; exact hX, fun j hj => by simp only at hj ⊢; rw [gx_set8 (by omega), if_neg (by omega)]; exact hx j (by omega), hrn⟩ (by simp only; omega)) (.cons rfl (.cons rfl (.cons rfl (.cons rfl (.cons rfl (.nil))))))
      · intro hbr
        first | (exfalso; simp at hbr; done) | (exfalso; simp at hbr; omega) | (exfalso; first | omega | (simp at hbr; done))
    intro hbr
    have hbr := of_decide_eq_false hbr
    refine g_region ?_
    refine l_move rfl rfl ?_
    refine l_move rfl rfl ?_
    refine l_split 36 rfl ?_ ?_
    · intro hbr
      refine l_guard_yes rfl rfl ?_
      refine l_move rfl rfl ?_
      refine l_guard_yes rfl rfl ?_
      refine l_move rfl rfl ?_
      refine l_guard_yes rfl rfl ?_
      refine l_ixs rfl Try.underlying36 Try.sizeOf5 rfl rfl (by omega) (by omega) ?_
      refine l_guard_yes rfl rfl ?_
      refine l_loadc (v := .int .u8 (X.getD i.toNat 0)) rfl Try.isAgg5 rfl (word_at (mem_getO 0 rfl) (by omega)) ?_
      refine l_guard_yes rfl rfl ?_
      refine l_eql rfl rfl rfl ?_
      rw [decide_eq_true (show X.getD i.toNat 0 = 77 by rw [hx i.toNat (by omega)]; exact hx2 (by omega) (by omega))]
      refine l_pick_t rfl rfl rfl ?_
      refine l_assign rfl rfl ?_
      refine l_nil ?_
      refine g_region ?_
      refine l_move rfl rfl ?_
      refine l_move rfl rfl ?_
      refine l_ixs rfl Try.underlying36 Try.sizeOf5 rfl rfl (by omega) (by omega) ?_
      refine l_storew 0 Try.sizeOf5 rfl rfl rfl (by omega) rfl ?_
      refine l_nil ?_
      refine g_inBlock ?_
      refine g_region ?_
      refine l_move rfl rfl ?_
      first | refine l_add rfl rfl rfl (w_i64 (by omega) (by omega)) ?_ | refine l_addw rfl rfl rfl ?_
      refine l_assign rfl rfl ?_
      refine l_nil ?_
      have hrn := rep_next hX hq (show i.toNat < n + 9 by omega)
      rw [show i.toNat + 1 = (i + 1).toNat by omega] at hrn
      exact g_againi (ih (i + 1, X.set i.toNat 78) ⟨by simp only; omega, by simp only; omega, by simp only [List.length_set]; exact hX, fun j hj => by simp only at hj ⊢; rw [gx_set8 (by omega), if_neg (by omega)]; exact hx j (by omega), hrn⟩ (by simp only; omega)) (.cons rfl (.cons rfl (.cons rfl (.cons rfl (.cons rfl (.nil))))))
    · intro hbr
      first | (exfalso; simp at hbr; done) | (exfalso; simp at hbr; omega) | (exfalso; first | omega | (simp at hbr; done))
  intro hbr
  have hbr := of_decide_eq_false hbr
  refine g_exit rfl ?_
  obtain rfl : i = (n : Int) + 9 := by omega
  obtain rfl : X = List.replicate (n + 9) 78 := rep_full hX (fun q hq9 => hq q (by omega))
  refine g_seq ?_
  refine g_region ?_
  refine l_move rfl rfl ?_
  refine l_assign rfl rfl ?_
  refine l_nil ?_
  refine g_ret Try.func51 rfl (.tmp rfl .nil) ?_
  exact Gives.mki ⟨rfl, rfl⟩
set_option maxHeartbeats 4000000 in
theorem back2_ok (w0 : World) (F : List Atom) (g : Nat) (Z : List Int) (a : Option Addr) (n c : Nat) (l : List Int) (hl : l.length = n) (hI : IR w0 F .u32 a n l) (hn : n ≤ 2147483800) (hU : W32s l) (hZ : LentG l n Z) :
    CallK Try.prog 59 [.slice (some ⟨g, 0, none⟩) n (n + 9), .slice a n c] w0 (Own 23 1 (.slice (some ⟨g, 0, none⟩) (n + 9) (n + 9)) (n + 9) (ints .u32 Z) :: F) (Gives w0 fun v F2 => v = .bool true ∧ F2 = Own 23 1 (.slice (some ⟨g, 0, none⟩) (n + 9) (n + 9)) (n + 9) (ints .u32 (List.replicate (n + 9) 2021161080)) :: F) := by
  refine c_enter Try.func59 rfl rfl rfl ?_
  refine g_seq ?_
  refine g_region ?_
  refine l_assign rfl rfl ?_
  refine l_nil ?_
  refine g_seq ?_
  refine g_region ?_
  refine l_move rfl rfl ?_
  refine l_move rfl rfl ?_
  refine l_len rfl Try.underlying54 rfl ?_
  first | refine l_add rfl rfl rfl (w_i64 (by omega) (by omega)) ?_ | refine l_addw rfl rfl rfl ?_
  refine l_slice_hi rfl Try.underlying54 Try.sizeOf23 rfl rfl (by omega) (by omega) ?_
  rw [show ((n : Int) + 9).toNat = n + 9 by omega]
  refine l_assign rfl rfl ?_
  refine l_nil ?_
  refine g_seq ?_
  refine g_region ?_
  refine l_assign rfl rfl ?_
  refine l_nil ?_
  refine g_seq ?_
  refine g_seq ?_
  refine g_region ?_
  refine l_assign rfl rfl ?_
  refine l_nil ?_
  refine g_block ?_
  refine g_loopk (X := Int × List Int) [(1, _), (4, _), (5, _)] (.cons rfl (.cons rfl (.cons rfl (.nil)))) (fun z => 0 ≤ z.1 ∧ z.1 ≤ (n : Int) + 9 ∧ z.2.length = n + 9 ∧ (∀ j : Nat, z.1 ≤ j → z.2.getD j 0 = Z.getD j 0) ∧ ∀ q, q < z.1.toNat → z.2.getD q 0 = 2021161080) (fun z => ((n : Int) + 9 - z.1).toNat) (fun z => [(6, .bool true), (7, .int .i64 z.1)]) (fun z => Own 23 1 (.slice (some ⟨g, 0, none⟩) (n + 9) (n + 9)) (n + 9) (ints .u32 z.2) :: F) (((0 : Int), Z)) (⟨by simp only; omega, by simp only; omega, hZ.1, fun j hj => rfl, fun q hq => by simp only at hq; omega⟩) (.cons rfl (.cons rfl .nil)) (fun w hw => SPI.holds hw) ?_
  rintro ⟨i, X⟩ ⟨i0, i1, hX, hx, hq⟩ ih
  dsimp only [List.cons_append, List.nil_append] at ih ⊢
  simp only at i0 i1 hX hx hq
  have hx1 := hZ.2.1 i.toNat
  have hx2 := hZ.2.2 i.toNat
  refine g_seq ?_
  refine g_seq ?_
  refine g_region ?_
  refine l_move rfl rfl ?_
  refine l_move rfl rfl ?_
  refine l_len rfl Try.underlying54 rfl ?_
  refine l_lss rfl rfl rfl ?_
  refine l_nil ?_
  refine g_cond rfl ?_ ?_
  · intro hbr
    have hbr := of_decide_eq_true hbr
    refine g_skip ?_
    refine g_seq ?_
    refine g_block ?_
    refine g_seq ?_
    refine g_seq ?_
    refine g_region ?_
    refine l_move rfl rfl ?_
    refine l_move rfl rfl ?_
    refine l_len rfl Try.underlying54 rfl ?_
    refine l_lss rfl rfl rfl ?_
    refine l_nil ?_
    refine g_cond rfl ?_ ?_
    · intro hbr
      have hbr := of_decide_eq_true hbr
      refine gp_start mo (by kernel_rfl) (by kernel_rfl) ?_
      obtain ⟨b9, o9, rfl, hr9⟩ := hI.some (i := i.toNat) (by omega)
      refine gp_quiet 0 rfl rfl rfl rfl rfl rfl (q_move rfl) ?_
      refine gp_quiet 1 rfl rfl rfl rfl rfl rfl (q_move rfl) ?_
      refine gp_split 24 rfl ?_ ?_
      · intro hbr
        have hg24 := hbr
        refine gp_quietg 2 rfl rfl rfl rfl rfl rfl (.yes rfl rfl (q_move rfl)) ?_
        refine gp_quietg 3 rfl rfl rfl rfl rfl rfl (.yes rfl rfl (q_move rfl)) ?_
        refine gp_quietg 4 rfl rfl rfl rfl rfl rfl (.yes rfl rfl (q_ixs Try.underlying54 Try.sizeOf23 rfl rfl (by omega) (by omega))) ?_
        refine gp_quietg 5 rfl rfl rfl rfl rfl rfl (.yes rfl rfl (q_loadc (v := .int .u32 (X.getD i.toNat 0)) Try.isAgg23 rfl (word_at (mem_getO 0 rfl) (by omega)))) ?_
        refine gp_quietg 6 rfl rfl rfl rfl rfl rfl (.yes rfl rfl (q_move rfl)) ?_
        refine gp_quietg 7 rfl rfl rfl rfl rfl rfl (.yes rfl rfl (q_move rfl)) ?_
        refine gp_quietg 8 rfl rfl rfl rfl rfl rfl (.yes rfl rfl (q_ixs Try.underlying54 Try.sizeOf23 rfl rfl (by omega) (by omega))) ?_
        refine gp_quietg 9 rfl rfl rfl rfl rfl rfl (.yes rfl rfl (q_loadc (v := .int .u32 (l.getD i.toNat 0)) Try.isAgg23 rfl (word_any hr9 (by omega)))) ?_
        refine gp_quietg 10 rfl rfl rfl rfl rfl rfl (.yes rfl rfl (q_eql rfl rfl)) ?_
        rw [decide_eq_true (show X.getD i.toNat 0 = l.getD i.toNat 0 by rw [hx i.toNat (by omega)]; exact hx1 (by omega))]
        refine gp_quiet 11 rfl rfl rfl rfl rfl rfl (q_pick_t rfl rfl) ?_
        refine gp_after 12 rfl rfl rfl rfl rfl rfl rfl rfl (q_assign rfl) ?_
        refine gp_end rfl rfl ?_
        refine g_region ?_
        refine l_move rfl rfl ?_
        refine l_move rfl rfl ?_
        refine l_ixs rfl Try.underlying54 Try.sizeOf23 rfl rfl (by omega) (by omega) ?_
        refine l_storew 0 Try.sizeOf23 rfl rfl rfl (by omega) rfl ?_
        refine l_nil ?_
        refine g_inBlock ?_
        refine g_region ?_
        refine l_move rfl rfl ?_
        first | refine l_add rfl rfl rfl (w_i64 (by omega) (by omega)) ?_ | refine l_addw rfl rfl rfl ?_
        refine l_assign rfl rfl ?_
        refine l_nil ?_
        have hrn := rep_next hX hq (show i.toNat < n + 9 by omega)
        rw [show i.toNat + 1 = (i + 1).toNat by omega] at hrn
        exact g_againi (ih (i + 1, X.set i.toNat 2021161080) ⟨by simp only; omega, by simp only; omega, by simp only [List.length_set]; exact hX, fun j hj => by simp only at hj ⊢; rw [gx_set (by omega), if_neg (by omega)]; exact hx j (by omega), hrn⟩ (by simp only; omega)) (.cons rfl (.cons rfl (.cons rfl (.cons rfl (.cons rfl (.nil))))))
      · intro hbr
        first | (exfalso; simp at hbr; done) | (exfalso; simp at hbr; omega) | (exfalso; first | omega | (simp at hbr; done))
    intro hbr
    have hbr := of_decide_eq_false hbr
    refine g_region ?_
    refine l_move rfl rfl ?_
    refine l_move rfl rfl ?_
    refine l_split 36 rfl ?_ ?_
    · intro hbr
      refine l_guard_yes rfl rfl ?_
      refine l_move rfl rfl ?_
      refine l_guard_yes rfl rfl ?_
      refine l_move rfl rfl ?_
      refine l_guard_yes rfl rfl ?_
      refine l_ixs rfl Try.underlying54 Try.sizeOf23 rfl rfl (by omega) (by omega) ?_
      refine l_guard_yes rfl rfl ?_
      refine l_loadc (v := .int .u32 (X.getD i.toNat 0)) rfl Try.isAgg23 rfl (word_at (mem_getO 0 rfl) (by omega)) ?_
      refine l_guard_yes rfl rfl ?_
      refine l_eql rfl rfl rfl ?_
      rw [decide_eq_true (show X.getD i.toNat 0 = 2004318071 by rw [hx i.toNat (by omega)]; exact hx2 (by omega) (by omega))]
      refine l_pick_t rfl rfl rfl ?_
      refine l_assign rfl rfl ?_
      refine l_nil ?_
      refine g_region ?_
      refine l_move rfl rfl ?_
      refine l_move rfl rfl ?_
      refine l_ixs rfl Try.underlying54 Try.sizeOf23 rfl rfl (by omega) (by omega) ?_
      refine l_storew 0 Try.sizeOf23 rfl rfl rfl (by omega) rfl ?_
      refine l_nil ?_
      refine g_inBlock ?_
      refine g_region ?_
      refine l_move rfl rfl ?_
      first | refine l_add rfl rfl rfl (w_i64 (by omega) (by omega)) ?_ | refine l_addw rfl rfl rfl ?_
      refine l_assign rfl rfl ?_
      refine l_nil ?_
      have hrn := rep_next hX hq (show i.toNat < n + 9 by omega)
      rw [show i.toNat + 1 = (i + 1).toNat by omega] at hrn
      exact g_againi (ih (i + 1, X.set i.toNat 2021161080) ⟨by simp only; omega, by simp only; omega, by simp only [List.length_set]; exact hX, fun j hj => by simp only at hj ⊢; rw [gx_set (by omega), if_neg (by omega)]; exact hx j (by omega), hrn⟩ (by simp only; omega)) (.cons rfl (.cons rfl (.cons rfl (.cons rfl (.cons rfl (.nil))))))
    · intro hbr
      first | (exfalso; simp at hbr; done) | (exfalso; simp at hbr; omega) | (exfalso; first | omega | (simp at hbr; done))
  intro hbr
  have hbr := of_decide_eq_false hbr
  refine g_exit rfl ?_
  obtain rfl : i = (n : Int) + 9 := by omega
  obtain rfl : X = List.replicate (n + 9) 2021161080 := rep_full hX (fun q hq9 => hq q (by omega))
  refine g_seq ?_
  refine g_region ?_
  refine l_move rfl rfl ?_
  refine l_assign rfl rfl ?_
  refine l_nil ?_
  refine g_ret Try.func59 rfl (.tmp rfl .nil) ?_
  exact Gives.mki ⟨rfl, rfl⟩
end Go.Proofs.Ytnkmhhjldfapdaa.Fw
