import Derived.Test.YthemlddepepekaaActsX
import Derived.Test.YthemlddepepekaaFw33
namespace Go.Proofs.Ythemlddepepekaa.Fw
open Go Go.Proofs
set_option linter.unusedVariables false
set_option linter.unusedSimpArgs false
set_option maxRecDepth 10000

theorem W32s.of {W : List Int} (h : ∀ x ∈ W, 0 ≤ x ∧ x ≤ 4294967295) : W32s W := by
  intro i
  rcases Nat.lt_or_ge i W.length with hi | hi
  · have : W.getD i 0 = W[i] := by simp [hi]
    rw [this]; exact h _ (List.getElem_mem _)
  · have : W.getD i 0 = 0 := by simp [List.getD_eq_getElem?_getD, hi]
    rw [this]; decide
theorem W32s.all {W : List Int} (h : W32s W) : ∀ x ∈ W, 0 ≤ x ∧ x ≤ 4294967295 := by
  intro x hx
  obtain ⟨i, hi, rfl⟩ := List.getElem_of_mem hx
  have := h i
  simpa [List.getD_eq_getElem?_getD, hi] using this
theorem W32s.part {W : List Int} (h : W32s W) (a m : Nat) : W32s ((W.drop a).take m) := .of fun x hx => h.all x (List.mem_of_mem_drop (List.mem_of_mem_take hx))
theorem W32s.set {W : List Int} (h : W32s W) (i : Nat) {x : Int} (hx : 0 ≤ x ∧ x ≤ 4294967295) : W32s (W.set i x) := .of fun y hy => by
  rcases List.mem_or_eq_of_mem_set hy with hy | rfl
  · exact h.all y hy
  · exact hx
theorem W32s.spl {W X : List Int} (h : W32s W) (hX : W32s X) (a : Nat) : W32s (spl a X W) := .of fun y hy => by
  unfold Fw.spl at hy
  rcases List.mem_append.1 hy with hy | hy
  · rcases List.mem_append.1 hy with hy | hy
    · exact h.all y (List.mem_of_mem_take hy)
    · exact hX.all y hy
  · exact h.all y (List.mem_of_mem_drop hy)
theorem W32s.rep (m : Nat) {x : Int} (hx : 0 ≤ x ∧ x ≤ 4294967295) : W32s (List.replicate m x) := .of fun y hy => by
  obtain rfl := List.eq_of_mem_replicate hy
  exact hx
/-- A list that was told: the list, what it must hold, both by their numbers. -/
structure BK where
  la : Option Addr
  lc : Nat
  wa : Option Addr
  wc : Nat
  n : Nat
  c : List Int
def bkR (b : BK) : List Value := [.slice b.la b.n b.lc, .slice b.wa b.n b.wc, .slice none 0 0, .slice none 0 0]
def bkA (b : BK) : Atom := Star (Own 51 1 (.slice b.la b.n b.lc) b.n (ints .u32 b.c)) (Own 51 1 (.slice b.wa b.n b.wc) b.n (ints .u32 b.c))
def BkOk (b : BK) : Prop := b.c.length = b.n ∧ b.n ≤ 1099511627776 ∧ W32s b.c ∧ (b.n = 0 ∨ ∃ g, b.la = some ⟨g, 0, none⟩) ∧ (b.n = 0 ∨ ∃ g, b.wa = some ⟨g, 0, none⟩)
theorem bkR_len (B : Nat → BK) (N : Nat) : ∀ q, q < N → (bkR (B q)).length = 4 := fun q _ => rfl
theorem own_irow {w0 : World} {F : List Atom} {a : Option Addr} {n c : Nat} {W : List Int} (h : ∀ w, Holds w0 F w → (Own 51 1 (.slice a n c) n (ints .u32 W)).ok (hp w)) (hW : W.length = n) (ha : n = 0 ∨ ∃ g, a = some ⟨g, 0, none⟩) : IR w0 F .u32 a n W :=
  ⟨hW, ha.imp id fun ⟨g, hg⟩ => ⟨g, 0, hg, fun w hw => own_row (by rw [← hg]; exact h w hw)⟩⟩
theorem bk_ir {w0 : World} {F : List Atom} {N j : Nat} {B : Nat → BK} (hm : BigF N (fun j => bkA (B j)) ∈ F) (hj : j < N) (ho : BkOk (B j)) : IR w0 F .u32 (B j).la (B j).n (B j).c ∧ IR w0 F .u32 (B j).wa (B j).n (B j).c :=
  ⟨own_irow (fun w hw => (big_ok hm hj hw).1) ho.1 ho.2.2.2.1, own_irow (fun w hw => (big_ok hm hj hw).2.1) ho.1 ho.2.2.2.2⟩
theorem reads_ir {w0 : World} {F : List Atom} {a : Option Addr} {n c : Nat} {W : List Int} {kd : IntKind} (h : Reads w0 F (.slice a n c) n 1 (ints kd W)) (hW : W.length = n) : IR w0 F kd a n W := ⟨hW, by
  rcases h.2 with ⟨b, o, cap, hv, hr⟩ | ⟨_, h0⟩
  · injection hv with e1 _ _
    exact .inr ⟨b, o, e1, hr⟩
  · exact .inl h0⟩
theorem reads_of {w0 : World} {F : List Atom} {E : Nat} {v : Value} {n : Nat} {kd : IntKind} {W : List Int} (hm : Own E 1 v n (ints kd W) ∈ F) (w : World) (hw : Holds w0 F w) : Reads w0 F v n 1 (ints kd W) := by
  obtain ⟨h1, _, h2⟩ := own_cases hm w hw
  rcases h2 with h2 | ⟨g, c, rfl, hc⟩
  · exact ⟨h1, .inr h2⟩
  · exact ⟨h1, .inl ⟨g, 0, c, rfl, .own hm⟩⟩
theorem samew_ok (w0 : World) (F : List Atom) (a1 a2 : Option Addr) (n c1 c2 : Nat) (W : List Int) (h1 : IR w0 F .u32 a1 n W) (h2 : IR w0 F .u32 a2 n W) (hb : W32s W) (hn : n ≤ 9223372036854775807) :
    CallK Try.prog 24 [.slice a1 n c1, .slice a2 n c2] w0 (F) (Gives w0 fun v F2 => v = .bool true ∧ F2 = F) := by
  have hl := h1.1
  refine c_enter Try.func24 rfl rfl rfl ?_
  refine g_seq ?_
  refine g_region ?_
  refine l_assign rfl rfl ?_
  refine l_nil ?_
  refine g_seq ?_
  refine g_seq ?_
  refine g_region ?_
  refine l_move rfl rfl ?_
  refine l_len rfl Try.underlying38 rfl ?_
  refine l_move rfl rfl ?_
  refine l_len rfl Try.underlying38 rfl ?_
  refine l_neq rfl rfl rfl ?_
  refine l_nil ?_
  refine g_cond rfl ?_ ?_
  · intro hbr
    have hbr := of_decide_eq_true hbr
    (exfalso; omega)
  intro hbr
  have hbr := of_decide_eq_false hbr
  refine g_skip ?_
  refine g_seq ?_
  refine g_seq ?_
  refine g_region ?_
  refine l_assign rfl rfl ?_
  refine l_nil ?_
  refine g_block ?_
  refine g_loopc (X := Int) [(0, _), (1, _)] (.cons rfl (.cons rfl (.nil))) (fun i => 0 ≤ i ∧ i ≤ n) (fun i => (n - i).toNat) (fun i => [(5, .int .i64 i)]) (0) (by omega) (.cons rfl .nil) ?_
  rintro i ⟨i0, i1⟩ ih
  dsimp only [List.cons_append, List.nil_append] at ih ⊢
  refine g_seq ?_
  refine g_seq ?_
  refine g_region ?_
  refine l_move rfl rfl ?_
  refine l_move rfl rfl ?_
  refine l_len rfl Try.underlying38 rfl ?_
  refine l_lss rfl rfl rfl ?_
  refine l_nil ?_
  refine g_cond rfl ?_ ?_
  · intro hbr
    have hbr := of_decide_eq_true hbr
    refine g_skip ?_
    refine g_seq ?_
    refine g_block ?_
    refine g_seq ?_
    refine gp_start mo (by kernel_rfl) (by kernel_rfl) ?_
    refine gp_quiet 0 rfl rfl rfl rfl rfl rfl (q_move rfl) ?_
    refine gp_quiet 1 rfl rfl rfl rfl rfl rfl (q_move rfl) ?_
    obtain ⟨b1, o1, rfl, hr1⟩ := h1.some (i := i.toNat) (by omega)
    refine gp_quiet 2 rfl rfl rfl rfl rfl rfl (q_ixs Try.underlying38 Try.sizeOf51 rfl rfl (by omega) (by omega)) ?_
    refine gp_quiet 3 rfl rfl rfl rfl rfl rfl (q_loadc Try.isAgg51 rfl (word_any hr1 (by omega))) ?_
    refine gp_quiet 4 rfl rfl rfl rfl rfl rfl (q_move rfl) ?_
    refine gp_quiet 5 rfl rfl rfl rfl rfl rfl (q_move rfl) ?_
    obtain ⟨b2, o2, rfl, hr2⟩ := h2.some (i := i.toNat) (by omega)
    refine gp_quiet 6 rfl rfl rfl rfl rfl rfl (q_ixs Try.underlying38 Try.sizeOf51 rfl rfl (by omega) (by omega)) ?_
    refine gp_quiet 7 rfl rfl rfl rfl rfl rfl (q_loadc Try.isAgg51 rfl (word_any hr2 (by omega))) ?_
    refine gp_quiet 8 rfl rfl rfl rfl rfl rfl (q_neq rfl rfl) ?_
    refine gp_end rfl rfl ?_
    refine g_cond rfl ?_ ?_
    · intro hbr
      have hbr := of_decide_eq_true hbr
      (exfalso; omega)
    intro hbr
    have hbr := of_decide_eq_false hbr
    refine g_skip ?_
    refine g_inBlock ?_
    refine g_region ?_
    refine l_move rfl rfl ?_
    first | refine l_add rfl rfl rfl (w_i64 (by omega) (by omega)) ?_ | refine l_addw rfl rfl rfl ?_
    refine l_assign rfl rfl ?_
    refine l_nil ?_
    exact g_againi (ih (i + 1) (by omega) (by omega)) (.cons rfl (.cons rfl (.cons rfl (.nil))))
  intro hbr
  have hbr := of_decide_eq_false hbr
  refine g_exit rfl ?_
  refine g_seq ?_
  refine g_region ?_
  refine l_assign rfl rfl ?_
  refine l_nil ?_
  refine g_ret Try.func24 rfl (.tmp rfl .nil) ?_
  exact Gives.mki ⟨rfl, rfl⟩
theorem allw_ok (w0 : World) (F : List Atom) (a : Option Addr) (len c n : Nat) (x y : Int) (W : List Int) (hI : IR w0 F .u32 a len W) (hl : len ≤ 140737488355327) (hn : n ≤ 140737488355327) (hW : ∀ j, j < len → W.getD j 0 = if j < n then x else y) :
    CallK Try.prog 58 [.slice a len c, .int .i64 n, .int .u32 x, .int .u32 y] w0 (F) (Gives w0 fun v F2 => v = .bool true ∧ F2 = F) := by
  have hWl := hI.1
  refine c_enter Try.func58 rfl rfl rfl ?_
  refine g_seq ?_
  refine g_region ?_
  refine l_assign rfl rfl ?_
  refine l_nil ?_
  refine g_seq ?_
  refine g_seq ?_
  refine g_region ?_
  refine l_assign rfl rfl ?_
  refine l_nil ?_
  refine g_block ?_
  refine g_loopc (X := Int) [(0, _), (1, _), (2, _), (3, _)] (.cons rfl (.cons rfl (.cons rfl (.cons rfl (.nil))))) (fun i => 0 ≤ i ∧ i ≤ len) (fun i => ((len : Int) - i).toNat) (fun i => [(9, .int .i64 i)]) (0) (by omega) (.cons rfl .nil) ?_
  rintro i ⟨i0, i1⟩ ih
  dsimp only [List.cons_append, List.nil_append] at ih ⊢
  have hWi := hW i.toNat
  refine g_seq ?_
  refine g_seq ?_
  refine g_region ?_
  refine l_move rfl rfl ?_
  refine l_move rfl rfl ?_
  refine l_len rfl Try.underlying38 rfl ?_
  refine l_lss rfl rfl rfl ?_
  refine l_nil ?_
  refine g_cond rfl ?_ ?_
  · intro hbr
    have hbr := of_decide_eq_true hbr
    refine g_skip ?_
    refine g_seq ?_
    refine g_block ?_
    refine g_seq ?_
    refine g_region ?_
    obtain ⟨b9, o9, rfl, hr9⟩ := hI.some (i := i.toNat) (by omega)
    refine l_move rfl rfl ?_
    refine l_move rfl rfl ?_
    refine l_lss rfl rfl rfl ?_
    refine l_move rfl rfl ?_
    refine l_split 19 rfl ?_ ?_
    · intro hbr
      have hbr := of_decide_eq_true hbr
      refine l_guard_yes rfl rfl ?_
      refine l_move rfl rfl ?_
      refine l_guard_yes rfl rfl ?_
      refine l_move rfl rfl ?_
      refine l_guard_yes rfl rfl ?_
      refine l_ixs rfl Try.underlying38 Try.sizeOf51 rfl rfl (by omega) (by omega) ?_
      refine l_guard_yes rfl rfl ?_
      refine l_loadc rfl Try.isAgg51 rfl (word_any hr9 (by omega)) ?_
      refine l_guard_yes rfl rfl ?_
      refine l_move rfl rfl ?_
      refine l_guard_yes rfl rfl ?_
      refine l_neq rfl rfl rfl ?_
      refine l_pick_t rfl rfl rfl ?_
      refine l_move rfl rfl ?_
      refine l_split 27 rfl ?_ ?_
      · intro hbr
        have hbr := of_decide_eq_true hbr
        (exfalso; first | omega | (simp at hbr; done))
      intro hbr
      have hbr := of_decide_eq_false hbr
      refine l_guard_yes rfl rfl ?_
      refine l_move rfl rfl ?_
      refine l_guard_yes rfl rfl ?_
      refine l_move rfl rfl ?_
      refine l_guard_yes rfl rfl ?_
      refine l_geq rfl rfl rfl ?_
      refine l_guard_yes rfl rfl ?_
      refine l_move rfl rfl ?_
      refine l_split 31 rfl ?_ ?_
      · intro hbr
        have hbr := of_decide_eq_true hbr
        (exfalso; first | omega | (simp at hbr; done))
      intro hbr
      have hbr := of_decide_eq_false hbr
      refine l_guard_no rfl rfl rfl ?_
      refine l_guard_no rfl rfl rfl ?_
      refine l_guard_no rfl rfl rfl ?_
      refine l_guard_no rfl rfl rfl ?_
      refine l_guard_no rfl rfl rfl ?_
      refine l_guard_no rfl rfl rfl ?_
      refine l_guard_yes rfl rfl ?_
      refine l_pick_f rfl rfl rfl ?_
      refine l_pick_f rfl rfl rfl ?_
      refine l_nil ?_
      first | refine g_cond_f rfl ?_ | refine g_cond_f (congrArg (fun b => some (Value.bool b)) (decide_eq_false hbr)) ?_
      refine g_skip ?_
      refine g_inBlock ?_
      refine g_region ?_
      refine l_move rfl rfl ?_
      first | refine l_add rfl rfl rfl (w_i64 (by omega) (by omega)) ?_ | refine l_addw rfl rfl rfl ?_
      refine l_assign rfl rfl ?_
      refine l_nil ?_
      exact g_againi (ih (i + 1) (by omega) (by omega)) (.cons rfl (.cons rfl (.cons rfl (.cons rfl (.cons rfl (.nil))))))
    intro hbr
    have hbr := of_decide_eq_false hbr
    refine l_guard_no rfl rfl rfl ?_
    refine l_guard_no rfl rfl rfl ?_
    refine l_guard_no rfl rfl rfl ?_
    refine l_guard_no rfl rfl rfl ?_
    refine l_guard_no rfl rfl rfl ?_
    refine l_guard_no rfl rfl rfl ?_
    refine l_pick_f rfl rfl rfl ?_
    refine l_move rfl rfl ?_
    refine l_guard_yes rfl rfl ?_
    refine l_move rfl rfl ?_
    refine l_guard_yes rfl rfl ?_
    refine l_move rfl rfl ?_
    refine l_guard_yes rfl rfl ?_
    refine l_geq rfl rfl rfl ?_
    refine l_guard_yes rfl rfl ?_
    refine l_move rfl rfl ?_
    refine l_split 31 rfl ?_ ?_
    · intro hbr
      have hbr := of_decide_eq_true hbr
      refine l_guard_yes rfl rfl ?_
      refine l_move rfl rfl ?_
      refine l_guard_yes rfl rfl ?_
      refine l_move rfl rfl ?_
      refine l_guard_yes rfl rfl ?_
      refine l_ixs rfl Try.underlying38 Try.sizeOf51 rfl rfl (by omega) (by omega) ?_
      refine l_guard_yes rfl rfl ?_
      refine l_loadc rfl Try.isAgg51 rfl (word_any hr9 (by omega)) ?_
      refine l_guard_yes rfl rfl ?_
      refine l_move rfl rfl ?_
      refine l_guard_yes rfl rfl ?_
      refine l_neq rfl rfl rfl ?_
      refine l_guard_yes rfl rfl ?_
      refine l_pick_t rfl rfl rfl ?_
      refine l_pick_f rfl rfl rfl ?_
      refine l_nil ?_
      refine g_cond rfl ?_ ?_
      · intro hbr
        have hbr := of_decide_eq_true hbr
        (exfalso; first | omega | (simp at hbr; done))
      intro hbr
      have hbr := of_decide_eq_false hbr
      refine g_skip ?_
      refine g_inBlock ?_
      refine g_region ?_
      refine l_move rfl rfl ?_
      first | refine l_add rfl rfl rfl (w_i64 (by omega) (by omega)) ?_ | refine l_addw rfl rfl rfl ?_
      refine l_assign rfl rfl ?_
      refine l_nil ?_
      exact g_againi (ih (i + 1) (by omega) (by omega)) (.cons rfl (.cons rfl (.cons rfl (.cons rfl (.cons rfl (.nil))))))
    · intro hbr
      have hbr := of_decide_eq_false hbr
      (exfalso; first | omega | (simp at hbr; done))
  intro hbr
  have hbr := of_decide_eq_false hbr
  refine g_exit rfl ?_
  refine g_seq ?_
  refine g_region ?_
  refine l_assign rfl rfl ?_
  refine l_nil ?_
  refine g_ret Try.func58 rfl (.tmp rfl .nil) ?_
  exact Gives.mki ⟨rfl, rfl⟩
end Go.Proofs.Ythemlddepepekaa.Fw
