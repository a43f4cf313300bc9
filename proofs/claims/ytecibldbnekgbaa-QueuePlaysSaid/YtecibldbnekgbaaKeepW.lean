import Derived.Test.YtecibldbnekgbaaQBase
namespace Go.Proofs.Ytecibldbnekgbaa.Fw
open Go Go.Proofs
set_option linter.unusedVariables false
set_option linter.unusedSimpArgs false
set_option maxRecDepth 10000

theorem getD_ext {X l : List Int} (hl : X.length = l.length) (h : ∀ j, j < l.length → X.getD j 0 = l.getD j 0) : X = l := by
  apply List.ext_getElem hl
  intro i h1 h2
  have := h i h2
  simpa [List.getD_eq_getElem?_getD, h1, h2] using this
theorem set_getD {X : List Int} {i j : Nat} {x : Int} (hi : i < X.length) : (X.set i x).getD j 0 = if i = j then x else X.getD j 0 := by
  simp only [List.getD_eq_getElem?_getD, List.getElem?_set]
  by_cases h : i = j
  · subst h; simp [hi]
  · simp [h]
/-- A list with marks behind it. -/
def FullG (mk : Int → Int) (l : List Int) (n : Nat) (X : List Int) : Prop := X.length = n + 70 ∧ (∀ j, j < n → X.getD j 0 = l.getD j 0) ∧ ∀ j, n ≤ j → j < n + 70 → X.getD j 0 = mk j
theorem own_shrink {E g m k cap : Nat} {xs : List Value} {h : Nat → Option Obj} (hk : k ≤ m) (ho : (Own E 1 (.slice (some ⟨g, 0, none⟩) m cap) m xs).ok h) : (Own E 1 (.slice (some ⟨g, 0, none⟩) k cap) k (xs.take k)).ok h := by
  obtain ⟨hl, hx⟩ := ho
  rcases hx with ⟨h1, _⟩ | ⟨g2, cap2, cur, hv, hg, h1, h2, h3, h4⟩
  · cases h1
  · injection hv with e1 e2 e3
    injection e1 with e1
    injection e1 with e1
    subst e1 e3
    refine ⟨by rw [List.length_take]; omega, .inr ⟨g, cap, cur, rfl, hg, by omega, h2, h3, ?_⟩⟩
    rw [← h4, List.take_take]
    congr 1
    omega
theorem g_shrink {P : Program} {f : FuncId} {w0 : World} {K : Post} {n : Nat} {d : List Deferred} {k : List Item} {e : Env} {F : List Atom} {E g m q cap : Nat} {xs : List Value} (hk : q ≤ m) (h : G P f w0 K n d k e (Own E 1 (.slice (some ⟨g, 0, none⟩) q cap) q (xs.take q) :: F)) : G P f w0 K n d k e (Own E 1 (.slice (some ⟨g, 0, none⟩) m cap) m xs :: F) := g_heap (fun w hw => hw.as (own_shrink hk) (fun b hb => hb)) h
theorem c_shrink {P : Program} {f : FuncId} {args : List Value} {w0 : World} {K : Post} {F : List Atom} {E g m q cap : Nat} {xs : List Value} (hk : q ≤ m) (h : CallK P f args w0 (Own E 1 (.slice (some ⟨g, 0, none⟩) q cap) q (xs.take q) :: F) K) : CallK P f args w0 (Own E 1 (.slice (some ⟨g, 0, none⟩) m cap) m xs :: F) K := fun w hw => h w (hw.as (own_shrink hk) (fun b hb => hb))
theorem ir_pre {w0 : World} {F : List Atom} {kd : IntKind} {E g n m cap : Nat} {l X : List Int} (hl : l.length = n) (hm : Own E 1 (.slice (some ⟨g, 0, none⟩) m cap) m (ints kd X) ∈ F) (hX : X.take n = l) : IR w0 F kd (some ⟨g, 0, none⟩) n l := by
  refine ⟨hl, .inr ⟨g, 0, rfl, ?_⟩⟩
  have := (RowAt.own (w0 := w0) hm).mid 0 n
  rw [List.drop_zero, ints_take, hX] at this
  exact this
theorem FullG.pre {mk : Int → Int} {l X : List Int} {n : Nat} (h : FullG mk l n X) (hl : l.length = n) : X.take n = l := by
  obtain ⟨h1, h2, _⟩ := h
  refine getD_ext (by rw [List.length_take]; omega) fun j hj => ?_
  have e : (X.take n).getD j 0 = X.getD j 0 := by simp [List.getD_eq_getElem?_getD, List.getElem?_take, show j < n by omega]
  rw [e]
  exact h2 j (by omega)
def markV (i : Int) : Int := (2768240640 + i % 4294967296 * 7 % 4294967296) % 4294967296
def markI (i : Int) : Int := -5000 - i
theorem markWord_ok (w0 : World) (F : List Atom) (i : Int) :
    CallK Try.prog 51 [.int .i64 i] w0 (F) (Gives w0 fun v F2 => v = .int .u32 (markV i) ∧ F2 = F) := by
  refine c_enter Try.func51 rfl rfl rfl ?_
  refine g_seq ?_
  refine g_region ?_
  refine l_assign rfl rfl ?_
  refine l_nil ?_
  refine g_seq ?_
  refine g_region ?_
  refine l_move rfl rfl ?_
  refine l_convm (m := 4294967296) rfl wr_u32 Try.underlying3 Try.underlying33 rfl ?_
  refine l_mulm (m := 4294967296) rfl wr_u32 rfl rfl ?_
  refine l_addm (m := 4294967296) rfl wr_u32 rfl rfl ?_
  refine l_assign rfl rfl ?_
  refine l_nil ?_
  refine g_ret Try.func51 rfl (.tmp rfl .nil) ?_
  exact Gives.mki ⟨rfl, rfl⟩
set_option maxHeartbeats 4000000 in
theorem words_full (w0 : World) (F : List Atom) (a : Option Addr) (n c : Nat) (l : List Int) (hI : IR w0 F .u32 a n l) (hn : n ≤ 35184372087808) (hU : W32s l) :
    CallK Try.prog 34 [.slice a n c] w0 (F) (Gives w0 fun v F2 => ∃ g X, v = .slice (some ⟨g, 0, none⟩) n (n + 70) ∧ FullG markV l n X ∧ F2 = Own 33 1 (.slice (some ⟨g, 0, none⟩) (n + 70) (n + 70)) (n + 70) (ints .u32 X) :: F) := by
  have hl := hI.1
  refine c_enter Try.func34 rfl rfl rfl ?_
  refine g_seq ?_
  refine g_region ?_
  refine l_assign rfl rfl ?_
  refine l_nil ?_
  refine g_seq ?_
  refine g_region ?_
  refine l_move rfl rfl ?_
  refine l_len rfl Try.underlying29 rfl ?_
  first | refine l_add rfl rfl rfl (w_i64 (by omega) (by omega)) ?_ | refine l_addw rfl rfl rfl ?_
  refine l_makew rfl Try.underlying29 Try.type33 rfl rfl rfl rfl (by omega) (by show (4 : Int) * _ ≤ _; omega) (by omega) ?_; intro b9m; rw [show ((n : Int) + 70).toNat = n + 70 by omega]
  refine l_assign rfl rfl ?_
  refine l_nil ?_
  refine g_seq ?_
  refine g_seq ?_
  refine g_region ?_
  refine l_assign rfl rfl ?_
  refine l_nil ?_
  refine g_block ?_
  refine g_loopk (X := Int × List Int) [(0, _), (2, _), (3, _)] (.cons rfl (.cons rfl (.cons rfl (.nil)))) (fun z => 0 ≤ z.1 ∧ z.1 ≤ n + 70 ∧ z.2.length = n + 70 ∧ ∀ j : Nat, j < z.1 → z.2.getD j 0 = markV j) (fun z => ((n : Int) + 70 - z.1).toNat) (fun z => [(4, .int .i64 z.1)]) (fun z => Own 33 1 (.slice (some ⟨b9m, 0, none⟩) (n + 70) (n + 70)) (n + 70) (ints .u32 z.2) :: F) ((0, List.replicate (n + 70) 0)) (⟨by simp only; omega, by simp only; omega, by simp, fun j hj => by simp only at hj; omega⟩) (.cons rfl .nil) (fun w hw => SPI.holds hw) ?_
  rintro ⟨i, X⟩ ⟨i0, i1, hX, hz⟩ ih
  dsimp only [List.cons_append, List.nil_append] at ih ⊢
  simp only at i0 i1 hX hz
  refine g_seq ?_
  refine g_seq ?_
  refine g_region ?_
  refine l_move rfl rfl ?_
  refine l_move rfl rfl ?_
  refine l_len rfl Try.underlying29 rfl ?_
  refine l_lss rfl rfl rfl ?_
  refine l_nil ?_
  refine g_cond rfl ?_ ?_
  · intro hbr
    have hbr := of_decide_eq_true hbr
    refine g_skip ?_
    refine g_seq ?_
    refine g_block ?_
    refine g_region ?_
    refine l_move rfl rfl ?_
    refine l_move rfl rfl ?_
    refine l_move rfl rfl ?_
    refine l_call rfl Try.call51 rfl (markWord_ok _ _ i) ?_; rintro _ F9 ⟨rfl, hF9⟩; rw [hF9]; clear hF9 F9
    refine l_ixs rfl Try.underlying29 Try.sizeOf33 rfl rfl (by omega) (by omega) ?_
    refine l_storew 0 Try.sizeOf33 rfl rfl rfl (by omega) rfl ?_
    refine l_nil ?_
    refine g_inBlock ?_
    refine g_region ?_
    refine l_move rfl rfl ?_
    first | refine l_add rfl rfl rfl (w_i64 (by omega) (by omega)) ?_ | refine l_addw rfl rfl rfl ?_
    refine l_assign rfl rfl ?_
    refine l_nil ?_
    exact g_againi (ih (i + 1, X.set i.toNat (markV i)) ⟨by simp only; omega, by simp only; omega, by simp only [List.length_set]; exact hX, fun j hj => by simp only at hj ⊢; rw [set_getD (by omega)]; split; (rw [show (j : Int) = i by omega]); exact hz j (by omega)⟩ (by simp only; omega)) (.cons rfl (.cons rfl (.cons rfl (.cons rfl (.nil)))))
  intro hbr
  have hbr := of_decide_eq_false hbr
  refine g_exit rfl ?_
  obtain rfl : i = n + 70 := by omega
  refine g_seq ?_
  refine g_seq ?_
  refine g_region ?_
  refine l_assign rfl rfl ?_
  refine l_nil ?_
  refine g_block ?_
  refine g_loopk (X := Int × List Int) [(0, _), (2, _), (3, _)] (.cons rfl (.cons rfl (.cons rfl (.nil)))) (fun z => 0 ≤ z.1 ∧ z.1 ≤ n ∧ z.2.length = n + 70 ∧ (∀ j : Nat, j < z.1 → z.2.getD j 0 = l.getD j 0) ∧ ∀ j : Nat, n ≤ j → j < n + 70 → z.2.getD j 0 = markV j) (fun z => ((n : Int) - z.1).toNat) (fun z => [(5, .int .i64 z.1)]) (fun z => Own 33 1 (.slice (some ⟨b9m, 0, none⟩) (n + 70) (n + 70)) (n + 70) (ints .u32 z.2) :: F) ((0, X)) (⟨by simp only; omega, by simp only; omega, hX, fun j hj => by simp only at hj; omega, fun j h1 h2 => hz j (by omega)⟩) (.cons rfl .nil) (fun w hw => SPI.holds hw) ?_
  rintro ⟨i, X⟩ ⟨i0, i1, hX, hz, hy⟩ ih
  dsimp only [List.cons_append, List.nil_append] at ih ⊢
  simp only at i0 i1 hX hz hy
  refine g_seq ?_
  refine g_seq ?_
  refine g_region ?_
  refine l_move rfl rfl ?_
  refine l_move rfl rfl ?_
  refine l_len rfl Try.underlying29 rfl ?_
  refine l_lss rfl rfl rfl ?_
  refine l_nil ?_
  refine g_cond rfl ?_ ?_
  · intro hbr
    have hbr := of_decide_eq_true hbr
    refine g_skip ?_
    refine g_seq ?_
    refine g_block ?_
    refine g_region ?_
    refine l_move rfl rfl ?_
    refine l_move rfl rfl ?_
    refine l_move rfl rfl ?_
    refine l_move rfl rfl ?_
    have hbi := hU i.toNat
    obtain ⟨b9, o9, rfl, hr9⟩ := hI.some (i := i.toNat) (by omega)
    refine l_ixs rfl Try.underlying29 Try.sizeOf33 rfl rfl (by omega) (by omega) ?_
    refine l_loadc rfl Try.isAgg33 rfl (word_any hr9 (by omega)) ?_
    refine l_ixs rfl Try.underlying29 Try.sizeOf33 rfl rfl (by omega) (by omega) ?_
    refine l_storew 0 Try.sizeOf33 rfl rfl rfl (by omega) rfl ?_
    refine l_nil ?_
    refine g_inBlock ?_
    refine g_region ?_
    refine l_move rfl rfl ?_
    first | refine l_add rfl rfl rfl (w_i64 (by omega) (by omega)) ?_ | refine l_addw rfl rfl rfl ?_
    refine l_assign rfl rfl ?_
    refine l_nil ?_
    exact g_againi (ih (i + 1, X.set i.toNat (l.getD i.toNat 0)) ⟨by simp only; omega, by simp only; omega, by simp only [List.length_set]; exact hX, fun j hj => by simp only at hj ⊢; rw [set_getD (by omega)]; split; (rw [show i.toNat = j by omega]); exact hz j (by omega), fun j h1 h2 => by simp only; rw [set_getD (by omega), if_neg (by omega)]; exact hy j h1 h2⟩ (by simp only; omega)) (.cons rfl (.cons rfl (.cons rfl (.cons rfl (.nil)))))
  intro hbr
  have hbr := of_decide_eq_false hbr
  refine g_exit rfl ?_
  obtain rfl : i = n := by omega
  refine g_seq ?_
  refine g_region ?_
  refine l_move rfl rfl ?_
  refine l_move rfl rfl ?_
  refine l_len rfl Try.underlying29 rfl ?_
  refine l_slice_hi rfl Try.underlying29 Try.sizeOf33 rfl rfl (by omega) (by omega) ?_
  refine l_assign rfl rfl ?_
  refine l_nil ?_
  refine g_ret Try.func34 rfl (.tmp rfl .nil) ?_
  exact Gives.mki ⟨b9m, X, by rw [Int.toNat_natCast]; rfl, ⟨hX, fun j hj => hz j (by omega), hy⟩, rfl⟩
theorem words_kept (w0 : World) (F : List Atom) (g : Nat) (X : List Int) (a : Option Addr) (n c : Nat) (l : List Int) (hI : IR w0 F .u32 a n l) (hn : n ≤ 35184372087808) (hU : W32s l) (hX : FullG markV l n X) :
    CallK Try.prog 36 [.slice (some ⟨g, 0, none⟩) n (n + 70), .slice a n c] w0 (Own 33 1 (.slice (some ⟨g, 0, none⟩) (n + 70) (n + 70)) (n + 70) (ints .u32 X) :: F) (Gives w0 fun v F2 => v = .bool true ∧ F2 = Own 33 1 (.slice (some ⟨g, 0, none⟩) (n + 70) (n + 70)) (n + 70) (ints .u32 X) :: F) := by
  have hl := hI.1
  have hXl := hX.1
  refine c_enter Try.func36 rfl rfl rfl ?_
  refine g_seq ?_
  refine g_region ?_
  refine l_assign rfl rfl ?_
  refine l_nil ?_
  refine g_seq ?_
  refine g_seq ?_
  refine g_region ?_
  refine l_move rfl rfl ?_
  refine l_len rfl Try.underlying29 rfl ?_
  refine l_move rfl rfl ?_
  refine l_len rfl Try.underlying29 rfl ?_
  refine l_neq rfl rfl rfl ?_
  refine l_nil ?_
  refine g_cond rfl ?_ ?_
  · intro hbr
    have hbr := of_decide_eq_true hbr
    (exfalso; omega)
  intro hbr
  have hbr := of_decide_eq_false hbr
  refine g_skip ?_
  refine g_seq ?_
  refine g_region ?_
  refine l_move rfl rfl ?_
  refine l_move rfl rfl ?_
  refine l_len rfl Try.underlying29 rfl ?_
  first | refine l_add rfl rfl rfl (w_i64 (by omega) (by omega)) ?_ | refine l_addw rfl rfl rfl ?_
  refine l_slice_hi rfl Try.underlying29 Try.sizeOf33 rfl rfl (by omega) (by omega) ?_
  rw [show ((n : Int) + 70).toNat = n + 70 by omega]
  refine l_assign rfl rfl ?_
  refine l_nil ?_
  refine g_seq ?_
  refine g_seq ?_
  refine g_region ?_
  refine l_assign rfl rfl ?_
  refine l_nil ?_
  refine g_block ?_
  refine g_loopc (X := Int) [(1, _), (5, _)] (.cons rfl (.cons rfl (.nil))) (fun i => 0 ≤ i ∧ i ≤ (n : Int) + 70) (fun i => ((n : Int) + 70 - i).toNat) (fun i => [(6, .int .i64 i)]) (0) (by omega) (.cons rfl .nil) ?_
  rintro i ⟨i0, i1⟩ ih
  dsimp only [List.cons_append, List.nil_append] at ih ⊢
  have hX1 : i.toNat < n → X.getD i.toNat 0 = l.getD i.toNat 0 := hX.2.1 i.toNat
  have hX2 : n ≤ i.toNat → i.toNat < n + 70 → X.getD i.toNat 0 = markV i := fun h1 h2 => by rw [hX.2.2 i.toNat h1 h2, Int.toNat_of_nonneg i0]
  refine g_seq ?_
  refine g_seq ?_
  refine g_region ?_
  refine l_move rfl rfl ?_
  refine l_move rfl rfl ?_
  refine l_len rfl Try.underlying29 rfl ?_
  refine l_lss rfl rfl rfl ?_
  refine l_nil ?_
  refine g_cond rfl ?_ ?_
  · intro hbr
    have hbr := of_decide_eq_true hbr
    refine g_skip ?_
    refine g_seq ?_
    refine g_block ?_
    refine g_seq ?_
    refine g_region ?_
    refine l_move rfl rfl ?_
    refine l_call rfl Try.call51 rfl (markWord_ok _ _ i) ?_; rintro _ _ ⟨rfl, rfl⟩
    refine l_assign rfl rfl ?_
    refine l_nil ?_
    refine g_seq ?_
    refine g_seq ?_
    refine g_region ?_
    refine l_move rfl rfl ?_
    refine l_move rfl rfl ?_
    refine l_len rfl Try.underlying29 rfl ?_
    refine l_lss rfl rfl rfl ?_
    refine l_nil ?_
    refine g_cond rfl ?_ ?_
    · intro hbr
      have hbr := of_decide_eq_true hbr
      refine g_region ?_
      refine l_move rfl rfl ?_
      refine l_move rfl rfl ?_
      obtain ⟨b9, o9, rfl, hr9⟩ := hI.some (i := i.toNat) (by omega)
      refine l_ixs rfl Try.underlying29 Try.sizeOf33 rfl rfl (by omega) (by omega) ?_
      refine l_loadc rfl Try.isAgg33 rfl (word_any hr9 (by omega)) ?_
      refine l_assign rfl rfl ?_
      refine l_nil ?_
      refine g_seq ?_
      refine g_region ?_
      refine l_move rfl rfl ?_
      refine l_move rfl rfl ?_
      refine l_ixs rfl Try.underlying29 Try.sizeOf33 rfl rfl (by omega) (by omega) ?_
      refine l_loadc rfl Try.isAgg33 rfl (word_at (mem_getO 0 rfl) (by omega)) ?_
      refine l_move rfl rfl ?_
      refine l_neq rfl rfl rfl ?_
      refine l_nil ?_
      refine g_cond rfl ?_ ?_
      · intro hbr
        have hbr := of_decide_eq_true hbr
        (exfalso; omega)
      intro hbr
      have hbr := of_decide_eq_false hbr
      refine g_skip ?_
      refine g_inBlock ?_
      refine g_region ?_
      refine l_move rfl rfl ?_
      first | refine l_add rfl rfl rfl (w_i64 (by omega) (by omega)) ?_ | refine l_addw rfl rfl rfl ?_
      refine l_assign rfl rfl ?_
      refine l_nil ?_
      exact g_againi (ih (i + 1) (by omega) (by omega)) (.cons rfl (.cons rfl (.cons rfl (.nil))))
    intro hbr
    have hbr := of_decide_eq_false hbr
    refine g_skip ?_
    refine g_seq ?_
    refine g_region ?_
    refine l_move rfl rfl ?_
    refine l_move rfl rfl ?_
    refine l_ixs rfl Try.underlying29 Try.sizeOf33 rfl rfl (by omega) (by omega) ?_
    refine l_loadc rfl Try.isAgg33 rfl (word_at (mem_getO 0 rfl) (by omega)) ?_
    refine l_move rfl rfl ?_
    refine l_neq rfl rfl rfl ?_
    refine l_nil ?_
    refine g_cond rfl ?_ ?_
    · intro hbr
      have hbr := of_decide_eq_true hbr
      (exfalso; omega)
    intro hbr
    have hbr := of_decide_eq_false hbr
    refine g_skip ?_
    refine g_inBlock ?_
    refine g_region ?_
    refine l_move rfl rfl ?_
    first | refine l_add rfl rfl rfl (w_i64 (by omega) (by omega)) ?_ | refine l_addw rfl rfl rfl ?_
    refine l_assign rfl rfl ?_
    refine l_nil ?_
    exact g_againi (ih (i + 1) (by omega) (by omega)) (.cons rfl (.cons rfl (.cons rfl (.nil))))
  intro hbr
  have hbr := of_decide_eq_false hbr
  refine g_exit rfl ?_
  refine g_seq ?_
  refine g_region ?_
  refine l_assign rfl rfl ?_
  refine l_nil ?_
  refine g_ret Try.func36 rfl (.tmp rfl .nil) ?_
  exact Gives.mki ⟨rfl, rfl⟩
set_option maxHeartbeats 4000000 in
theorem ints_full (w0 : World) (F : List Atom) (a : Option Addr) (n c : Nat) (l : List Int) (hI : IR w0 F .i64 a n l) (hn : n ≤ 17592186043904) (hU : ∀ i, -9223372036854775808 ≤ l.getD i 0 ∧ l.getD i 0 ≤ 9223372036854775807) :
    CallK Try.prog 39 [.slice a n c] w0 (F) (Gives w0 fun v F2 => ∃ g X, v = .slice (some ⟨g, 0, none⟩) n (n + 70) ∧ FullG markI l n X ∧ F2 = Own 3 1 (.slice (some ⟨g, 0, none⟩) (n + 70) (n + 70)) (n + 70) (ints .i64 X) :: F) := by
  have hl := hI.1
  refine c_enter Try.func39 rfl rfl rfl ?_
  refine g_seq ?_
  refine g_region ?_
  refine l_assign rfl rfl ?_
  refine l_nil ?_
  refine g_seq ?_
  refine g_region ?_
  refine l_move rfl rfl ?_
  refine l_len rfl Try.underlying52 rfl ?_
  first | refine l_add rfl rfl rfl (w_i64 (by omega) (by omega)) ?_ | refine l_addw rfl rfl rfl ?_
  refine l_makew rfl Try.underlying52 Try.type3 rfl rfl rfl rfl (by omega) (by show (8 : Int) * _ ≤ _; omega) (by omega) ?_; intro b9m; rw [show ((n : Int) + 70).toNat = n + 70 by omega]
  refine l_assign rfl rfl ?_
  refine l_nil ?_
  refine g_seq ?_
  refine g_seq ?_
  refine g_region ?_
  refine l_assign rfl rfl ?_
  refine l_nil ?_
  refine g_block ?_
  refine g_loopk (X := Int × List Int) [(0, _), (2, _), (3, _)] (.cons rfl (.cons rfl (.cons rfl (.nil)))) (fun z => 0 ≤ z.1 ∧ z.1 ≤ n + 70 ∧ z.2.length = n + 70 ∧ ∀ j : Nat, j < z.1 → z.2.getD j 0 = markI j) (fun z => ((n : Int) + 70 - z.1).toNat) (fun z => [(4, .int .i64 z.1)]) (fun z => Own 3 1 (.slice (some ⟨b9m, 0, none⟩) (n + 70) (n + 70)) (n + 70) (ints .i64 z.2) :: F) ((0, List.replicate (n + 70) 0)) (⟨by simp only; omega, by simp only; omega, by simp, fun j hj => by simp only at hj; omega⟩) (.cons rfl .nil) (fun w hw => SPI.holds hw) ?_
  rintro ⟨i, X⟩ ⟨i0, i1, hX, hz⟩ ih
  dsimp only [List.cons_append, List.nil_append] at ih ⊢
  simp only at i0 i1 hX hz
  refine g_seq ?_
  refine g_seq ?_
  refine g_region ?_
  refine l_move rfl rfl ?_
  refine l_move rfl rfl ?_
  refine l_len rfl Try.underlying52 rfl ?_
  refine l_lss rfl rfl rfl ?_
  refine l_nil ?_
  refine g_cond rfl ?_ ?_
  · intro hbr
    have hbr := of_decide_eq_true hbr
    refine g_skip ?_
    refine g_seq ?_
    refine g_block ?_
    refine g_region ?_
    refine l_move rfl rfl ?_
    refine l_move rfl rfl ?_
    refine l_move rfl rfl ?_
    refine l_sub_ rfl rfl rfl (w_i64 (by omega) (by omega)) ?_
    rw [show -5000 - i = markI i from rfl]
    refine l_ixs rfl Try.underlying52 Try.sizeOf3 rfl rfl (by omega) (by omega) ?_
    refine l_storew 0 Try.sizeOf3 rfl rfl rfl (by omega) rfl ?_
    refine l_nil ?_
    refine g_inBlock ?_
    refine g_region ?_
    refine l_move rfl rfl ?_
    first | refine l_add rfl rfl rfl (w_i64 (by omega) (by omega)) ?_ | refine l_addw rfl rfl rfl ?_
    refine l_assign rfl rfl ?_
    refine l_nil ?_
    exact g_againi (ih (i + 1, X.set i.toNat (markI i)) ⟨by simp only; omega, by simp only; omega, by simp only [List.length_set]; exact hX, fun j hj => by simp only at hj ⊢; rw [set_getD (by omega)]; split; (rw [show (j : Int) = i by omega]); exact hz j (by omega)⟩ (by simp only; omega)) (.cons rfl (.cons rfl (.cons rfl (.cons rfl (.nil)))))
  intro hbr
  have hbr := of_decide_eq_false hbr
  refine g_exit rfl ?_
  obtain rfl : i = n + 70 := by omega
  refine g_seq ?_
  refine g_seq ?_
  refine g_region ?_
  refine l_assign rfl rfl ?_
  refine l_nil ?_
  refine g_block ?_
  refine g_loopk (X := Int × List Int) [(0, _), (2, _), (3, _)] (.cons rfl (.cons rfl (.cons rfl (.nil)))) (fun z => 0 ≤ z.1 ∧ z.1 ≤ n ∧ z.2.length = n + 70 ∧ (∀ j : Nat, j < z.1 → z.2.getD j 0 = l.getD j 0) ∧ ∀ j : Nat, n ≤ j → j < n + 70 → z.2.getD j 0 = markI j) (fun z => ((n : Int) - z.1).toNat) (fun z => [(5, .int .i64 z.1)]) (fun z => Own 3 1 (.slice (some ⟨b9m, 0, none⟩) (n + 70) (n + 70)) (n + 70) (ints .i64 z.2) :: F) ((0, X)) (⟨by simp only; omega, by simp only; omega, hX, fun j hj => by simp only at hj; omega, fun j h1 h2 => hz j (by omega)⟩) (.cons rfl .nil) (fun w hw => SPI.holds hw) ?_
  rintro ⟨i, X⟩ ⟨i0, i1, hX, hz, hy⟩ ih
  dsimp only [List.cons_append, List.nil_append] at ih ⊢
  simp only at i0 i1 hX hz hy
  refine g_seq ?_
  refine g_seq ?_
  refine g_region ?_
  refine l_move rfl rfl ?_
  refine l_move rfl rfl ?_
  refine l_len rfl Try.underlying52 rfl ?_
  refine l_lss rfl rfl rfl ?_
  refine l_nil ?_
  refine g_cond rfl ?_ ?_
  · intro hbr
    have hbr := of_decide_eq_true hbr
    refine g_skip ?_
    refine g_seq ?_
    refine g_block ?_
    refine g_region ?_
    refine l_move rfl rfl ?_
    refine l_move rfl rfl ?_
    refine l_move rfl rfl ?_
    refine l_move rfl rfl ?_
    have hbi := hU i.toNat
    obtain ⟨b9, o9, rfl, hr9⟩ := hI.some (i := i.toNat) (by omega)
    refine l_ixs rfl Try.underlying52 Try.sizeOf3 rfl rfl (by omega) (by omega) ?_
    refine l_loadc rfl Try.isAgg3 rfl (word_any hr9 (by omega)) ?_
    refine l_ixs rfl Try.underlying52 Try.sizeOf3 rfl rfl (by omega) (by omega) ?_
    refine l_storew 0 Try.sizeOf3 rfl rfl rfl (by omega) rfl ?_
    refine l_nil ?_
    refine g_inBlock ?_
    refine g_region ?_
    refine l_move rfl rfl ?_
    first | refine l_add rfl rfl rfl (w_i64 (by omega) (by omega)) ?_ | refine l_addw rfl rfl rfl ?_
    refine l_assign rfl rfl ?_
    refine l_nil ?_
    exact g_againi (ih (i + 1, X.set i.toNat (l.getD i.toNat 0)) ⟨by simp only; omega, by simp only; omega, by simp only [List.length_set]; exact hX, fun j hj => by simp only at hj ⊢; rw [set_getD (by omega)]; split; (rw [show i.toNat = j by omega]); exact hz j (by omega), fun j h1 h2 => by simp only; rw [set_getD (by omega), if_neg (by omega)]; exact hy j h1 h2⟩ (by simp only; omega)) (.cons rfl (.cons rfl (.cons rfl (.cons rfl (.nil)))))
  intro hbr
  have hbr := of_decide_eq_false hbr
  refine g_exit rfl ?_
  obtain rfl : i = n := by omega
  refine g_seq ?_
  refine g_region ?_
  refine l_move rfl rfl ?_
  refine l_move rfl rfl ?_
  refine l_len rfl Try.underlying52 rfl ?_
  refine l_slice_hi rfl Try.underlying52 Try.sizeOf3 rfl rfl (by omega) (by omega) ?_
  refine l_assign rfl rfl ?_
  refine l_nil ?_
  refine g_ret Try.func39 rfl (.tmp rfl .nil) ?_
  exact Gives.mki ⟨b9m, X, by rw [Int.toNat_natCast]; rfl, ⟨hX, fun j hj => hz j (by omega), hy⟩, rfl⟩
theorem ints_kept (w0 : World) (F : List Atom) (g : Nat) (X : List Int) (a : Option Addr) (n c : Nat) (l : List Int) (hI : IR w0 F .i64 a n l) (hn : n ≤ 17592186043904) (hU : ∀ i, -9223372036854775808 ≤ l.getD i 0 ∧ l.getD i 0 ≤ 9223372036854775807) (hX : FullG markI l n X) :
    CallK Try.prog 41 [.slice (some ⟨g, 0, none⟩) n (n + 70), .slice a n c] w0 (Own 3 1 (.slice (some ⟨g, 0, none⟩) (n + 70) (n + 70)) (n + 70) (ints .i64 X) :: F) (Gives w0 fun v F2 => v = .bool true ∧ F2 = Own 3 1 (.slice (some ⟨g, 0, none⟩) (n + 70) (n + 70)) (n + 70) (ints .i64 X) :: F) := by
  have hl := hI.1
  have hXl := hX.1
  refine c_enter Try.func41 rfl rfl rfl ?_
  refine g_seq ?_
  refine g_region ?_
  refine l_assign rfl rfl ?_
  refine l_nil ?_
  refine g_seq ?_
  refine g_seq ?_
  refine g_region ?_
  refine l_move rfl rfl ?_
  refine l_len rfl Try.underlying52 rfl ?_
  refine l_move rfl rfl ?_
  refine l_len rfl Try.underlying52 rfl ?_
  refine l_neq rfl rfl rfl ?_
  refine l_nil ?_
  refine g_cond rfl ?_ ?_
  · intro hbr
    have hbr := of_decide_eq_true hbr
    (exfalso; omega)
  intro hbr
  have hbr := of_decide_eq_false hbr
  refine g_skip ?_
  refine g_seq ?_
  refine g_region ?_
  refine l_move rfl rfl ?_
  refine l_move rfl rfl ?_
  refine l_len rfl Try.underlying52 rfl ?_
  first | refine l_add rfl rfl rfl (w_i64 (by omega) (by omega)) ?_ | refine l_addw rfl rfl rfl ?_
  refine l_slice_hi rfl Try.underlying52 Try.sizeOf3 rfl rfl (by omega) (by omega) ?_
  rw [show ((n : Int) + 70).toNat = n + 70 by omega]
  refine l_assign rfl rfl ?_
  refine l_nil ?_
  refine g_seq ?_
  refine g_seq ?_
  refine g_region ?_
  refine l_assign rfl rfl ?_
  refine l_nil ?_
  refine g_block ?_
  refine g_loopc (X := Int) [(1, _), (5, _)] (.cons rfl (.cons rfl (.nil))) (fun i => 0 ≤ i ∧ i ≤ (n : Int) + 70) (fun i => ((n : Int) + 70 - i).toNat) (fun i => [(6, .int .i64 i)]) (0) (by omega) (.cons rfl .nil) ?_
  rintro i ⟨i0, i1⟩ ih
  dsimp only [List.cons_append, List.nil_append] at ih ⊢
  have hX1 : i.toNat < n → X.getD i.toNat 0 = l.getD i.toNat 0 := hX.2.1 i.toNat
  have hX2 : n ≤ i.toNat → i.toNat < n + 70 → X.getD i.toNat 0 = markI i := fun h1 h2 => by rw [hX.2.2 i.toNat h1 h2, Int.toNat_of_nonneg i0]
  refine g_seq ?_
  refine g_seq ?_
  refine g_region ?_
  refine l_move rfl rfl ?_
  refine l_move rfl rfl ?_
  refine l_len rfl Try.underlying52 rfl ?_
  refine l_lss rfl rfl rfl ?_
  refine l_nil ?_
  refine g_cond rfl ?_ ?_
  · intro hbr
    have hbr := of_decide_eq_true hbr
    refine g_skip ?_
    refine g_seq ?_
    refine g_block ?_
    refine g_seq ?_
    refine g_region ?_
    refine l_move rfl rfl ?_
    refine l_sub_ rfl rfl rfl (w_i64 (by omega) (by omega)) ?_
    rw [show -5000 - i = markI i from rfl]
    refine l_assign rfl rfl ?_
    refine l_nil ?_
    refine g_seq ?_
    refine g_seq ?_
    refine g_region ?_
    refine l_move rfl rfl ?_
    refine l_move rfl rfl ?_
    refine l_len rfl Try.underlying52 rfl ?_
    refine l_lss rfl rfl rfl ?_
    refine l_nil ?_
    refine g_cond rfl ?_ ?_
    · intro hbr
      have hbr := of_decide_eq_true hbr
      refine g_region ?_
      refine l_move rfl rfl ?_
      refine l_move rfl rfl ?_
      obtain ⟨b9, o9, rfl, hr9⟩ := hI.some (i := i.toNat) (by omega)
      refine l_ixs rfl Try.underlying52 Try.sizeOf3 rfl rfl (by omega) (by omega) ?_
      refine l_loadc rfl Try.isAgg3 rfl (word_any hr9 (by omega)) ?_
      refine l_assign rfl rfl ?_
      refine l_nil ?_
      refine g_seq ?_
      refine g_region ?_
      refine l_move rfl rfl ?_
      refine l_move rfl rfl ?_
      refine l_ixs rfl Try.underlying52 Try.sizeOf3 rfl rfl (by omega) (by omega) ?_
      refine l_loadc rfl Try.isAgg3 rfl (word_at (mem_getO 0 rfl) (by omega)) ?_
      refine l_move rfl rfl ?_
      refine l_neq rfl rfl rfl ?_
      refine l_nil ?_
      refine g_cond rfl ?_ ?_
      · intro hbr
        have hbr := of_decide_eq_true hbr
        (exfalso; omega)
      intro hbr
      have hbr := of_decide_eq_false hbr
      refine g_skip ?_
      refine g_inBlock ?_
      refine g_region ?_
      refine l_move rfl rfl ?_
      first | refine l_add rfl rfl rfl (w_i64 (by omega) (by omega)) ?_ | refine l_addw rfl rfl rfl ?_
      refine l_assign rfl rfl ?_
      refine l_nil ?_
      exact g_againi (ih (i + 1) (by omega) (by omega)) (.cons rfl (.cons rfl (.cons rfl (.nil))))
    intro hbr
    have hbr := of_decide_eq_false hbr
    refine g_skip ?_
    refine g_seq ?_
    refine g_region ?_
    refine l_move rfl rfl ?_
    refine l_move rfl rfl ?_
    refine l_ixs rfl Try.underlying52 Try.sizeOf3 rfl rfl (by omega) (by omega) ?_
    refine l_loadc rfl Try.isAgg3 rfl (word_at (mem_getO 0 rfl) (by omega)) ?_
    refine l_move rfl rfl ?_
    refine l_neq rfl rfl rfl ?_
    refine l_nil ?_
    refine g_cond rfl ?_ ?_
    · intro hbr
      have hbr := of_decide_eq_true hbr
      (exfalso; omega)
    intro hbr
    have hbr := of_decide_eq_false hbr
    refine g_skip ?_
    refine g_inBlock ?_
    refine g_region ?_
    refine l_move rfl rfl ?_
    first | refine l_add rfl rfl rfl (w_i64 (by omega) (by omega)) ?_ | refine l_addw rfl rfl rfl ?_
    refine l_assign rfl rfl ?_
    refine l_nil ?_
    exact g_againi (ih (i + 1) (by omega) (by omega)) (.cons rfl (.cons rfl (.cons rfl (.nil))))
  intro hbr
  have hbr := of_decide_eq_false hbr
  refine g_exit rfl ?_
  refine g_seq ?_
  refine g_region ?_
  refine l_assign rfl rfl ?_
  refine l_nil ?_
  refine g_ret Try.func41 rfl (.tmp rfl .nil) ?_
  exact Gives.mki ⟨rfl, rfl⟩
theorem same_words (w0 : World) (F : List Atom) (a1 a2 : Option Addr) (n c1 c2 : Nat) (W : List Int) (h1 : IR w0 F .u32 a1 n W) (h2 : IR w0 F .u32 a2 n W) (hb : W32s W) (hn : n ≤ 9223372036854775807) :
    CallK Try.prog 15 [.slice a1 n c1, .slice a2 n c2] w0 (F) (Gives w0 fun v F2 => v = .bool true ∧ F2 = F) := by
  have hl := h1.1
  refine c_enter Try.func15 rfl rfl rfl ?_
  refine g_seq ?_
  refine g_region ?_
  refine l_assign rfl rfl ?_
  refine l_nil ?_
  refine g_seq ?_
  refine g_seq ?_
  refine g_region ?_
  refine l_move rfl rfl ?_
  refine l_len rfl Try.underlying29 rfl ?_
  refine l_move rfl rfl ?_
  refine l_len rfl Try.underlying29 rfl ?_
  refine l_neq rfl rfl rfl ?_
  refine l_nil ?_
  refine g_cond rfl ?_ ?_
  · intro hbr
    have hbr := of_decide_eq_true hbr
    (exfalso; omega)
  intro hbr
  have hbr := of_decide_eq_false hbr
  refine g_skip ?_
  refine g_seq ?_
  refine g_seq ?_
  refine g_region ?_
  refine l_assign rfl rfl ?_
  refine l_nil ?_
  refine g_block ?_
  refine g_loopc (X := Int) [(0, _), (1, _)] (.cons rfl (.cons rfl (.nil))) (fun i => 0 ≤ i ∧ i ≤ n) (fun i => (n - i).toNat) (fun i => [(5, .int .i64 i)]) (0) (by omega) (.cons rfl .nil) ?_
  rintro i ⟨i0, i1⟩ ih
  dsimp only [List.cons_append, List.nil_append] at ih ⊢
  refine g_seq ?_
  refine g_seq ?_
  refine g_region ?_
  refine l_move rfl rfl ?_
  refine l_move rfl rfl ?_
  refine l_len rfl Try.underlying29 rfl ?_
  refine l_lss rfl rfl rfl ?_
  refine l_nil ?_
  refine g_cond rfl ?_ ?_
  · intro hbr
    have hbr := of_decide_eq_true hbr
    refine g_skip ?_
    refine g_seq ?_
    refine g_block ?_
    refine g_seq ?_
    refine gp_start mo (by kernel_rfl) (by kernel_rfl) ?_
    refine gp_quiet 0 rfl rfl rfl rfl rfl rfl (q_move rfl) ?_
    refine gp_quiet 1 rfl rfl rfl rfl rfl rfl (q_move rfl) ?_
    obtain ⟨b1, o1, rfl, hr1⟩ := h1.some (i := i.toNat) (by omega)
    refine gp_quiet 2 rfl rfl rfl rfl rfl rfl (q_ixs Try.underlying29 Try.sizeOf33 rfl rfl (by omega) (by omega)) ?_
    refine gp_quiet 3 rfl rfl rfl rfl rfl rfl (q_loadc Try.isAgg33 rfl (word_any hr1 (by omega))) ?_
    refine gp_quiet 4 rfl rfl rfl rfl rfl rfl (q_move rfl) ?_
    refine gp_quiet 5 rfl rfl rfl rfl rfl rfl (q_move rfl) ?_
    obtain ⟨b2, o2, rfl, hr2⟩ := h2.some (i := i.toNat) (by omega)
    refine gp_quiet 6 rfl rfl rfl rfl rfl rfl (q_ixs Try.underlying29 Try.sizeOf33 rfl rfl (by omega) (by omega)) ?_
    refine gp_quiet 7 rfl rfl rfl rfl rfl rfl (q_loadc Try.isAgg33 rfl (word_any hr2 (by omega))) ?_
    refine gp_quiet 8 rfl rfl rfl rfl rfl rfl (q_neq rfl rfl) ?_
    refine gp_end rfl rfl ?_
    refine g_cond rfl ?_ ?_
    · intro hbr
      have hbr := of_decide_eq_true hbr
      (exfalso; omega)
    intro hbr
    have hbr := of_decide_eq_false hbr
    refine g_skip ?_
    refine g_inBlock ?_
    refine g_region ?_
    refine l_move rfl rfl ?_
    first | refine l_add rfl rfl rfl (w_i64 (by omega) (by omega)) ?_ | refine l_addw rfl rfl rfl ?_
    refine l_assign rfl rfl ?_
    refine l_nil ?_
    exact g_againi (ih (i + 1) (by omega) (by omega)) (.cons rfl (.cons rfl (.cons rfl (.nil))))
  intro hbr
  have hbr := of_decide_eq_false hbr
  refine g_exit rfl ?_
  refine g_seq ?_
  refine g_region ?_
  refine l_assign rfl rfl ?_
  refine l_nil ?_
  refine g_ret Try.func15 rfl (.tmp rfl .nil) ?_
  exact Gives.mki ⟨rfl, rfl⟩
set_option maxHeartbeats 4000000 in
theorem copy_words (w0 : World) (F : List Atom) (a : Option Addr) (n c : Nat) (l : List Int) (hI : IR w0 F .u32 a n l) (hn : n ≤ 35184372087808) (hU : W32s l) :
    CallK Try.prog 14 [.slice a n c] w0 (F) (Gives w0 fun v F2 => ∃ g, v = .slice (some ⟨g, 0, none⟩) n n ∧ F2 = Own 33 1 (.slice (some ⟨g, 0, none⟩) n n) n (ints .u32 l) :: F) := by
  have hl := hI.1
  refine c_enter Try.func14 rfl rfl rfl ?_
  refine g_seq ?_
  refine g_region ?_
  refine l_assign rfl rfl ?_
  refine l_nil ?_
  refine g_seq ?_
  refine g_region ?_
  refine l_move rfl rfl ?_
  refine l_len rfl Try.underlying29 rfl ?_
  refine l_makew rfl Try.underlying29 Try.type33 rfl rfl rfl rfl (by omega) (by show (4 : Int) * _ ≤ _; omega) (by omega) ?_; intro b9m; rw [Int.toNat_natCast]
  refine l_assign rfl rfl ?_
  refine l_nil ?_
  refine g_seq ?_
  refine g_seq ?_
  refine g_region ?_
  refine l_assign rfl rfl ?_
  refine l_nil ?_
  refine g_block ?_
  refine g_loopk (X := Int × List Int) [(0, _), (2, _), (3, _)] (.cons rfl (.cons rfl (.cons rfl (.nil)))) (fun z => 0 ≤ z.1 ∧ z.1 ≤ n ∧ z.2.length = n ∧ ∀ j : Nat, j < z.1 → z.2.getD j 0 = l.getD j 0) (fun z => ((n : Int) - z.1).toNat) (fun z => [(4, .int .i64 z.1)]) (fun z => Own 33 1 (.slice (some ⟨b9m, 0, none⟩) n n) n (ints .u32 z.2) :: F) ((0, List.replicate n 0)) (⟨by simp only; omega, by simp only; omega, by simp, fun j hj => by simp only at hj; omega⟩) (.cons rfl .nil) (fun w hw => SPI.holds hw) ?_
  rintro ⟨i, X⟩ ⟨i0, i1, hX, hz⟩ ih
  dsimp only [List.cons_append, List.nil_append] at ih ⊢
  simp only at i0 i1 hX hz
  refine g_seq ?_
  refine g_seq ?_
  refine g_region ?_
  refine l_move rfl rfl ?_
  refine l_move rfl rfl ?_
  refine l_len rfl Try.underlying29 rfl ?_
  refine l_lss rfl rfl rfl ?_
  refine l_nil ?_
  refine g_cond rfl ?_ ?_
  · intro hbr
    have hbr := of_decide_eq_true hbr
    refine g_skip ?_
    refine g_seq ?_
    refine g_block ?_
    refine g_region ?_
    refine l_move rfl rfl ?_
    refine l_move rfl rfl ?_
    refine l_move rfl rfl ?_
    refine l_move rfl rfl ?_
    have hbi := hU i.toNat
    obtain ⟨b9, o9, rfl, hr9⟩ := hI.some (i := i.toNat) (by omega)
    refine l_ixs rfl Try.underlying29 Try.sizeOf33 rfl rfl (by omega) (by omega) ?_
    refine l_loadc rfl Try.isAgg33 rfl (word_any hr9 (by omega)) ?_
    refine l_ixs rfl Try.underlying29 Try.sizeOf33 rfl rfl (by omega) (by omega) ?_
    refine l_storew 0 Try.sizeOf33 rfl rfl rfl (by omega) rfl ?_
    refine l_nil ?_
    refine g_inBlock ?_
    refine g_region ?_
    refine l_move rfl rfl ?_
    first | refine l_add rfl rfl rfl (w_i64 (by omega) (by omega)) ?_ | refine l_addw rfl rfl rfl ?_
    refine l_assign rfl rfl ?_
    refine l_nil ?_
    exact g_againi (ih (i + 1, X.set i.toNat (l.getD i.toNat 0)) ⟨by simp only; omega, by simp only; omega, by simp only [List.length_set]; exact hX, fun j hj => by simp only at hj ⊢; rw [set_getD (by omega)]; split; (rw [show i.toNat = j by omega]); exact hz j (by omega)⟩ (by simp only; omega)) (.cons rfl (.cons rfl (.cons rfl (.cons rfl (.nil)))))
  intro hbr
  have hbr := of_decide_eq_false hbr
  refine g_exit rfl ?_
  obtain rfl : i = n := by omega
  obtain rfl : X = l := getD_ext (by omega) fun j hj => hz j (by omega)
  refine g_seq ?_
  refine g_region ?_
  refine l_move rfl rfl ?_
  refine l_assign rfl rfl ?_
  refine l_nil ?_
  refine g_ret Try.func14 rfl (.tmp rfl .nil) ?_
  exact Gives.mki ⟨b9m, rfl, rfl⟩
theorem spoil_words (w0 : World) (F : List Atom) (a : Option Addr) (q c : Nat) (X : List Int) (ha : q = 0 ∨ ∃ g, a = some ⟨g, 0, none⟩) (hX : X.length = q) (hq : q ≤ 35184372087808) (mark : Int) (mk0 : 0 ≤ mark) (mk1 : mark ≤ 4294967295) :
    CallK Try.prog 37 [.slice a q c, .int .u32 mark] w0 (Own 33 1 (.slice a q c) q (ints .u32 X) :: F) (Gives w0 fun v F2 => F2 = F) := by
  refine c_enter Try.func37 rfl rfl rfl ?_
  refine g_seq ?_
  refine g_seq ?_
  refine g_region ?_
  refine l_assign rfl rfl ?_
  refine l_nil ?_
  refine g_block ?_
  refine g_loopk (X := Int × List Int) [(0, _), (1, _)] (.cons rfl (.cons rfl (.nil))) (fun z => 0 ≤ z.1 ∧ z.1 ≤ q ∧ z.2.length = q) (fun z => ((q : Int) - z.1).toNat) (fun z => [(4, .int .i64 z.1)]) (fun z => Own 33 1 (.slice a q c) q (ints .u32 z.2) :: F) ((0, X)) (⟨by simp only; omega, by simp only; omega, hX⟩) (.cons rfl .nil) (fun w hw => SPI.holds hw) ?_
  rintro ⟨i, X⟩ ⟨i0, i1, hX⟩ ih
  dsimp only [List.cons_append, List.nil_append] at ih ⊢
  simp only at i0 i1 hX
  refine g_seq ?_
  refine g_seq ?_
  refine g_region ?_
  refine l_move rfl rfl ?_
  refine l_move rfl rfl ?_
  refine l_len rfl Try.underlying29 rfl ?_
  refine l_lss rfl rfl rfl ?_
  refine l_nil ?_
  refine g_cond rfl ?_ ?_
  · intro hbr
    have hbr := of_decide_eq_true hbr
    refine g_skip ?_
    refine g_seq ?_
    refine g_block ?_
    refine g_region ?_
    refine l_move rfl rfl ?_
    refine l_move rfl rfl ?_
    refine l_move rfl rfl ?_
    refine l_move rfl rfl ?_
    refine l_convm (m := 4294967296) rfl wr_u32 Try.underlying3 Try.underlying33 rfl ?_
    refine l_mulm (m := 4294967296) rfl wr_u32 rfl rfl ?_
    refine l_addm (m := 4294967296) rfl wr_u32 rfl rfl ?_
    obtain ⟨g9, rfl⟩ := ha.resolve_left (by omega)
    refine l_ixs rfl Try.underlying29 Try.sizeOf33 rfl rfl (by omega) (by omega) ?_
    refine l_storew 0 Try.sizeOf33 rfl rfl rfl (by omega) rfl ?_
    obtain ⟨X8, hX8⟩ : ∃ Y, X.set i.toNat ((mark + i % 4294967296 * 3 % 4294967296) % 4294967296) = Y := ⟨_, rfl⟩
    rw [hX8]
    have hX9 := congrArg List.length hX8
    rw [List.length_set] at hX9
    refine l_nil ?_
    refine g_inBlock ?_
    refine g_region ?_
    refine l_move rfl rfl ?_
    first | refine l_add rfl rfl rfl (w_i64 (by omega) (by omega)) ?_ | refine l_addw rfl rfl rfl ?_
    refine l_assign rfl rfl ?_
    refine l_nil ?_
    exact g_againi (ih (i + 1, X8) ⟨by simp only; omega, by simp only; omega, by simp only; omega⟩ (by simp only; omega)) (.cons rfl (.cons rfl (.cons rfl (.nil))))
  intro hbr
  have hbr := of_decide_eq_false hbr
  refine g_exit rfl ?_
  refine g_seq ?_
  refine g_region ?_
  refine l_assign rfl rfl ?_
  refine l_nil ?_
  refine g_block ?_
  refine g_loopk (X := Int × Option Addr × Nat × List Int) [(1, _)] (.cons rfl (.nil)) (fun z => 0 ≤ z.1 ∧ z.1 ≤ 72 ∧ z.2.2.2.length = q + z.1.toNat) (fun z => ((72 : Int) - z.1).toNat) (fun z => [(0, .slice z.2.1 (q + z.1.toNat) z.2.2.1), (5, .int .i64 z.1)]) (fun z => Own 33 1 (.slice z.2.1 (q + z.1.toNat) z.2.2.1) (q + z.1.toNat) (ints .u32 z.2.2.2) :: F) ((0, a, c, X)) (⟨by simp only; omega, by simp only; omega, hX⟩) (.cons rfl (.cons rfl .nil)) ((fun w hw => hw)) ?_
  rintro ⟨i, a1, c1, X⟩ ⟨i0, i1, hX⟩ ih
  dsimp only [List.cons_append, List.nil_append] at ih ⊢
  simp only at i0 i1 hX
  refine g_seq ?_
  refine g_seq ?_
  refine g_region ?_
  refine l_move rfl rfl ?_
  refine l_lss rfl rfl rfl ?_
  refine l_nil ?_
  refine g_cond rfl ?_ ?_
  · intro hbr
    have hbr := of_decide_eq_true hbr
    refine g_skip ?_
    refine g_seq ?_
    refine g_block ?_
    refine g_region ?_
    refine l_move rfl rfl ?_
    refine l_move rfl rfl ?_
    refine l_xor (m := 32) rfl rfl rfl rfl rfl ?_
    refine l_move rfl rfl ?_
    first | refine l_conv rfl Try.underlying3 Try.underlying33 rfl (w_u32 (by omega) (by omega)) ?_ | refine l_convm (m := 4294967296) rfl wr_u32 Try.underlying3 Try.underlying33 rfl ?_
    refine l_addm (m := 4294967296) rfl wr_u32 rfl rfl ?_
    refine l_buildSlice rfl Try.underlying29 Try.sizeOf33 Try.zeroValue33 rfl rfl rfl rfl rfl rfl ?_; intro b30
    refine l_does rfl (does_apps 1 (by_ := 4) (kd := .u32) (V := X) (W := [(bXor 32 mark 1515870810 + i) % 4294967296]) (m := q + i.toNat) (m2 := 1) (m3 := q + (i + 1).toNat) (V3 := X ++ [(bXor 32 mark 1515870810 + i) % 4294967296]) Try.underlying29 Try.type33 rfl rfl rfl rfl rfl rfl rfl ⟨rfl, .inl ⟨_, _, _, rfl, .own (mem_getO 0 rfl)⟩⟩ (by omega) (by simp only [maxLen]; omega) (by omega) rfl (fun _ _ => rfl)) ?_
    rintro _ _ ⟨a31, c31, ha31, hn31, rfl, rfl⟩
    obtain ⟨X31, hX31⟩ : ∃ Y : List Int, X ++ [(bXor 32 mark 1515870810 + i) % 4294967296] = Y := ⟨_, rfl⟩
    rw [hX31]
    have hX32 := congrArg List.length hX31
    simp only [List.length_append, List.length_cons, List.length_nil] at hX32
    refine l_assign rfl rfl ?_
    refine l_nil ?_
    refine g_inBlock ?_
    refine g_region ?_
    refine l_move rfl rfl ?_
    first | refine l_add rfl rfl rfl (w_i64 (by omega) (by omega)) ?_ | refine l_addw rfl rfl rfl ?_
    refine l_assign rfl rfl ?_
    refine l_nil ?_
    exact g_againi (ih (i + 1, a31, c31, X31) ⟨by simp only; omega, by simp only; omega, by simp only; omega⟩ (by simp only; omega)) (.cons rfl (.cons rfl (.cons rfl (.nil))))
  intro hbr
  have hbr := of_decide_eq_false hbr
  refine g_exit rfl ?_
  refine g_end Try.func37 rfl .nil ?_
  exact Gives.mki rfl
end Go.Proofs.Ytecibldbnekgbaa.Fw
