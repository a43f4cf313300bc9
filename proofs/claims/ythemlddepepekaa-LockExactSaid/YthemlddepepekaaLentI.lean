import Derived.Test.YthemlddepepekaaLent
namespace Go.Proofs.Ythemlddepepekaa.Fw
open Go Go.Proofs
set_option linter.unusedVariables false
set_option linter.unusedSimpArgs false
set_option maxRecDepth 10000

/-- A list that is lent: with nine marks behind it. -/
def LentI (l : List Int) (n : Nat) (X : List Int) : Prop := X.length = n + 9 ∧ (∀ j, j < n → X.getD j 0 = l.getD j 0) ∧ ∀ j, n ≤ j → j < n + 9 → X.getD j 0 = (-77)
theorem LentI.pre {l X : List Int} {n : Nat} (h : LentI l n X) (hl : l.length = n) : X.take n = l := by
  obtain ⟨h1, h2, _⟩ := h
  refine gx_ext (by rw [List.length_take]; omega) fun j hj => ?_
  have e : (X.take n).getD j 0 = X.getD j 0 := by simp [List.getD_eq_getElem?_getD, List.getElem?_take, show j < n by omega]
  rw [e]
  exact h2 j (by omega)
theorem lenti_row {w0 : World} {F : List Atom} {g n cap : Nat} {E : Nat} {l X : List Int} (h : LentI l n X) (hl : l.length = n) (hm : Own E 1 (.slice (some ⟨g, 0, none⟩) (n + 9) cap) (n + 9) (ints .i64 X) ∈ F) : RowAt w0 F g 0 (ints .i64 l) := by
  have := (RowAt.own (w0 := w0) hm).mid 0 n
  rw [List.drop_zero, ints_take, h.pre hl] at this
  exact this
set_option maxHeartbeats 4000000 in
theorem lenti_s (w0 : World) (F : List Atom) (a : Option Addr) (n c : Nat) (l : List Int) (hl : l.length = n) (hR : Reads w0 F (.slice a n c) n 1 (ints .i64 l)) (hn : n ≤ 2147483647) (hU : I64s l) :
    CallK Try.prog 47 [.slice a n c] w0 (F) (Gives w0 fun v F2 => ∃ g X, v = .slice (some ⟨g, 0, none⟩) n (n + 9) ∧ LentI l n X ∧ F2 = Own 3 1 (.slice (some ⟨g, 0, none⟩) (n + 9) (n + 9)) (n + 9) (ints .i64 X) :: F) := by
  refine c_enter Try.func47 rfl rfl rfl ?_
  refine g_seq ?_
  refine g_region ?_
  refine l_assign rfl rfl ?_
  refine l_nil ?_
  refine g_seq ?_
  refine g_region ?_
  refine l_move rfl rfl ?_
  refine l_len rfl Try.underlying23 rfl ?_
  first | refine l_add rfl rfl rfl (w_i64 (by omega) (by omega)) ?_ | refine l_addw rfl rfl rfl ?_
  refine l_makew rfl Try.underlying23 Try.type3 rfl rfl rfl rfl (by omega) (by show (8 : Int) * _ ≤ _; omega) (by omega) ?_; intro b8; rw [show ((n : Int) + 9).toNat = n + 9 by omega]
  refine l_assign rfl rfl ?_
  refine l_nil ?_
  refine g_seq ?_
  refine g_region ?_
  refine l_move rfl rfl ?_
  refine l_move rfl rfl ?_
  refine l_copyw 0 rfl Try.underlying23 Try.sizeOf3 rfl rfl rfl hR.ex (by simp) (by rw [lent0 hl]; rfl) ?_
  refine l_nil ?_
  refine g_seq ?_
  refine g_seq ?_
  refine g_region ?_
  refine l_move rfl rfl ?_
  refine l_len rfl Try.underlying23 rfl ?_
  refine l_assign rfl rfl ?_
  refine l_nil ?_
  refine g_block ?_
  refine g_loopk (X := Int × List Int) [(0, _), (2, _), (3, _)] (.cons rfl (.cons rfl (.cons rfl (.nil)))) (fun z => (n : Int) ≤ z.1 ∧ z.1 ≤ (n : Int) + 9 ∧ z.2.length = n + 9 ∧ (∀ j, j < n → z.2.getD j 0 = l.getD j 0) ∧ ∀ j : Nat, n ≤ j → (j : Int) < z.1 → z.2.getD j 0 = (-77)) (fun z => ((n : Int) + 9 - z.1).toNat) (fun z => [(4, .int .i64 z.1)]) (fun z => Own 3 1 (.slice (some ⟨b8, 0, none⟩) (n + 9) (n + 9)) (n + 9) (ints .i64 z.2) :: F) (((n : Int), l ++ List.replicate 9 0)) (⟨by simp only; omega, by simp only; omega, by simp [hl], fun j hj => by simp only [List.getD_eq_getElem?_getD]; rw [List.getElem?_append_left (by omega)], fun j h1 h2 => by simp only at h2; omega⟩) (.cons rfl .nil) (fun w hw => SPI.holds hw) ?_
  rintro ⟨i, X⟩ ⟨i0, i1, hX, hy, hz⟩ ih
  dsimp only [List.cons_append, List.nil_append] at ih ⊢
  simp only at i0 i1 hX hy hz
  refine g_seq ?_
  refine g_seq ?_
  refine g_region ?_
  refine l_move rfl rfl ?_
  refine l_move rfl rfl ?_
  refine l_len rfl Try.underlying23 rfl ?_
  refine l_lss rfl rfl rfl ?_
  refine l_nil ?_
  refine g_cond rfl ?_ ?_
  · intro hbr
    have hbr := of_decide_eq_true hbr
    refine g_skip ?_
    refine g_seq ?_
    refine g_block ?_
    refine g_region ?_
    refine l_move rfl rfl ?_
    refine l_move rfl rfl ?_
    refine l_ixs rfl Try.underlying23 Try.sizeOf3 rfl rfl (by omega) (by omega) ?_
    refine l_storew 0 Try.sizeOf3 rfl rfl rfl (by omega) rfl ?_
    refine l_nil ?_
    refine g_inBlock ?_
    refine g_region ?_
    refine l_move rfl rfl ?_
    first | refine l_add rfl rfl rfl (w_i64 (by omega) (by omega)) ?_ | refine l_addw rfl rfl rfl ?_
    refine l_assign rfl rfl ?_
    refine l_nil ?_
    exact g_againi (ih (i + 1, X.set i.toNat (-77)) ⟨by simp only; omega, by simp only; omega, by simp only [List.length_set]; exact hX, fun j hj => by simp only; rw [gx_set (by omega), if_neg (by omega)]; exact hy j hj, fun j h1 h2 => by simp only at h2 ⊢; rw [gx_set (by omega)]; split; rfl; exact hz j h1 (by omega)⟩ (by simp only; omega)) (.cons rfl (.cons rfl (.cons rfl (.cons rfl (.nil)))))
  intro hbr
  have hbr := of_decide_eq_false hbr
  refine g_exit rfl ?_
  obtain rfl : i = (n : Int) + 9 := by omega
  refine g_seq ?_
  refine g_region ?_
  refine l_move rfl rfl ?_
  refine l_move rfl rfl ?_
  refine l_len rfl Try.underlying23 rfl ?_
  refine l_slice_hi rfl Try.underlying23 Try.sizeOf3 rfl rfl (by omega) (by omega) ?_
  refine l_assign rfl rfl ?_
  refine l_nil ?_
  refine g_ret Try.func47 rfl (.tmp rfl .nil) ?_
  exact Gives.mki ⟨b8, X, by rw [Int.toNat_natCast]; rfl, ⟨hX, hy, fun j h1 h2 => hz j h1 (by omega)⟩, rfl⟩
set_option maxHeartbeats 4000000 in
theorem lenti_z (w0 : World) (F : List Atom) (a : Option Addr) (n c : Nat) (l : List Int) (hl : l.length = n)  (hn : n ≤ 2147483647) (hU : I64s l) (hn0 : n = 0) :
    CallK Try.prog 47 [.slice a n c] w0 (F) (Gives w0 fun v F2 => ∃ g X, v = .slice (some ⟨g, 0, none⟩) n (n + 9) ∧ LentI l n X ∧ F2 = Own 3 1 (.slice (some ⟨g, 0, none⟩) (n + 9) (n + 9)) (n + 9) (ints .i64 X) :: F) := by
  refine c_enter Try.func47 rfl rfl rfl ?_
  refine g_seq ?_
  refine g_region ?_
  refine l_assign rfl rfl ?_
  refine l_nil ?_
  refine g_seq ?_
  refine g_region ?_
  refine l_move rfl rfl ?_
  refine l_len rfl Try.underlying23 rfl ?_
  first | refine l_add rfl rfl rfl (w_i64 (by omega) (by omega)) ?_ | refine l_addw rfl rfl rfl ?_
  refine l_makew rfl Try.underlying23 Try.type3 rfl rfl rfl rfl (by omega) (by show (8 : Int) * _ ≤ _; omega) (by omega) ?_; intro b8; rw [show ((n : Int) + 9).toNat = n + 9 by omega]
  refine l_assign rfl rfl ?_
  refine l_nil ?_
  refine g_seq ?_
  refine g_region ?_
  refine l_move rfl rfl ?_
  refine l_move rfl rfl ?_
  refine l_copy0n hn0 rfl Try.underlying23 Try.sizeOf3 rfl rfl ?_
  rw [show List.replicate (n + 9) (0 : Int) = l ++ List.replicate 9 0 by rw [List.eq_nil_of_length_eq_zero (hl.trans hn0), hn0]; rfl]
  refine l_nil ?_
  refine g_seq ?_
  refine g_seq ?_
  refine g_region ?_
  refine l_move rfl rfl ?_
  refine l_len rfl Try.underlying23 rfl ?_
  refine l_assign rfl rfl ?_
  refine l_nil ?_
  refine g_block ?_
  refine g_loopk (X := Int × List Int) [(0, _), (2, _), (3, _)] (.cons rfl (.cons rfl (.cons rfl (.nil)))) (fun z => (n : Int) ≤ z.1 ∧ z.1 ≤ (n : Int) + 9 ∧ z.2.length = n + 9 ∧ (∀ j, j < n → z.2.getD j 0 = l.getD j 0) ∧ ∀ j : Nat, n ≤ j → (j : Int) < z.1 → z.2.getD j 0 = (-77)) (fun z => ((n : Int) + 9 - z.1).toNat) (fun z => [(4, .int .i64 z.1)]) (fun z => Own 3 1 (.slice (some ⟨b8, 0, none⟩) (n + 9) (n + 9)) (n + 9) (ints .i64 z.2) :: F) (((n : Int), l ++ List.replicate 9 0)) (⟨by simp only; omega, by simp only; omega, by simp [hl], fun j hj => by simp only [List.getD_eq_getElem?_getD]; rw [List.getElem?_append_left (by omega)], fun j h1 h2 => by simp only at h2; omega⟩) (.cons rfl .nil) (fun w hw => SPI.holds hw) ?_
  rintro ⟨i, X⟩ ⟨i0, i1, hX, hy, hz⟩ ih
  dsimp only [List.cons_append, List.nil_append] at ih ⊢
  simp only at i0 i1 hX hy hz
  refine g_seq ?_
  refine g_seq ?_
  refine g_region ?_
  refine l_move rfl rfl ?_
  refine l_move rfl rfl ?_
  refine l_len rfl Try.underlying23 rfl ?_
  refine l_lss rfl rfl rfl ?_
  refine l_nil ?_
  refine g_cond rfl ?_ ?_
  · intro hbr
    have hbr := of_decide_eq_true hbr
    refine g_skip ?_
    refine g_seq ?_
    refine g_block ?_
    refine g_region ?_
    refine l_move rfl rfl ?_
    refine l_move rfl rfl ?_
    refine l_ixs rfl Try.underlying23 Try.sizeOf3 rfl rfl (by omega) (by omega) ?_
    refine l_storew 0 Try.sizeOf3 rfl rfl rfl (by omega) rfl ?_
    refine l_nil ?_
    refine g_inBlock ?_
    refine g_region ?_
    refine l_move rfl rfl ?_
    first | refine l_add rfl rfl rfl (w_i64 (by omega) (by omega)) ?_ | refine l_addw rfl rfl rfl ?_
    refine l_assign rfl rfl ?_
    refine l_nil ?_
    exact g_againi (ih (i + 1, X.set i.toNat (-77)) ⟨by simp only; omega, by simp only; omega, by simp only [List.length_set]; exact hX, fun j hj => by simp only; rw [gx_set (by omega), if_neg (by omega)]; exact hy j hj, fun j h1 h2 => by simp only at h2 ⊢; rw [gx_set (by omega)]; split; rfl; exact hz j h1 (by omega)⟩ (by simp only; omega)) (.cons rfl (.cons rfl (.cons rfl (.cons rfl (.nil)))))
  intro hbr
  have hbr := of_decide_eq_false hbr
  refine g_exit rfl ?_
  obtain rfl : i = (n : Int) + 9 := by omega
  refine g_seq ?_
  refine g_region ?_
  refine l_move rfl rfl ?_
  refine l_move rfl rfl ?_
  refine l_len rfl Try.underlying23 rfl ?_
  refine l_slice_hi rfl Try.underlying23 Try.sizeOf3 rfl rfl (by omega) (by omega) ?_
  refine l_assign rfl rfl ?_
  refine l_nil ?_
  refine g_ret Try.func47 rfl (.tmp rfl .nil) ?_
  exact Gives.mki ⟨b8, X, by rw [Int.toNat_natCast]; rfl, ⟨hX, hy, fun j h1 h2 => hz j h1 (by omega)⟩, rfl⟩
theorem lenti_ok (w0 : World) (F : List Atom) (a : Option Addr) (n c : Nat) (l : List Int) (hl : l.length = n) (hI : IR w0 F .i64 a n l) (hn : n ≤ 2147483647) (hU : I64s l) : CallK Try.prog 47 [.slice a n c] w0 (F) (Gives w0 fun v F2 => ∃ g X, v = .slice (some ⟨g, 0, none⟩) n (n + 9) ∧ LentI l n X ∧ F2 = Own 3 1 (.slice (some ⟨g, 0, none⟩) (n + 9) (n + 9)) (n + 9) (ints .i64 X) :: F) := by
  by_cases h : n = 0
  · exact lenti_z w0 F a n c l hl hn hU h
  · obtain ⟨b, o, rfl, hr⟩ := hI.some (i := 0) (by omega)
    exact lenti_s w0 F _ n c l hl ⟨by rw [ints_length, hl, Nat.mul_one], .inl ⟨b, o, c, rfl, hr⟩⟩ hn hU
set_option maxHeartbeats 4000000 in
theorem backi_ok (w0 : World) (F : List Atom) (g : Nat) (Z : List Int) (a : Option Addr) (n c : Nat) (l : List Int) (hl : l.length = n) (hI : IR w0 F .i64 a n l) (hn : n ≤ 2147483647) (hU : I64s l) (hZ : LentI l n Z) :
    CallK Try.prog 49 [.slice (some ⟨g, 0, none⟩) n (n + 9), .slice a n c] w0 (Own 3 1 (.slice (some ⟨g, 0, none⟩) (n + 9) (n + 9)) (n + 9) (ints .i64 Z) :: F) (Gives w0 fun v F2 => v = .bool true ∧ F2 = F) := by
  refine c_enter Try.func49 rfl rfl rfl ?_
  refine g_seq ?_
  refine g_region ?_
  refine l_assign rfl rfl ?_
  refine l_nil ?_
  refine g_seq ?_
  refine g_region ?_
  refine l_move rfl rfl ?_
  refine l_move rfl rfl ?_
  refine l_len rfl Try.underlying23 rfl ?_
  first | refine l_add rfl rfl rfl (w_i64 (by omega) (by omega)) ?_ | refine l_addw rfl rfl rfl ?_
  refine l_slice_hi rfl Try.underlying23 Try.sizeOf3 rfl rfl (by omega) (by omega) ?_
  rw [show ((n : Int) + 9).toNat = n + 9 by omega]
  refine l_assign rfl rfl ?_
  refine l_nil ?_
  refine g_seq ?_
  refine g_region ?_
  refine l_assign rfl rfl ?_
  refine l_nil ?_
  refine g_seq ?_
  refine g_seq ?_
  refine g_region ?_
  refine l_assign rfl rfl ?_
  refine l_nil ?_
  refine g_block ?_
  refine g_loopk (X := Int × List Int) [(1, _), (4, _), (5, _)] (.cons rfl (.cons rfl (.cons rfl (.nil)))) (fun z => 0 ≤ z.1 ∧ z.1 ≤ (n : Int) + 9 ∧ z.2.length = n + 9 ∧ ∀ j : Nat, z.1 ≤ j → z.2.getD j 0 = Z.getD j 0) (fun z => ((n : Int) + 9 - z.1).toNat) (fun z => [(6, .bool true), (7, .int .i64 z.1)]) (fun z => Own 3 1 (.slice (some ⟨g, 0, none⟩) (n + 9) (n + 9)) (n + 9) (ints .i64 z.2) :: F) (((0 : Int), Z)) (⟨by simp only; omega, by simp only; omega, hZ.1, fun j hj => rfl⟩) (.cons rfl (.cons rfl .nil)) (fun w hw => SPI.holds hw) ?_
  rintro ⟨i, X⟩ ⟨i0, i1, hX, hx⟩ ih
  dsimp only [List.cons_append, List.nil_append] at ih ⊢
  simp only at i0 i1 hX hx
  have hx1 := hZ.2.1 i.toNat
  have hx2 := hZ.2.2 i.toNat
  refine g_seq ?_
  refine g_seq ?_
  refine g_region ?_
  refine l_move rfl rfl ?_
  refine l_move rfl rfl ?_
  refine l_len rfl Try.underlying23 rfl ?_
  refine l_lss rfl rfl rfl ?_
  refine l_nil ?_
  refine g_cond rfl ?_ ?_
  · intro hbr
    have hbr := of_decide_eq_true hbr
    refine g_skip ?_
    refine g_seq ?_
    refine g_block ?_
    refine g_seq ?_
    refine g_seq ?_
    refine g_region ?_
    refine l_move rfl rfl ?_
    refine l_move rfl rfl ?_
    refine l_len rfl Try.underlying23 rfl ?_
    refine l_lss rfl rfl rfl ?_
    refine l_nil ?_
    refine g_cond rfl ?_ ?_
    · intro hbr
      have hbr := of_decide_eq_true hbr
      refine gp_start mo (by kernel_rfl) (by kernel_rfl) ?_
      obtain ⟨b9, o9, rfl, hr9⟩ := hI.some (i := i.toNat) (by omega)
      refine gp_quiet 0 rfl rfl rfl rfl rfl rfl (q_move rfl) ?_
      refine gp_quiet 1 rfl rfl rfl rfl rfl rfl (q_move rfl) ?_
      refine gp_split 24 rfl ?_ ?_
      · intro hbr
        have hg24 := hbr
        refine gp_quietg 2 rfl rfl rfl rfl rfl rfl (.yes rfl rfl (q_move rfl)) ?_
        refine gp_quietg 3 rfl rfl rfl rfl rfl rfl (.yes rfl rfl (q_move rfl)) ?_
        refine gp_quietg 4 rfl rfl rfl rfl rfl rfl (.yes rfl rfl (q_ixs Try.underlying23 Try.sizeOf3 rfl rfl (by omega) (by omega))) ?_
        refine gp_quietg 5 rfl rfl rfl rfl rfl rfl (.yes rfl rfl (q_loadc (v := .int .i64 (X.getD i.toNat 0)) Try.isAgg3 rfl (word_at (mem_getO 0 rfl) (by omega)))) ?_
        refine gp_quietg 6 rfl rfl rfl rfl rfl rfl (.yes rfl rfl (q_move rfl)) ?_
        refine gp_quietg 7 rfl rfl rfl rfl rfl rfl (.yes rfl rfl (q_move rfl)) ?_
        refine gp_quietg 8 rfl rfl rfl rfl rfl rfl (.yes rfl rfl (q_ixs Try.underlying23 Try.sizeOf3 rfl rfl (by omega) (by omega))) ?_
        refine gp_quietg 9 rfl rfl rfl rfl rfl rfl (.yes rfl rfl (q_loadc (v := .int .i64 (l.getD i.toNat 0)) Try.isAgg3 rfl (word_any hr9 (by omega)))) ?_
        refine gp_quietg 10 rfl rfl rfl rfl rfl rfl (.yes rfl rfl (q_eql rfl rfl)) ?_
        rw [decide_eq_true (show X.getD i.toNat 0 = l.getD i.toNat 0 by rw [hx i.toNat (by omega)]; exact hx1 (by omega))]
        refine gp_quiet 11 rfl rfl rfl rfl rfl rfl (q_pick_t rfl rfl) ?_
        refine gp_after 12 rfl rfl rfl rfl rfl rfl rfl rfl (q_assign rfl) ?_
        refine gp_end rfl rfl ?_
        refine g_region ?_
        refine l_move rfl rfl ?_
        refine l_move rfl rfl ?_
        refine l_ixs rfl Try.underlying23 Try.sizeOf3 rfl rfl (by omega) (by omega) ?_
        refine l_storew 0 Try.sizeOf3 rfl rfl rfl (by omega) rfl ?_
        refine l_nil ?_
        refine g_inBlock ?_
        refine g_region ?_
        refine l_move rfl rfl ?_
        first | refine l_add rfl rfl rfl (w_i64 (by omega) (by omega)) ?_ | refine l_addw rfl rfl rfl ?_
        refine l_assign rfl rfl ?_
        refine l_nil ?_
        exact g_againi (ih (i + 1, X.set i.toNat (-78)) ⟨by simp only; omega, by simp only; omega, by simp only [List.length_set]; exact hX, fun j hj => by simp only at hj ⊢; rw [gx_set (by omega), if_neg (by omega)]; exact hx j (by omega)⟩ (by simp only; omega)) (.cons rfl (.cons rfl (.cons rfl (.cons rfl (.cons rfl (.nil))))))
      · intro hbr
        first | (exfalso; simp at hbr; done) | (exfalso; simp at hbr; omega) | (exfalso; first | omega | (simp at hbr; done))
    intro hbr
    have hbr := of_decide_eq_false hbr
    refine g_region ?_
    refine l_move rfl rfl ?_
    refine l_move rfl rfl ?_
    refine l_split 36 rfl ?_ ?_
    · intro hbr
      refine l_guard_yes rfl rfl ?_
      refine l_move rfl rfl ?_
      refine l_guard_yes rfl rfl ?_
      refine l_move rfl rfl ?_
      refine l_guard_yes rfl rfl ?_
      refine l_ixs rfl Try.underlying23 Try.sizeOf3 rfl rfl (by omega) (by omega) ?_
      refine l_guard_yes rfl rfl ?_
      refine l_loadc (v := .int .i64 (X.getD i.toNat 0)) rfl Try.isAgg3 rfl (word_at (mem_getO 0 rfl) (by omega)) ?_
      refine l_guard_yes rfl rfl ?_
      refine l_eql rfl rfl rfl ?_
      rw [decide_eq_true (show X.getD i.toNat 0 = (-77) by rw [hx i.toNat (by omega)]; exact hx2 (by omega) (by omega))]
      refine l_pick_t rfl rfl rfl ?_
      refine l_assign rfl rfl ?_
      refine l_nil ?_
      refine g_region ?_
      refine l_move rfl rfl ?_
      refine l_move rfl rfl ?_
      refine l_ixs rfl Try.underlying23 Try.sizeOf3 rfl rfl (by omega) (by omega) ?_
      refine l_storew 0 Try.sizeOf3 rfl rfl rfl (by omega) rfl ?_
      refine l_nil ?_
      refine g_inBlock ?_
      refine g_region ?_
      refine l_move rfl rfl ?_
      first | refine l_add rfl rfl rfl (w_i64 (by omega) (by omega)) ?_ | refine l_addw rfl rfl rfl ?_
      refine l_assign rfl rfl ?_
      refine l_nil ?_
      exact g_againi (ih (i + 1, X.set i.toNat (-78)) ⟨by simp only; omega, by simp only; omega, by simp only [List.length_set]; exact hX, fun j hj => by simp only at hj ⊢; rw [gx_set (by omega), if_neg (by omega)]; exact hx j (by omega)⟩ (by simp only; omega)) (.cons rfl (.cons rfl (.cons rfl (.cons rfl (.cons rfl (.nil))))))
    · intro hbr
      first | (exfalso; simp at hbr; done) | (exfalso; simp at hbr; omega) | (exfalso; first | omega | (simp at hbr; done))
  intro hbr
  have hbr := of_decide_eq_false hbr
  refine g_exit rfl ?_
  refine g_seq ?_
  refine g_region ?_
  refine l_move rfl rfl ?_
  refine l_assign rfl rfl ?_
  refine l_nil ?_
  refine g_ret Try.func49 rfl (.tmp rfl .nil) ?_
  exact Gives.mki ⟨rfl, rfl⟩
end Go.Proofs.Ythemlddepepekaa.Fw
