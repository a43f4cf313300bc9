import Derived.Test.YtjfibfbknfeflaaSNone
namespace Go.Proofs.Ytjfibfbknfeflaa.Fw
open Go Go.Proofs
set_option linter.unusedVariables false
set_option linter.unusedSimpArgs false
set_option maxRecDepth 10000

theorem keep_set {X : List Int} {v : Int} (h : 0 < X.length) : (X.set (0 : Int).toNat v).getD 0 0 = v := by
  cases X with
  | nil => simp at h
  | cons x X => rfl
theorem keep_word {w0 : World} {F : List Atom} {E g m c : Nat} {X : List Int} {v : Int} (hm : Own E 1 (.slice (some ⟨g, 0, none⟩) m c) m (ints .i64 X) ∈ F) (hv : X.getD 0 0 = v) (hl : 0 < X.length) : CellAt w0 F g (0 + (0 : Int).toNat * 1) (.int .i64 v) := by
  have := word_at (w0 := w0) hm hl
  rw [hv] at this
  exact this
set_option maxHeartbeats 4000000 in
theorem keeps_ok (w0 : World) (F : List Atom) (room : Int) (r0 : -9223372036854775808 ≤ room) (r1 : room ≤ 9223372036854775807) (a : Option Addr) (n cc : Nat) (Y : List Int) (hI : IR w0 F .i64 a n Y) (hn : n ≤ 17592186043904) (hr : 1 ≤ room ∧ room ≤ 4096) (hn2 : n ≤ 2147483647) :
    CallK Try.prog 3 [.int .i64 room, .slice a n cc] w0 (F) (Gives w0 fun v F2 => v = .bool true ∧ F2 = F) := by
  have hl := hI.1
  refine c_enter Try.func3 rfl rfl rfl ?_
  refine g_seq ?_
  refine g_region ?_
  refine l_assign rfl rfl ?_
  refine l_nil ?_
  refine g_seq ?_
  refine g_seq ?_
  refine g_region ?_
  refine l_move rfl rfl ?_
  refine l_len rfl Try.underlying22 rfl ?_
  refine l_gtr rfl rfl rfl ?_
  refine l_nil ?_
  refine g_cond rfl ?_ ?_
  · intro hbr
    have hbr := of_decide_eq_true hbr
    (exfalso; omega)
  intro hbr
  have hbr := of_decide_eq_false hbr
  refine g_skip ?_
  refine g_seq ?_
  refine g_region ?_
  refine l_move rfl rfl ?_
  refine l_call rfl Try.call8 rfl (new_il _ _ room (by omega) (by omega)) ?_; rintro _ _ ⟨sb, m, rfl, rfl⟩
  refine l_move rfl rfl ?_
  refine l_extract rfl rfl rfl ?_
  refine l_extract rfl rfl rfl ?_
  refine l_assign rfl rfl ?_
  refine l_assign rfl rfl ?_
  refine l_nil ?_
  refine g_seq ?_
  refine g_seq ?_
  refine g_region ?_
  refine l_move rfl rfl ?_
  refine l_neq rfl rfl rfl ?_
  refine l_move rfl rfl ?_
  refine l_split 22 rfl ?_ ?_
  · intro hbr
    have hbr := of_decide_eq_true hbr
    (exfalso; omega)
  intro hbr
  have hbr := of_decide_eq_false hbr
  refine l_guard_yes rfl rfl ?_
  refine l_move rfl rfl ?_
  refine l_guard_yes rfl rfl ?_
  refine l_eqpn rfl Try.underlying23 rfl rfl ?_
  refine l_pick_f rfl rfl rfl ?_
  refine l_nil ?_
  refine g_cond_f rfl ?_
  refine g_skip ?_
  refine g_seq ?_
  refine g_region ?_
  refine l_move rfl rfl ?_
  refine l_len rfl Try.underlying22 rfl ?_
  first | refine l_add rfl rfl rfl (w_i64 (by omega) (by omega)) ?_ | refine l_addw rfl rfl rfl ?_
  refine l_makew rfl Try.underlying22 Try.type3 rfl rfl rfl rfl (by omega) (by show (8 : Int) * _ ≤ _; omega) (by omega) ?_; intro b38; rw [show ((n : Int) + 1).toNat = n + 1 by omega]
  refine l_assign rfl rfl ?_
  refine l_nil ?_
  refine g_seq ?_
  refine g_seq ?_
  refine g_region ?_
  refine l_assign rfl rfl ?_
  refine l_nil ?_
  refine g_block ?_
  refine g_loopk (X := Int × List Int) [(1, _), (4, _), (5, _), (7, _)] (.cons rfl (.cons rfl (.cons rfl (.cons rfl (.nil))))) (fun z => 0 ≤ z.1 ∧ z.1 ≤ n ∧ z.2.length = n + 1) (fun z => ((n : Int) - z.1).toNat) (fun z => [(8, .int .i64 z.1)]) (fun z => Own 3 1 (.slice (some ⟨b38, 0, none⟩) (n + 1) (n + 1)) (n + 1) (ints .i64 z.2) :: Blk sb (.cells [Value.int .i64 room, .map (some m), .pointer (fstP ([]) none), .pointer (lstP ([]) none)].toArray 63 (0, 0)) :: Seg 66 none ([]) none :: MapI m [] :: F) ((0, List.replicate (n + 1) 0)) (⟨by simp only; omega, by simp only; omega, List.length_replicate ..⟩) (.cons rfl .nil) (fun w hw => SPI.holds hw) ?_
  rintro ⟨i, X⟩ ⟨i0, i1, hX⟩ ih
  dsimp only [List.cons_append, List.nil_append] at ih ⊢
  simp only at i0 i1 hX
  refine g_seq ?_
  refine g_seq ?_
  refine g_region ?_
  refine l_move rfl rfl ?_
  refine l_move rfl rfl ?_
  refine l_len rfl Try.underlying22 rfl ?_
  refine l_lss rfl rfl rfl ?_
  refine l_nil ?_
  refine g_cond rfl ?_ ?_
  · intro hbr
    have hbr := of_decide_eq_true hbr
    refine g_skip ?_
    refine g_seq ?_
    refine g_block ?_
    refine g_region ?_
    refine l_move rfl rfl ?_
    refine l_move rfl rfl ?_
    refine l_move rfl rfl ?_
    refine l_move rfl rfl ?_
    obtain ⟨b9, o9, rfl, hr9⟩ := hI.some (i := i.toNat) (by omega)
    refine l_ixs rfl Try.underlying22 Try.sizeOf3 rfl rfl (by omega) (by omega) ?_
    refine l_loadc rfl Try.isAgg3 rfl (word_any hr9 (by omega)) ?_
    refine l_ixs rfl Try.underlying22 Try.sizeOf3 rfl rfl (by omega) (by omega) ?_
    refine l_storew 0 Try.sizeOf3 rfl rfl rfl (by omega) rfl ?_
    refine l_nil ?_
    refine g_inBlock ?_
    refine g_region ?_
    refine l_move rfl rfl ?_
    first | refine l_add rfl rfl rfl (w_i64 (by omega) (by omega)) ?_ | refine l_addw rfl rfl rfl ?_
    refine l_assign rfl rfl ?_
    refine l_nil ?_
    exact g_againi (ih (i + 1, X.set i.toNat (Y.getD i.toNat 0)) ⟨by simp only; omega, by simp only; omega, by simp only [List.length_set]; exact hX⟩ (by simp only; omega)) (.cons rfl (.cons rfl (.cons rfl (.cons rfl (.cons rfl (.nil))))))
  intro hbr
  have hbr := of_decide_eq_false hbr
  refine g_exit rfl ?_
  refine g_seq ?_
  refine g_region ?_
  refine l_move rfl rfl ?_
  refine l_move rfl rfl ?_
  refine gl_heap (F' := Blk sb (.cells [Value.int .i64 room, .map (some m), .pointer (fstP ([]) none), .pointer (lstP ([]) none)].toArray 63 (0, 0)) :: Seg 66 none ([]) none :: MapI m [] :: Own 3 1 (.slice (some ⟨b38, 0, none⟩) (n + 1) (n + 1)) (n + 1) (ints .i64 X) :: F) (fun w hw => SPI.holds hw) ?_
  refine l_call rfl Try.call10 rfl (put_new_il _ _ sb m room [] [] 1 (some ⟨b38, 0, none⟩) (n + 1) (n + 1) ShOk.nil (by simp) (by simp only [List.length_nil]; omega)) ?_; rintro _ _ ⟨b1, kv1, rfl, hS1, rfl⟩
  rw [List.nil_append] at hS1 ⊢
  refine l_nil ?_
  refine g_seq ?_
  refine g_region ?_
  refine l_move rfl rfl ?_
  refine l_ixs rfl Try.underlying22 Try.sizeOf3 rfl rfl (by omega) (by omega) ?_
  refine l_fronto b38 ?_
  refine l_storew 0 Try.sizeOf3 rfl rfl rfl (by omega) rfl ?_
  refine l_nil ?_
  refine g_seq ?_
  refine g_region ?_
  refine l_move rfl rfl ?_
  refine gl_heap (F' := Blk sb (.cells [Value.int .i64 room, .map (some m), .pointer (fstP ([(Nd.mk b1 1 (.slice (some ⟨b38, 0, none⟩) (n + 1) (n + 1)))]) none), .pointer (lstP ([(Nd.mk b1 1 (.slice (some ⟨b38, 0, none⟩) (n + 1) (n + 1)))]) none)].toArray 63 (0, 0)) :: Seg 66 none ([(Nd.mk b1 1 (.slice (some ⟨b38, 0, none⟩) (n + 1) (n + 1)))]) none :: MapI m kv1 :: Own 3 1 (.slice (some ⟨b38, 0, none⟩) (n + 1) (n + 1)) (n + 1) (ints .i64 (X.set (0 : Int).toNat 77)) :: F) (fun w hw => SPI.holds hw) ?_
  refine l_call rfl Try.call11 rfl (get_yes_il _ _ sb m room kv1 [] [] (Nd.mk b1 1 (.slice (some ⟨b38, 0, none⟩) (n + 1) (n + 1))) hS1) ?_; rintro _ _ ⟨rfl, rfl⟩
  rw [show (([] : List Nd) ++ [] ++ [(Nd.mk b1 1 (.slice (some ⟨b38, 0, none⟩) (n + 1) (n + 1)))]) = [(Nd.mk b1 1 (.slice (some ⟨b38, 0, none⟩) (n + 1) (n + 1)))] from rfl]
  refine l_move rfl rfl ?_
  refine l_extract (v := .slice (some ⟨b38, 0, none⟩) (n + 1) (n + 1)) rfl rfl rfl ?_
  refine l_extract (v := .bool true) rfl rfl rfl ?_
  refine l_assign rfl rfl ?_
  refine l_assign rfl rfl ?_
  refine l_nil ?_
  refine g_seq ?_
  refine g_seq ?_
  refine g_region ?_
  refine l_move rfl rfl ?_
  refine l_not rfl rfl ?_
  refine l_move rfl rfl ?_
  refine l_guard_yes rfl rfl ?_
  refine l_move rfl rfl ?_
  refine l_guard_yes rfl rfl ?_
  refine l_len rfl Try.underlying22 rfl ?_
  refine l_guard_yes rfl rfl ?_
  refine l_move rfl rfl ?_
  refine l_guard_yes rfl rfl ?_
  refine l_len rfl Try.underlying22 rfl ?_
  refine l_guard_yes rfl rfl ?_
  refine l_neq rfl rfl rfl ?_
  refine l_pick_f rfl rfl rfl ?_
  refine l_move rfl rfl ?_
  refine l_split 71 rfl ?_ ?_
  · intro hbr
    have hbr := of_decide_eq_true hbr
    (exfalso; omega)
  intro hbr
  have hbr := of_decide_eq_false hbr
  refine l_guard_yes rfl rfl ?_
  refine l_move rfl rfl ?_
  refine l_guard_yes rfl rfl ?_
  refine l_ixs rfl Try.underlying22 Try.sizeOf3 rfl rfl (by omega) (by omega) ?_
  refine l_guard_yes rfl rfl ?_
  refine l_loadc (v := .int .i64 77) rfl Try.isAgg3 rfl (keep_word (show Own 3 1 (.slice (some ⟨b38, 0, none⟩) (n + 1) (n + 1)) (n + 1) (ints .i64 (X.set (0 : Int).toNat 77)) ∈ _ from (by first | exact mem_getO 0 rfl | exact mem_getO 1 rfl | exact mem_getO 2 rfl | exact mem_getO 3 rfl | exact mem_getO 4 rfl | exact mem_getO 5 rfl | exact mem_getO 6 rfl | exact mem_getO 7 rfl)) (keep_set (by first | omega | (simp only [List.length_set]; omega))) (by simp only [List.length_set]; omega)) ?_
  refine l_guard_yes rfl rfl ?_
  refine l_neq rfl rfl rfl ?_
  refine l_pick_f rfl rfl rfl ?_
  refine l_nil ?_
  refine g_cond rfl ?_ ?_
  · intro hbr
    have hbr := of_decide_eq_true hbr
    (exfalso; omega)
  intro hbr
  have hbr := of_decide_eq_false hbr
  refine g_skip ?_
  refine g_seq ?_
  refine g_region ?_
  refine l_move rfl rfl ?_
  refine l_ixs rfl Try.underlying22 Try.sizeOf3 rfl rfl (by omega) (by omega) ?_
  refine l_fronto b38 ?_
  refine l_storew 0 Try.sizeOf3 rfl rfl rfl (by simp only [List.length_set]; omega) rfl ?_
  refine l_nil ?_
  refine g_seq ?_
  refine g_region ?_
  refine l_move rfl rfl ?_
  refine gl_heap (F' := Blk sb (.cells [Value.int .i64 room, .map (some m), .pointer (fstP ([(Nd.mk b1 1 (.slice (some ⟨b38, 0, none⟩) (n + 1) (n + 1)))]) none), .pointer (lstP ([(Nd.mk b1 1 (.slice (some ⟨b38, 0, none⟩) (n + 1) (n + 1)))]) none)].toArray 63 (0, 0)) :: Seg 66 none ([(Nd.mk b1 1 (.slice (some ⟨b38, 0, none⟩) (n + 1) (n + 1)))]) none :: MapI m kv1 :: Own 3 1 (.slice (some ⟨b38, 0, none⟩) (n + 1) (n + 1)) (n + 1) (ints .i64 ((X.set (0 : Int).toNat 77).set (0 : Int).toNat 78)) :: F) (fun w hw => SPI.holds hw) ?_
  refine l_call rfl Try.call12 rfl (peek_yes_il _ _ sb m room kv1 [] [] (Nd.mk b1 1 (.slice (some ⟨b38, 0, none⟩) (n + 1) (n + 1))) hS1) ?_; rintro _ _ ⟨rfl, rfl⟩
  refine l_move rfl rfl ?_
  refine l_extract (v := .slice (some ⟨b38, 0, none⟩) (n + 1) (n + 1)) rfl rfl rfl ?_
  refine l_extract (v := .bool true) rfl rfl rfl ?_
  refine l_assign rfl rfl ?_
  refine l_assign rfl rfl ?_
  refine l_nil ?_
  refine g_seq ?_
  refine g_region ?_
  refine l_move rfl rfl ?_
  refine l_move rfl rfl ?_
  refine l_guard_yes rfl rfl ?_
  refine l_move rfl rfl ?_
  refine l_guard_yes rfl rfl ?_
  refine l_len rfl Try.underlying22 rfl ?_
  refine l_guard_yes rfl rfl ?_
  refine l_move rfl rfl ?_
  refine l_guard_yes rfl rfl ?_
  refine l_len rfl Try.underlying22 rfl ?_
  refine l_guard_yes rfl rfl ?_
  refine l_eql rfl rfl rfl ?_
  refine l_pick_t rfl rfl rfl ?_
  refine l_move rfl rfl ?_
  refine l_split 92 rfl ?_ ?_
  · intro hbr
    have hbr := of_decide_eq_true hbr
    refine l_guard_yes rfl rfl ?_
    refine l_move rfl rfl ?_
    refine l_guard_yes rfl rfl ?_
    refine l_ixs rfl Try.underlying22 Try.sizeOf3 rfl rfl (by omega) (by omega) ?_
    refine l_guard_yes rfl rfl ?_
    refine l_loadc (v := .int .i64 78) rfl Try.isAgg3 rfl (keep_word (show Own 3 1 (.slice (some ⟨b38, 0, none⟩) (n + 1) (n + 1)) (n + 1) (ints .i64 ((X.set (0 : Int).toNat 77).set (0 : Int).toNat 78)) ∈ _ from (by first | exact mem_getO 0 rfl | exact mem_getO 1 rfl | exact mem_getO 2 rfl | exact mem_getO 3 rfl | exact mem_getO 4 rfl | exact mem_getO 5 rfl | exact mem_getO 6 rfl | exact mem_getO 7 rfl)) (keep_set (by first | omega | (simp only [List.length_set]; omega))) (by simp only [List.length_set]; omega)) ?_
    refine l_guard_yes rfl rfl ?_
    refine l_eql rfl rfl rfl ?_
    refine l_pick_t rfl rfl rfl ?_
    refine l_move rfl rfl ?_
    refine l_split 98 rfl ?_ ?_
    · intro hbr
      have hbr := of_decide_eq_true hbr
      refine l_guard_yes rfl rfl ?_
      refine l_move rfl rfl ?_
      refine l_guard_yes rfl rfl ?_
      refine l_ixs rfl Try.underlying22 Try.sizeOf3 rfl rfl (by omega) (by omega) ?_
      refine l_guard_yes rfl rfl ?_
      refine l_loadc (v := .int .i64 78) rfl Try.isAgg3 rfl (keep_word (show Own 3 1 (.slice (some ⟨b38, 0, none⟩) (n + 1) (n + 1)) (n + 1) (ints .i64 ((X.set (0 : Int).toNat 77).set (0 : Int).toNat 78)) ∈ _ from (by first | exact mem_getO 0 rfl | exact mem_getO 1 rfl | exact mem_getO 2 rfl | exact mem_getO 3 rfl | exact mem_getO 4 rfl | exact mem_getO 5 rfl | exact mem_getO 6 rfl | exact mem_getO 7 rfl)) (keep_set (by first | omega | (simp only [List.length_set]; omega))) (by simp only [List.length_set]; omega)) ?_
      refine l_guard_yes rfl rfl ?_
      refine l_eql rfl rfl rfl ?_
      refine l_pick_t rfl rfl rfl ?_
      refine l_assign rfl rfl ?_
      refine l_nil ?_
      refine g_ret Try.func3 rfl (.tmp rfl .nil) ?_
      (first | exact Gives.mki ⟨rfl, rfl⟩ | exact Gives.mki ⟨congrArg Value.bool (decide_eq_true rfl), rfl⟩)
    · intro hbr
      have hbr := of_decide_eq_false hbr
      (exfalso; omega)
  · intro hbr
    have hbr := of_decide_eq_false hbr
    (exfalso; omega)
theorem keeps_bad (w0 : World) (F : List Atom) (room : Int) (a : Option Addr) (n cc : Nat) (hr : ¬ (1 ≤ room ∧ room ≤ 4096) ∨ 2147483647 < n) :
    CallK Try.prog 3 [.int .i64 room, .slice a n cc] w0 (F) (Gives w0 fun v F2 => v = .bool true ∧ F2 = F) := by
  refine c_enter Try.func3 rfl rfl rfl ?_
  refine g_seq ?_
  refine g_region ?_
  refine l_assign rfl rfl ?_
  refine l_nil ?_
  refine g_seq ?_
  refine g_seq ?_
  refine g_region ?_
  refine l_move rfl rfl ?_
  refine l_len rfl Try.underlying22 rfl ?_
  refine l_gtr rfl rfl rfl ?_
  refine l_nil ?_
  refine g_cond rfl ?_ ?_
  · intro hbr
    have hbr := of_decide_eq_true hbr
    refine g_seq ?_
    refine g_region ?_
    refine l_assign rfl rfl ?_
    refine l_nil ?_
    refine g_ret Try.func3 rfl (.tmp rfl .nil) ?_
    exact Gives.mki ⟨rfl, rfl⟩
  intro hbr
  have hbr := of_decide_eq_false hbr
  refine g_skip ?_
  refine g_seq ?_
  refine g_region ?_
  refine l_move rfl rfl ?_
  refine l_call rfl Try.call8 rfl (newbad_il _ _ room (by omega)) ?_; rintro _ F9 ⟨rfl, hF9⟩; rw [hF9]; clear hF9 F9
  refine l_move rfl rfl ?_
  refine l_extract rfl rfl rfl ?_
  refine l_extract rfl rfl rfl ?_
  refine l_assign rfl rfl ?_
  refine l_assign rfl rfl ?_
  refine l_nil ?_
  refine g_seq ?_
  refine g_seq ?_
  refine g_region ?_
  refine l_move rfl rfl ?_
  refine l_neq rfl rfl rfl ?_
  refine l_move rfl rfl ?_
  refine l_split 22 rfl ?_ ?_
  · intro hbr
    have hbr := of_decide_eq_true hbr
    refine l_guard_no rfl rfl rfl ?_
    refine l_guard_no rfl rfl rfl ?_
    refine l_pick_t rfl rfl rfl ?_
    refine l_nil ?_
    refine g_cond_t rfl ?_
    refine g_seq ?_
    refine g_region ?_
    refine l_move rfl rfl ?_
    refine l_lss rfl rfl rfl ?_
    refine l_move rfl rfl ?_
    refine l_split 28 rfl ?_ ?_
    · intro hbr
      have hbr := of_decide_eq_true hbr
      refine l_guard_no rfl rfl rfl ?_
      refine l_guard_no rfl rfl rfl ?_
      refine l_pick_t rfl rfl rfl ?_
      refine l_move rfl rfl ?_
      refine l_guard_yes rfl rfl ?_
      refine l_call rfl Try.call9 rfl (awake_ok _ _) ?_; rintro _ F9 ⟨rfl, hF9⟩; rw [hF9]; clear hF9 F9
      refine l_pick_t rfl rfl rfl ?_
      refine l_assign rfl rfl ?_
      refine l_nil ?_
      refine g_ret Try.func3 rfl (.tmp rfl .nil) ?_
      exact Gives.mki ⟨rfl, rfl⟩
    intro hbr
    have hbr := of_decide_eq_false hbr
    refine l_guard_yes rfl rfl ?_
    refine l_move rfl rfl ?_
    refine l_guard_yes rfl rfl ?_
    refine l_gtr rfl rfl rfl ?_
    refine l_pick_f rfl rfl rfl ?_
    refine l_move rfl rfl ?_
    refine l_split 32 rfl ?_ ?_
    · intro hbr
      have hbr := of_decide_eq_true hbr
      refine l_guard_yes rfl rfl ?_
      refine l_call rfl Try.call9 rfl (awake_ok _ _) ?_; rintro _ F9 ⟨rfl, hF9⟩; rw [hF9]; clear hF9 F9
      refine l_pick_t rfl rfl rfl ?_
      refine l_assign rfl rfl ?_
      refine l_nil ?_
      refine g_ret Try.func3 rfl (.tmp rfl .nil) ?_
      exact Gives.mki ⟨rfl, rfl⟩
    · intro hbr
      have hbr := of_decide_eq_false hbr
      (exfalso; omega)
  · intro hbr
    have hbr := of_decide_eq_false hbr
    (exfalso; omega)
theorem keeps_all (W : World) (room : Int) (hr : -9223372036854775808 ≤ room ∧ room ≤ 9223372036854775807) (a : Option Addr) (n cc : Nat) (Y : List Int) (hl : Y.length = n) (hn : n ≤ 17592186043904) (hx : (n = 0 ∧ (a = none → cc = 0)) ∨ ∃ b o, a = some ⟨b, o, none⟩ ∧ ∀ (j : Nat) u, (ints .i64 Y)[j]? = some u → W.cell? ⟨b, o + j, none⟩ = some u) : CallK Try.prog 3 [.int .i64 room, .slice a n cc] W [Old W] (Gives W fun v F2 => v = .bool true ∧ F2 = [Old W]) := by
  by_cases h : (1 ≤ room ∧ room ≤ 4096) ∧ n ≤ 2147483647
  · refine keeps_ok W [Old W] room hr.1 hr.2 a n cc Y ⟨hl, ?_⟩ hn h.1 h.2
    rcases hx with ⟨h, _⟩ | ⟨b, o, h, hr⟩
    · exact .inl h
    · exact .inr ⟨b, o, h, RowAt.old (by simp) hr⟩
  · exact keeps_bad W [Old W] room a n cc (by omega)
end Go.Proofs.Ytjfibfbknfeflaa.Fw
