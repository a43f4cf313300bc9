import Derived.Test.YtjfibfbknfeflaaSCalls
namespace Go.Proofs.Ytjfibfbknfeflaa.Fw
open Go Go.Proofs
set_option linter.unusedVariables false
set_option linter.unusedSimpArgs false
set_option maxRecDepth 10000

set_option maxHeartbeats 4000000 in
theorem awake_ok (w0 : World) (F : List Atom)  :
    CallK Try.prog 9 [] w0 (F) (Gives w0 fun v F2 => v = .bool true ∧ F2 = F) := by
  refine c_enter Try.func9 rfl rfl rfl ?_
  refine g_seq ?_
  refine g_region ?_
  refine l_assign rfl rfl ?_
  refine l_nil ?_
  refine g_seq ?_
  refine g_region ?_
  refine l_call rfl Try.call13 rfl (new_ii _ _ 1 (by omega) (by omega)) ?_; rintro _ _ ⟨sb, m, rfl, rfl⟩
  refine l_move rfl rfl ?_
  refine l_extract rfl rfl rfl ?_
  refine l_extract rfl rfl rfl ?_
  refine l_assign rfl rfl ?_
  refine l_assign rfl rfl ?_
  refine l_nil ?_
  refine g_seq ?_
  refine g_seq ?_
  refine g_region ?_
  refine l_move rfl rfl ?_
  refine l_neq rfl rfl rfl ?_
  refine l_move rfl rfl ?_
  refine l_split 13 rfl ?_ ?_
  · intro hbr
    have hbr := of_decide_eq_true hbr
    (exfalso; omega)
  intro hbr
  have hbr := of_decide_eq_false hbr
  refine l_guard_yes rfl rfl ?_
  refine l_move rfl rfl ?_
  refine l_guard_yes rfl rfl ?_
  refine l_eqpn rfl Try.underlying34 rfl rfl ?_
  refine l_pick_f rfl rfl rfl ?_
  refine l_nil ?_
  refine g_cond_f rfl ?_
  refine g_skip ?_
  refine g_seq ?_
  refine g_region ?_
  refine l_move rfl rfl ?_
  refine l_call rfl Try.call17 rfl (put_new_ii _ _ sb m 1 [] [] 7 8 ShOk.nil (by simp) (by simp)) ?_; rintro _ _ ⟨b1, kv1, rfl, hS1, rfl⟩
  rw [List.nil_append] at hS1 ⊢
  refine l_nil ?_
  refine g_seq ?_
  refine g_region ?_
  refine l_move rfl rfl ?_
  refine l_call rfl Try.call17 rfl (put_full_ii _ _ sb m 1 kv1 (Nd.mk b1 7 (.int .i64 8)) [] 9 10 hS1 (fun x hx => by obtain rfl := List.mem_singleton.1 hx; show (7 : Int) ≠ 9; decide) rfl) ?_; rintro _ _ ⟨b2, kv2, rfl, hS2, rfl⟩
  rw [List.nil_append] at hS2 ⊢
  refine l_move rfl rfl ?_
  refine l_extract (v := .int .i64 7) rfl rfl rfl ?_
  refine l_extract (v := .bool true) rfl rfl rfl ?_
  refine l_assign rfl rfl ?_
  refine l_assign rfl rfl ?_
  refine l_nil ?_
  refine g_seq ?_
  refine g_region ?_
  refine l_move rfl rfl ?_
  refine l_call rfl Try.call14 rfl (get_yes_ii _ _ sb m 1 kv2 [] [] (Nd.mk b2 9 (.int .i64 10)) hS2) ?_; rintro _ _ ⟨rfl, rfl⟩
  refine l_move rfl rfl ?_
  refine l_extract (v := .int .i64 10) rfl rfl rfl ?_
  refine l_extract (v := .bool true) rfl rfl rfl ?_
  refine l_assign rfl rfl ?_
  refine l_assign rfl rfl ?_
  refine l_nil ?_
  refine g_seq ?_
  refine g_region ?_
  refine l_move rfl rfl ?_
  refine l_eql rfl rfl rfl ?_
  refine l_move rfl rfl ?_
  refine l_split 31 rfl ?_ ?_
  · intro hbr
    have hbr := of_decide_eq_true hbr
    refine l_guard_yes rfl rfl ?_
    refine l_move rfl rfl ?_
    refine l_pick_t rfl rfl rfl ?_
    refine l_move rfl rfl ?_
    refine l_guard_yes rfl rfl ?_
    refine l_move rfl rfl ?_
    refine l_guard_yes rfl rfl ?_
    refine l_eql rfl rfl rfl ?_
    refine l_pick_t rfl rfl rfl ?_
    refine l_move rfl rfl ?_
    refine l_split 38 rfl ?_ ?_
    · intro hbr
      have hbr := of_decide_eq_true hbr
      refine l_guard_yes rfl rfl ?_
      refine l_move rfl rfl ?_
      refine l_pick_t rfl rfl rfl ?_
      refine l_move rfl rfl ?_
      refine l_guard_yes rfl rfl ?_
      refine l_move rfl rfl ?_
      refine l_guard_yes rfl rfl ?_
      refine l_call rfl Try.call19 rfl (len_ii _ _ sb m 1 kv2 [(Nd.mk b2 9 (.int .i64 10))] hS2) ?_; rintro _ _ ⟨rfl, rfl⟩
      refine l_guard_yes rfl rfl ?_
      refine l_eql rfl rfl rfl ?_
      refine l_pick_t rfl rfl rfl ?_
      refine l_assign rfl rfl ?_
      refine l_nil ?_
      refine g_ret Try.func9 rfl (.tmp rfl .nil) ?_
      exact Gives.mki ⟨congrArg Value.bool (decide_eq_true (by rfl)), rfl⟩
    · intro hbr
      have hbr := of_decide_eq_false hbr
      (exfalso; omega)
  · intro hbr
    have hbr := of_decide_eq_false hbr
    (exfalso; omega)
theorem clear_nil_is (w0 : World) (F : List Atom)  :
    CallK Try.prog 25 [.pointer none] w0 (F) (Gives w0 fun v F2 => F2 = F) := by
  refine c_enter Try.func25 rfl rfl rfl ?_
  refine g_seq ?_
  refine g_seq ?_
  refine g_region ?_
  refine l_move rfl rfl ?_
  refine l_eqpn rfl Try.underlying51 rfl rfl ?_
  refine l_nil ?_
  refine g_cond_t rfl ?_
  refine g_ret Try.func25 rfl .nil ?_
  exact Gives.mki rfl
theorem room_nil_is (w0 : World) (F : List Atom)  :
    CallK Try.prog 28 [.pointer none] w0 (F) (Gives w0 fun v F2 => v = .int .i64 0 ∧ F2 = F) := by
  refine c_enter Try.func28 rfl rfl rfl ?_
  refine g_seq ?_
  refine g_region ?_
  refine l_assign rfl rfl ?_
  refine l_nil ?_
  refine g_seq ?_
  refine g_seq ?_
  refine g_region ?_
  refine l_move rfl rfl ?_
  refine l_eqpn rfl Try.underlying51 rfl rfl ?_
  refine l_nil ?_
  refine g_cond_t rfl ?_
  refine g_seq ?_
  refine g_region ?_
  refine l_assign rfl rfl ?_
  refine l_nil ?_
  refine g_ret Try.func28 rfl (.tmp rfl .nil) ?_
  exact Gives.mki ⟨rfl, rfl⟩
theorem all_is (w0 : World) (F : List Atom) (p : Option Addr) :
    CallK Try.prog 26 [.pointer p] w0 (F) (Gives w0 fun v F2 => ∃ bm, v = .func (.func 41) #[] [.pointer (some ⟨bm, 0, none⟩)].toArray ∧ F2 = Blk bm (.cells [Value.pointer p].toArray 51 (0, 0)) :: F) := by
  refine c_enter Try.func26 rfl rfl rfl ?_
  refine g_seq ?_
  refine g_region ?_
  refine l_box rfl rfl rfl ?_; intro b1
  refine l_assign rfl rfl ?_
  refine l_nil ?_
  refine g_seq ?_
  refine g_region ?_
  refine l_makeFunc rfl rfl ?_
  refine l_assign rfl rfl ?_
  refine l_nil ?_
  refine g_ret Try.func26 rfl (.tmp rfl .nil) ?_
  exact Gives.mki ⟨b1, rfl, rfl⟩
theorem seqnil_is (w0 : World) (F : List Atom) (l bm : Nat) (hm : CellAt w0 F bm 0 (.pointer none)) :
    CallK Try.prog 41 [.func (.yield l) #[] #[], .pointer (some ⟨bm, 0, none⟩)] w0 (F) (Gives w0 fun v F2 => F2 = F) := by
  refine c_enter Try.func41 rfl rfl rfl ?_
  refine g_seq ?_
  refine g_seq ?_
  refine g_region ?_
  refine l_loadc (v := .pointer none) rfl Try.isAgg51 rfl hm ?_
  refine l_eqpn rfl Try.underlying51 rfl rfl ?_
  refine l_nil ?_
  refine g_cond_t rfl ?_
  refine g_ret Try.func41 rfl .nil ?_
  exact Gives.mki rfl
set_option maxHeartbeats 4000000 in
theorem none_ok (w0 : World) (F : List Atom)  :
    CallK Try.prog 6 [] w0 (F) (Gives w0 fun v F2 => v = .bool true ∧ F2 = F) := by
  refine c_enter Try.func6 rfl rfl rfl ?_
  refine g_seq ?_
  refine g_region ?_
  refine l_assign rfl rfl ?_
  refine l_nil ?_
  refine g_seq ?_
  refine g_seq ?_
  refine g_region ?_
  refine l_call rfl Try.call9 rfl (awake_ok _ _) ?_; rintro _ F9 ⟨rfl, hF9⟩; rw [hF9]; clear hF9 F9
  refine l_not rfl rfl ?_
  refine l_nil ?_
  refine g_cond_f rfl ?_
  refine g_skip ?_
  refine g_seq ?_
  refine g_region ?_
  refine l_assign rfl rfl ?_
  refine l_nil ?_
  refine g_seq ?_
  refine g_region ?_
  refine l_move rfl rfl ?_
  refine l_call rfl Try.call22 rfl (get_nil_is _ _ 1) ?_; rintro _ F9 ⟨rfl, hF9⟩; rw [hF9]; clear hF9 F9
  refine l_move rfl rfl ?_
  refine l_extract (v := .string ⟨#[]⟩) rfl rfl rfl ?_
  refine l_extract (v := .bool false) rfl rfl rfl ?_
  refine l_assign rfl rfl ?_
  refine l_assign rfl rfl ?_
  refine l_nil ?_
  refine g_seq ?_
  refine g_region ?_
  refine l_move rfl rfl ?_
  refine l_call rfl Try.call23 rfl (peek_nil_is _ _ 1) ?_; rintro _ F9 ⟨rfl, hF9⟩; rw [hF9]; clear hF9 F9
  refine l_move rfl rfl ?_
  refine l_extract (v := .string ⟨#[]⟩) rfl rfl rfl ?_
  refine l_extract (v := .bool false) rfl rfl rfl ?_
  refine l_assign rfl rfl ?_
  refine l_assign rfl rfl ?_
  refine l_nil ?_
  refine g_seq ?_
  refine g_region ?_
  refine l_move rfl rfl ?_
  refine l_call rfl Try.call24 rfl (put_nil_is _ _ 1 ⟨#[120]⟩) ?_; rintro _ F9 ⟨rfl, hF9⟩; rw [hF9]; clear hF9 F9
  refine l_move rfl rfl ?_
  refine l_extract (v := .int .i64 0) rfl rfl rfl ?_
  refine l_extract (v := .bool false) rfl rfl rfl ?_
  refine l_assign rfl rfl ?_
  refine l_assign rfl rfl ?_
  refine l_nil ?_
  refine g_seq ?_
  refine g_region ?_
  refine l_move rfl rfl ?_
  refine l_call rfl Try.call25 rfl (clear_nil_is _ _) ?_; rintro _ F9 hF9; rw [hF9]; clear hF9 F9
  refine l_nil ?_
  refine g_seq ?_
  refine g_region ?_
  refine l_move rfl rfl ?_
  refine l_call rfl Try.call26 rfl (all_is _ _ none) ?_; rintro _ _ ⟨bm, rfl, rfl⟩
  refine l_assign rfl rfl ?_
  refine l_nil ?_
  refine g_seq ?_
  refine g_seq ?_
  refine g_region ?_
  refine l_move rfl rfl ?_
  refine l_eqfn rfl Try.underlying56 rfl rfl ?_
  refine l_nil ?_
  refine g_cond_f rfl ?_
  refine g_skip ?_
  refine g_seq ?_
  refine g_region ?_
  refine l_alloc rfl Try.zeroValue3 rfl ?_; intro b9
  first | refine l_st Try.sizeOf3 rfl rfl rfl rfl ?_ | refine l_stw Try.sizeOf3 rfl rfl (by omega) ?_
  refine l_nil ?_
  refine g_seq ?_
  refine g_seq ?_
  refine g_region ?_
  refine l_move rfl rfl ?_
  refine l_nil ?_
  refine g_block ?_
  refine g_rangeR rfl Try.call41 rfl ?_
  rintro r0 l0 RC0 hRC0
  refine (seqnil_is _ _ l0 bm (fun w hw => by have h := hw.ok (Blk bm (.cells [Value.pointer none].toArray 51 (0, 0))) (by first | exact mem_getO 0 rfl | exact mem_getO 1 rfl | exact mem_getO 2 rfl | exact mem_getO 3 rfl | exact mem_getO 4 rfl | exact mem_getO 5 rfl | exact mem_getO 6 rfl | exact mem_getO 7 rfl); exact cell_of_has (c := [Value.pointer none]) (b := bm) (o := 0) h rfl)).mono (fun en F2 hG => ?_)
  obtain ⟨v9, F9, rfl, rfl, hF9⟩ := hG
  refine ⟨⟨_, rfl⟩, ?_⟩
  refine ⟨.ready, none, Blk b9 (.cells [Value.int .i64 0].toArray 3 (0, 0)) :: Blk bm (.cells [Value.pointer none].toArray 51 (0, 0)) :: Dfr r0 :: F, (by intro h; cases h), fun w hw => SPI.holds (hF9 w hw), ?_⟩
  dsimp only [jumpK]
  refine g_inBlock ?_
  refine g_seq ?_
  refine g_region ?_
  refine l_move rfl rfl ?_
  refine l_eqls rfl rfl rfl ?_
  refine l_move rfl rfl ?_
  refine l_split 40 rfl ?_ ?_
  · intro hbr
    have hb40 := hbr
    refine l_guard_yes rfl rfl ?_
    refine l_move rfl rfl ?_
    refine l_guard_yes rfl rfl ?_
    refine l_eqls rfl rfl rfl ?_
    refine l_pick_t rfl rfl rfl ?_
    refine l_move rfl rfl ?_
    refine l_split 44 rfl ?_ ?_
    · intro hbr
      have hb44 := hbr
      refine l_guard_yes rfl rfl ?_
      refine l_move rfl rfl ?_
      refine l_guard_yes rfl rfl ?_
      refine l_eql rfl rfl rfl ?_
      refine l_pick_t rfl rfl rfl ?_
      refine l_move rfl rfl ?_
      refine l_split 48 rfl ?_ ?_
      · intro hbr
        have hbr := of_decide_eq_true hbr
        refine l_guard_yes rfl rfl ?_
        refine l_move rfl rfl ?_
        refine l_guard_yes rfl rfl ?_
        refine l_not rfl rfl ?_
        refine l_pick_t rfl rfl rfl ?_
        refine l_move rfl rfl ?_
        refine l_guard_yes rfl rfl ?_
        refine l_move rfl rfl ?_
        refine l_guard_yes rfl rfl ?_
        refine l_not rfl rfl ?_
        refine l_pick_t rfl rfl rfl ?_
        refine l_move rfl rfl ?_
        refine l_guard_yes rfl rfl ?_
        refine l_move rfl rfl ?_
        refine l_guard_yes rfl rfl ?_
        refine l_not rfl rfl ?_
        refine l_pick_t rfl rfl rfl ?_
        refine l_move rfl rfl ?_
        refine l_guard_yes rfl rfl ?_
        refine l_move rfl rfl ?_
        refine l_guard_yes rfl rfl ?_
        refine l_call rfl Try.call27 rfl (drop_nil_is _ _ 1) ?_; rintro _ _ ⟨rfl, rfl⟩
        refine l_guard_yes rfl rfl ?_
        refine l_not rfl rfl ?_
        refine l_pick_t rfl rfl rfl ?_
        refine l_move rfl rfl ?_
        refine l_guard_yes rfl rfl ?_
        refine l_move rfl rfl ?_
        refine l_guard_yes rfl rfl ?_
        refine l_call rfl Try.call28 rfl (room_nil_is _ _) ?_; rintro _ _ ⟨rfl, rfl⟩
        refine l_guard_yes rfl rfl ?_
        refine l_eql rfl rfl rfl ?_
        refine l_pick_t rfl rfl rfl ?_
        refine l_move rfl rfl ?_
        refine l_split 70 rfl ?_ ?_
        · intro hbr
          have hbr := of_decide_eq_true hbr
          refine l_guard_yes rfl rfl ?_
          refine l_move rfl rfl ?_
          refine l_guard_yes rfl rfl ?_
          refine l_call rfl Try.call29 rfl (lennil_is _ _) ?_; rintro _ _ ⟨rfl, rfl⟩
          refine l_guard_yes rfl rfl ?_
          refine l_eql rfl rfl rfl ?_
          refine l_pick_t rfl rfl rfl ?_
          refine l_move rfl rfl ?_
          refine l_split 75 rfl ?_ ?_
          · intro hbr
            have hbr := of_decide_eq_true hbr
            refine l_guard_yes rfl rfl ?_
            first | refine l_ld rfl Try.isAgg3 rfl rfl ?_ | refine l_ldw rfl Try.isAgg3 rfl (by omega) ?_
            refine l_guard_yes rfl rfl ?_
            refine l_eql rfl rfl rfl ?_
            rw [show (decide ((0 : Int) = 0)) = true from rfl]
            refine l_pick_t rfl rfl rfl ?_
            refine l_move rfl rfl ?_
            refine l_pick_t rfl rfl rfl ?_
            refine l_assign rfl rfl ?_
            refine l_nil ?_
            refine g_heap (F' := Dfr r0 :: Blk b9 (.cells [Value.int .i64 0].toArray 3 (0, 0)) :: Blk bm (.cells [Value.pointer none].toArray 51 (0, 0)) :: F) (fun w hw => SPI.holds hw) ?_
            refine g_ret_m (F := Blk b9 (.cells [Value.int .i64 0].toArray 3 (0, 0)) :: Blk bm (.cells [Value.pointer none].toArray 51 (0, 0)) :: F) [r0] rfl Try.func6 (fun w hw => hw) rfl (.tmp rfl .nil) ?_
            exact Gives.mki ⟨rfl, rfl⟩
          · intro hbr
            have hbr := of_decide_eq_false hbr
            (exfalso; first | omega | (simp at hbr; done) | (revert hbr; decide))
        · intro hbr
          have hbr := of_decide_eq_false hbr
          (exfalso; first | omega | (simp at hbr; done) | (revert hbr; decide))
      · intro hbr
        have hbr := of_decide_eq_false hbr
        (exfalso; first | omega | (simp at hbr; done) | (revert hbr; decide))
    · intro hbr
      first | (exfalso; simp at hbr; done) | (exfalso; simp at hbr; omega) | (exfalso; first | omega | (simp at hbr; done) | (revert hbr; decide))
  · intro hbr
    first | (exfalso; simp at hbr; done) | (exfalso; simp at hbr; omega) | (exfalso; first | omega | (simp at hbr; done) | (revert hbr; decide))
end Go.Proofs.Ytjfibfbknfeflaa.Fw
