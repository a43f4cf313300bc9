import Derived.Test.YtecibldbnekgbaaQBase
namespace Go.Proofs.Ytecibldbnekgbaa.Fw
open Go Go.Proofs
set_option linter.unusedVariables false
set_option linter.unusedSimpArgs false
set_option maxRecDepth 10000

set_option maxHeartbeats 1000000 in
theorem read_ok (w0 : World) (F : List Atom) (wd dp : Nat) (w1 : 1 ≤ wd) (w2 : wd ≤ 16) (d1 : 1 ≤ dp) (d2 : dp ≤ 8) (b o n c : Nat) (L : List Int) (hL : L.length = n) (hn : n = dp * (1 + wd)) (hc : n ≤ c) (hr : RowAt w0 F b o (ints .u32 L)) (hU : W32s L) (first many : Nat) (f1 : first ≤ 4294967295) (m1 : many ≤ 4294967295) :
    CallK Try.prog 50 [.agg #[.int .i64 (wd : Int), .int .i64 (dp : Int)], .slice (some ⟨b, o, none⟩) n c, .int .u32 (first : Int), .int .u32 (many : Int)] w0 (F) (Gives w0 fun v F2 => ∃ ao co ms Ts ok, v = .tuple #[.slice ao ms.length co, .bool ok] ∧ F2 = Own 29 1 (.slice ao ms.length co) ms.length (ms.map lvV) :: BigF ms.length (fun j => Own 33 1 (.slice (lat ms j).a (lat ms j).n (lat ms j).c) (lat ms j).n (ints .u32 (tat Ts j))) :: F ∧ MsOk ms Ts ∧ (ms.length = 0 ∨ ∃ g, ao = some ⟨g, 0, none⟩) ∧ RowR L wd dp first many Ts ok) := by
  refine c_enter Try.func50 rfl rfl rfl ?_
  refine g_seq ?_
  refine g_region ?_
  refine l_boxs rfl rfl ?_; intro b4
  refine l_assign rfl rfl ?_
  refine l_assign rfl rfl ?_
  refine l_nil ?_
  refine g_seq ?_
  refine g_seq ?_
  refine g_region ?_
  refine l_move rfl rfl ?_
  refine l_fieldAddr rfl fa_61_1 rfl ?_
  first | refine l_ld rfl Try.isAgg3 rfl rfl ?_ | refine l_ldw rfl Try.isAgg3 rfl (by omega) ?_
  first | refine l_conv rfl Try.underlying3 Try.underlying33 rfl (w_u32 (by omega) (by omega)) ?_ | refine l_convm (m := 4294967296) rfl wr_u32 Try.underlying3 Try.underlying33 rfl ?_
  refine l_gtr rfl rfl rfl ?_
  refine l_move rfl rfl ?_
  refine l_split 20 rfl ?_ ?_
  · intro hbr
    have hbr := of_decide_eq_true hbr
    refine l_guard_no rfl rfl rfl ?_
    refine l_guard_no rfl rfl rfl ?_
    refine l_guard_no rfl rfl rfl ?_
    refine l_guard_no rfl rfl rfl ?_
    refine l_guard_no rfl rfl rfl ?_
    refine l_pick_t rfl rfl rfl ?_
    refine l_nil ?_
    first | refine g_cond_t rfl ?_ | refine g_cond_t (congrArg (fun b => some (Value.bool b)) (decide_eq_true hbr)) ?_
    refine g_seq ?_
    refine g_region ?_
    refine l_own_nil 29 1 ?_
    refine gl_heap (F' := Own 29 1 (.slice none ([] : List LV).length 0) ([] : List LV).length (([] : List LV).map lvV) :: BigF ([] : List LV).length (fun j => Own 33 1 (.slice (lat ([] : List LV) j).a (lat ([] : List LV) j).n (lat ([] : List LV) j).c) (lat ([] : List LV) j).n (ints .u32 (tat ([] : List (List Int)) j))) :: _) (fun w hw => zero1 hw _) ?_
    refine l_assign rfl rfl ?_
    refine l_assign rfl rfl ?_
    refine l_nil ?_
    refine g_ret Try.func50 rfl (.tmp rfl (.tmp rfl .nil)) ?_
    (first | exact Gives.mki ⟨none, 0, [], [], false, rfl, rfl, MsOk.nil, .inl rfl, RowR.no1 (by omega)⟩ | exact Gives.mki ⟨none, 0, [], [], false, rfl, rfl, MsOk.nil, .inl rfl, RowR.no2 (i := i.toNat) (by omega) (by unfold pieceV; rw [hke]; rcases hM with ⟨h, _⟩ | ⟨_, _, h⟩; (exfalso; rw [h] at hb56; simp at hb56); exact h)⟩ | exact Gives.mki ⟨none, 0, [], [], false, rfl, rfl, MsOk.nil, .inl rfl, RowR.no3 (i := i.toNat) (T := T) (by omega) (by unfold pieceV; rw [hke]; rcases hM with ⟨_, h⟩ | ⟨h, _⟩; exact h; (exfalso; rw [h] at hb56; simp at hb56)) (by rw [hT]; have h9 := hb65; simp at h9; omega)⟩ | exact Gives.mki ⟨ao, co, ms, Ts, true, rfl, rfl, hMs, hao, by rw [hTs, show min dp many = many by omega]; exact hC.ok (by omega) (by omega)⟩)
  intro hbr
  have hbr := of_decide_eq_false hbr
  refine l_guard_yes rfl rfl ?_
  refine l_move rfl rfl ?_
  refine l_guard_yes rfl rfl ?_
  refine l_fieldAddr rfl fa_61_1 rfl ?_
  refine l_guard_yes rfl rfl ?_
  first | refine l_ld rfl Try.isAgg3 rfl rfl ?_ | refine l_ldw rfl Try.isAgg3 rfl (by omega) ?_
  refine l_guard_yes rfl rfl ?_
  first | refine l_conv rfl Try.underlying3 Try.underlying33 rfl (w_u32 (by omega) (by omega)) ?_ | refine l_convm (m := 4294967296) rfl wr_u32 Try.underlying3 Try.underlying33 rfl ?_
  refine l_guard_yes rfl rfl ?_
  refine l_geq rfl rfl rfl ?_
  refine l_pick_f rfl rfl rfl ?_
  refine l_nil ?_
  refine g_cond rfl ?_ ?_
  · intro hbr
    have hbr := of_decide_eq_true hbr
    refine g_seq ?_
    refine g_region ?_
    refine l_own_nil 29 1 ?_
    refine gl_heap (F' := Own 29 1 (.slice none ([] : List LV).length 0) ([] : List LV).length (([] : List LV).map lvV) :: BigF ([] : List LV).length (fun j => Own 33 1 (.slice (lat ([] : List LV) j).a (lat ([] : List LV) j).n (lat ([] : List LV) j).c) (lat ([] : List LV) j).n (ints .u32 (tat ([] : List (List Int)) j))) :: _) (fun w hw => zero1 hw _) ?_
    refine l_assign rfl rfl ?_
    refine l_assign rfl rfl ?_
    refine l_nil ?_
    refine g_ret Try.func50 rfl (.tmp rfl (.tmp rfl .nil)) ?_
    (first | exact Gives.mki ⟨none, 0, [], [], false, rfl, rfl, MsOk.nil, .inl rfl, RowR.no1 (by omega)⟩ | exact Gives.mki ⟨none, 0, [], [], false, rfl, rfl, MsOk.nil, .inl rfl, RowR.no2 (i := i.toNat) (by omega) (by unfold pieceV; rw [hke]; rcases hM with ⟨h, _⟩ | ⟨_, _, h⟩; (exfalso; rw [h] at hb56; simp at hb56); exact h)⟩ | exact Gives.mki ⟨none, 0, [], [], false, rfl, rfl, MsOk.nil, .inl rfl, RowR.no3 (i := i.toNat) (T := T) (by omega) (by unfold pieceV; rw [hke]; rcases hM with ⟨_, h⟩ | ⟨h, _⟩; exact h; (exfalso; rw [h] at hb56; simp at hb56)) (by rw [hT]; have h9 := hb65; simp at h9; omega)⟩ | exact Gives.mki ⟨ao, co, ms, Ts, true, rfl, rfl, hMs, hao, by rw [hTs, show min dp many = many by omega]; exact hC.ok (by omega) (by omega)⟩)
  intro hbr
  have hbr := of_decide_eq_false hbr
  refine g_skip ?_
  refine g_seq ?_
  refine g_region ?_
  refine l_assign rfl rfl ?_
  refine l_nil ?_
  refine g_seq ?_
  refine g_seq ?_
  refine g_region ?_
  refine l_fieldAddr rfl fa_61_1 rfl ?_
  first | refine l_ld rfl Try.isAgg3 rfl rfl ?_ | refine l_ldw rfl Try.isAgg3 rfl (by omega) ?_
  refine l_move rfl rfl ?_
  refine l_nil ?_
  refine g_block ?_
  refine g_own_nil 29 1 ?_
  refine g_loopk (X := Int × Option Addr × Nat × List LV × List (List Int)) [(1, _), (2, _), (3, _), (4, _), (28, _)] (.cons rfl (.cons rfl (.cons rfl (.cons rfl (.cons rfl (.nil)))))) (fun z => 0 ≤ z.1 ∧ z.1 ≤ dp ∧ RowC L wd dp first many z.1.toNat ∧ z.2.2.2.2 = rowT L wd dp first (min z.1.toNat many) ∧ MsOk z.2.2.2.1 z.2.2.2.2 ∧ (z.2.2.2.1.length = 0 ∨ ∃ g, z.2.1 = some ⟨g, 0, none⟩)) (fun z => (dp - z.1).toNat) (fun z => [(10, .slice z.2.1 z.2.2.2.1.length z.2.2.1), (29, .int .i64 z.1)]) (fun z => Own 29 1 (.slice z.2.1 z.2.2.2.1.length z.2.2.1) z.2.2.2.1.length (z.2.2.2.1.map lvV) :: BigF z.2.2.2.1.length (fun j => Own 33 1 (.slice (lat z.2.2.2.1 j).a (lat z.2.2.2.1 j).n (lat z.2.2.2.1 j).c) (lat z.2.2.2.1 j).n (ints .u32 (tat z.2.2.2.2 j))) :: Blk b4 (.cells [Value.int .i64 (wd : Int), .int .i64 (dp : Int)].toArray 61 (0, 0)) :: F) ((0, none, 0, [], [])) (⟨by simp only; omega, by simp only; omega, fun j hj => by simp at hj, by simp [rowT], MsOk.nil, .inl rfl⟩) (.cons rfl (.cons rfl .nil)) ((fun w hw => zero1 hw _)) ?_
  rintro ⟨i, ao, co, ms, Ts⟩ ⟨i0, i1, hC, hTs, hMs, hao⟩ ih
  dsimp only [List.cons_append, List.nil_append] at ih ⊢
  simp only at i0 i1 hC hTs hMs hao
  have hml : Ts.length = min i.toNat many := by rw [hTs, rowT_len]
  have hme := hMs.1
  refine g_seq ?_
  refine g_region ?_
  refine l_lss rfl rfl rfl ?_
  refine l_nil ?_
  refine g_seq ?_
  refine g_cond rfl ?_ ?_
  · intro hbr
    have hbr := of_decide_eq_true hbr
    refine g_skip ?_
    refine g_seq ?_
    refine g_block ?_
    refine g_seq ?_
    refine g_region ?_
    refine l_move rfl rfl ?_
    refine l_assign rfl rfl ?_
    refine l_nil ?_
    refine g_seq ?_
    refine g_region ?_
    refine l_move rfl rfl ?_
    first | refine l_conv rfl Try.underlying33 Try.underlying3 rfl (w_i64 (by omega) (by omega)) ?_ | refine l_convw rfl Try.underlying33 Try.underlying3 rfl ?_
    refine l_move rfl rfl ?_
    first | refine l_add rfl rfl rfl (w_i64 (by omega) (by omega)) ?_ | refine l_addw rfl rfl rfl ?_
    refine l_fieldAddr rfl fa_61_1 rfl ?_
    first | refine l_ld rfl Try.isAgg3 rfl rfl ?_ | refine l_ldw rfl Try.isAgg3 rfl (by omega) ?_
    have hmn := mod_nat (first := first) (dp := dp) i0 (by omega)
    have hmn2 := hmn.2
    refine l_rem rfl rfl rfl (by omega) (by omega) (by rw [hmn.1]; exact w_i64 (by omega) (by omega)) ?_
    rw [hmn.1]
    obtain ⟨kk, hke⟩ : ∃ kk, (first + i.toNat) % dp = kk := ⟨_, rfl⟩
    rw [hke] at hmn2 ⊢
    clear hmn
    have hkd : kk < dp := hmn2
    obtain ⟨p0, p1, p2, p3, p4⟩ := piece_bd w1 w2 d2 hkd
    refine l_assign rfl rfl ?_
    refine l_nil ?_
    refine g_seq ?_
    refine gp_start mo (by kernel_rfl) (by kernel_rfl) ?_
    refine gp_quiet 0 rfl rfl rfl rfl rfl rfl (q_move rfl) ?_
    refine gp_quiet 1 rfl rfl rfl rfl rfl rfl (q_move rfl) ?_
    refine gp_quiet 2 rfl rfl rfl rfl rfl rfl (q_lds Try.isAgg61 Try.sizeOf61 rfl rfl) ?_
    refine gp_quiet 5 rfl rfl rfl rfl rfl rfl (q_move rfl) ?_
    first | refine gp_quiet 6 rfl rfl rfl rfl rfl rfl (q_add rfl rfl (w_i64 (by omega) (by omega))) ?_ | refine gp_quiet 6 rfl rfl rfl rfl rfl rfl (q_addw rfl rfl) ?_
    refine gp_quiet 7 rfl rfl rfl rfl rfl rfl (q_lds Try.isAgg61 Try.sizeOf61 rfl rfl) ?_
    refine gp_effa 3 [2] [7, 6, 5, 1, 0] rfl rfl rfl rfl rfl rfl rfl (does_call Try.call47 rfl (place_ok _ _ wd dp (by omega) (by omega))) ?_
    rintro _ F9 ⟨rfl, hF9⟩; rw [hF9]; clear hF9 F9
    refine ⟨?_, ?_⟩
    · refine .cons rfl rfl rfl rfl rfl (q_lds Try.isAgg61 Try.sizeOf61 rfl rfl) ?_
      first | refine .cons rfl rfl rfl rfl rfl (q_add rfl rfl (w_i64 (by omega) (by omega))) ?_ | refine .cons rfl rfl rfl rfl rfl (q_addw rfl rfl) ?_
      refine .cons rfl rfl rfl rfl rfl (q_move rfl) ?_
      refine .cons rfl rfl rfl rfl rfl (q_move rfl) ?_
      refine .cons rfl rfl rfl rfl rfl (q_move rfl) ?_
      exact .nil
    first | refine gp_quiet 4 rfl rfl rfl rfl rfl rfl (q_mul rfl rfl (w_i64 (by omega) (by omega))) ?_ | refine gp_quiet 4 rfl rfl rfl rfl rfl rfl (q_mulw rfl rfl) ?_
    refine gp_effa 8 [7] [4, 6, 5, 1, 0] rfl rfl rfl rfl rfl rfl rfl (does_call Try.call47 rfl (place_ok _ _ wd dp (by omega) (by omega))) ?_
    rintro _ F9 ⟨rfl, hF9⟩; rw [hF9]; clear hF9 F9
    refine ⟨?_, ?_⟩
    · first | refine .cons rfl rfl rfl rfl rfl (q_mul rfl rfl (w_i64 (by omega) (by omega))) ?_ | refine .cons rfl rfl rfl rfl rfl (q_mulw rfl rfl) ?_
      first | refine .cons rfl rfl rfl rfl rfl (q_add rfl rfl (w_i64 (by omega) (by omega))) ?_ | refine .cons rfl rfl rfl rfl rfl (q_addw rfl rfl) ?_
      refine .cons rfl rfl rfl rfl rfl (q_move rfl) ?_
      refine .cons rfl rfl rfl rfl rfl (q_move rfl) ?_
      refine .cons rfl rfl rfl rfl rfl (q_move rfl) ?_
      exact .nil
    first | refine gp_quiet 9 rfl rfl rfl rfl rfl rfl (q_mul rfl rfl (w_i64 (by omega) (by omega))) ?_ | refine gp_quiet 9 rfl rfl rfl rfl rfl rfl (q_mulw rfl rfl) ?_
    refine gp_quiet 10 rfl rfl rfl rfl rfl rfl (q_slice_lh Try.underlying29 Try.sizeOf33 rfl rfl rfl (by omega) (by omega) (by omega)) ?_
    have h9 := row_sub2 (m := 1 + wd) hr (sloff_spec (i := (kk : Int) * (1 + (wd : Int))) (cap := c) (o := o) (sz := 1)) (by omega)
    rw [p4] at h9
    refine gp_effa 11 [10] [9, 4, 6, 5, 1, 0] rfl rfl rfl rfl rfl rfl rfl (does_call Try.call60 rfl (message_ok _ _ b (sloff ((kk : Int) * (1 + (wd : Int))) c o 1) _ _ (pieceW L wd kk) (by rw [piece_len (hL.trans hn) hkd]; omega) (by omega) h9.ex (hU.part _ _) (by omega) (by omega))) ?_
    rintro _ _ ⟨a2, q2, c2, T, ok, rfl, hT, ha2, rfl, hM⟩
    refine ⟨?_, ?_⟩
    · first | refine .cons rfl rfl rfl rfl rfl (q_mul rfl rfl (w_i64 (by omega) (by omega))) ?_ | refine .cons rfl rfl rfl rfl rfl (q_mulw rfl rfl) ?_
      first | refine .cons rfl rfl rfl rfl rfl (q_mul rfl rfl (w_i64 (by omega) (by omega))) ?_ | refine .cons rfl rfl rfl rfl rfl (q_mulw rfl rfl) ?_
      first | refine .cons rfl rfl rfl rfl rfl (q_add rfl rfl (w_i64 (by omega) (by omega))) ?_ | refine .cons rfl rfl rfl rfl rfl (q_addw rfl rfl) ?_
      refine .cons rfl rfl rfl rfl rfl (q_move rfl) ?_
      refine .cons rfl rfl rfl rfl rfl (q_move rfl) ?_
      refine .cons rfl rfl rfl rfl rfl (q_move rfl) ?_
      exact .nil
    refine gp_quiet 12 rfl rfl rfl rfl rfl rfl (q_move rfl) ?_
    refine gp_quiet 13 rfl rfl rfl rfl rfl rfl (q_extract rfl rfl) ?_
    refine gp_quiet 14 rfl rfl rfl rfl rfl rfl (q_extract rfl rfl) ?_
    refine gp_quiet 15 rfl rfl rfl rfl rfl rfl (q_assign rfl) ?_
    refine gp_quiet 16 rfl rfl rfl rfl rfl rfl (q_assign rfl) ?_
    refine gp_end rfl rfl ?_
    refine g_seq ?_
    refine g_seq ?_
    refine g_region ?_
    refine l_move rfl rfl ?_
    refine l_not rfl rfl ?_
    refine l_move rfl rfl ?_
    refine l_split 56 rfl ?_ ?_
    · intro hbr
      have hb56 := hbr
      refine l_guard_no rfl rfl rfl ?_
      refine l_guard_no rfl rfl rfl ?_
      refine l_guard_no rfl rfl rfl ?_
      refine l_guard_no rfl rfl rfl ?_
      refine l_guard_no rfl rfl rfl ?_
      refine l_guard_no rfl rfl rfl ?_
      refine l_guard_no rfl rfl rfl ?_
      refine l_guard_no rfl rfl rfl ?_
      refine l_pick_t rfl rfl rfl ?_
      refine l_nil ?_
      first | refine g_cond_t rfl ?_ | refine g_cond_t (congrArg (fun b => some (Value.bool b)) (decide_eq_true hbr)) ?_
      refine g_seq ?_
      refine g_region ?_
      refine l_own_nil 29 1 ?_
      refine gl_heap (F' := Own 29 1 (.slice none ([] : List LV).length 0) ([] : List LV).length (([] : List LV).map lvV) :: BigF ([] : List LV).length (fun j => Own 33 1 (.slice (lat ([] : List LV) j).a (lat ([] : List LV) j).n (lat ([] : List LV) j).c) (lat ([] : List LV) j).n (ints .u32 (tat ([] : List (List Int)) j))) :: _) (fun w hw => zero1 hw _) ?_
      refine l_assign rfl rfl ?_
      refine l_assign rfl rfl ?_
      refine l_nil ?_
      refine g_ret Try.func50 rfl (.tmp rfl (.tmp rfl .nil)) ?_
      (first | exact Gives.mki ⟨none, 0, [], [], false, rfl, rfl, MsOk.nil, .inl rfl, RowR.no1 (by omega)⟩ | exact Gives.mki ⟨none, 0, [], [], false, rfl, rfl, MsOk.nil, .inl rfl, RowR.no2 (i := i.toNat) (by omega) (by unfold pieceV; rw [hke]; rcases hM with ⟨h, _⟩ | ⟨_, _, h⟩; (exfalso; rw [h] at hb56; simp at hb56); exact h)⟩ | exact Gives.mki ⟨none, 0, [], [], false, rfl, rfl, MsOk.nil, .inl rfl, RowR.no3 (i := i.toNat) (T := T) (by omega) (by unfold pieceV; rw [hke]; rcases hM with ⟨_, h⟩ | ⟨h, _⟩; exact h; (exfalso; rw [h] at hb56; simp at hb56)) (by rw [hT]; have h9 := hb65; simp at h9; omega)⟩ | exact Gives.mki ⟨ao, co, ms, Ts, true, rfl, rfl, hMs, hao, by rw [hTs, show min dp many = many by omega]; exact hC.ok (by omega) (by omega)⟩)
    intro hbr
    have hb56 := hbr
    refine l_guard_yes rfl rfl ?_
    refine l_move rfl rfl ?_
    refine l_guard_yes rfl rfl ?_
    refine l_len rfl Try.underlying29 rfl ?_
    refine l_guard_yes rfl rfl ?_
    refine l_gtr rfl rfl rfl ?_
    refine l_guard_yes rfl rfl ?_
    refine l_move rfl rfl ?_
    refine l_guard_yes rfl rfl ?_
    refine l_move rfl rfl ?_
    refine l_guard_yes rfl rfl ?_
    first | refine l_conv rfl Try.underlying33 Try.underlying3 rfl (w_i64 (by omega) (by omega)) ?_ | refine l_convw rfl Try.underlying33 Try.underlying3 rfl ?_
    refine l_guard_yes rfl rfl ?_
    refine l_lss rfl rfl rfl ?_
    refine l_guard_yes rfl rfl ?_
    refine l_neqb rfl Try.underlying4 rfl rfl ?_
    refine l_pick_f rfl rfl rfl ?_
    refine l_nil ?_
    refine g_cond rfl ?_ ?_
    · intro hbr
      have hb65 := hbr
      refine g_seq ?_
      refine g_region ?_
      refine l_own_nil 29 1 ?_
      refine gl_heap (F' := Own 29 1 (.slice none ([] : List LV).length 0) ([] : List LV).length (([] : List LV).map lvV) :: BigF ([] : List LV).length (fun j => Own 33 1 (.slice (lat ([] : List LV) j).a (lat ([] : List LV) j).n (lat ([] : List LV) j).c) (lat ([] : List LV) j).n (ints .u32 (tat ([] : List (List Int)) j))) :: _) (fun w hw => zero1 hw _) ?_
      refine l_assign rfl rfl ?_
      refine l_assign rfl rfl ?_
      refine l_nil ?_
      refine g_ret Try.func50 rfl (.tmp rfl (.tmp rfl .nil)) ?_
      (first | exact Gives.mki ⟨none, 0, [], [], false, rfl, rfl, MsOk.nil, .inl rfl, RowR.no1 (by omega)⟩ | exact Gives.mki ⟨none, 0, [], [], false, rfl, rfl, MsOk.nil, .inl rfl, RowR.no2 (i := i.toNat) (by omega) (by unfold pieceV; rw [hke]; rcases hM with ⟨h, _⟩ | ⟨_, _, h⟩; (exfalso; rw [h] at hb56; simp at hb56); exact h)⟩ | exact Gives.mki ⟨none, 0, [], [], false, rfl, rfl, MsOk.nil, .inl rfl, RowR.no3 (i := i.toNat) (T := T) (by omega) (by unfold pieceV; rw [hke]; rcases hM with ⟨_, h⟩ | ⟨h, _⟩; exact h; (exfalso; rw [h] at hb56; simp at hb56)) (by rw [hT]; have h9 := hb65; simp at h9; omega)⟩ | exact Gives.mki ⟨ao, co, ms, Ts, true, rfl, rfl, hMs, hao, by rw [hTs, show min dp many = many by omega]; exact hC.ok (by omega) (by omega)⟩)
    intro hbr
    have hb65 := hbr
    refine g_skip ?_
    refine g_seq ?_
    refine g_region ?_
    have hok : ok = true := by simpa using hb56
    have hiff : 0 < q2 ↔ i < (many : Int) := by have h9 := hb65; simp at h9; omega
    refine l_move rfl rfl ?_
    refine l_len rfl Try.underlying29 rfl ?_
    refine l_gtr rfl rfl rfl ?_
    refine l_nil ?_
    refine g_cond rfl ?_ ?_
    · intro hbr
      have hbr := of_decide_eq_true hbr
      refine g_region ?_
      refine l_move rfl rfl ?_
      refine l_move rfl rfl ?_
      refine l_frontv (.slice ao ms.length co) ?_
      refine l_buildSlice rfl Try.underlying40 Try.sizeOf29 Try.zeroValue29 rfl rfl rfl rfl rfl rfl ?_; intro b71
      refine l_append 1 (sz := 1) (by_ := 24) (m2 := 1) (news := [Value.slice a2 q2 c2]) rfl Try.underlying40 Try.type29 rfl rfl rfl rfl rfl rfl rfl rfl ⟨rfl, .inl ⟨_, _, _, rfl, .own (mem_getO 0 rfl)⟩⟩ rfl (by omega) (by simp only [maxLen]; omega) (fun _ => rfl) ?_; intro v72 hv72
      refine l_fact (own_cases (mem_getO 1 rfl)) ?_
      rintro ⟨_, _, hv | ⟨g72, c72, rfl, hc72⟩⟩
      · exact absurd (hv72.1 hv.1).2 (by omega)
      rw [show ms.map lvV ++ [Value.slice a2 q2 c2] = (ms ++ [(LV.mk a2 q2 c2)]).map lvV by simp [lvV]]
      refine l_assign rfl rfl ?_
      refine l_nil ?_
      refine g_inBlock ?_
      refine g_region ?_
      first | refine l_add rfl rfl rfl (w_i64 (by omega) (by omega)) ?_ | refine l_addw rfl rfl rfl ?_
      refine l_move rfl rfl ?_
      refine l_nil ?_
      have hpp : pieceV L wd dp first i.toNat = some T := by rcases hM with ⟨_, h⟩ | ⟨h, _⟩; unfold pieceV; rw [hke]; exact h; (rw [h] at hok; cases hok)
      (first
      | (have e9 : (ms ++ [(LV.mk a2 q2 c2)]).length = ms.length + 1 := by simp
         refine g_heap (F' := Own 29 1 (.slice (some ⟨g72, 0, none⟩) (ms ++ [(LV.mk a2 q2 c2)]).length c72) (ms ++ [(LV.mk a2 q2 c2)]).length ((ms ++ [(LV.mk a2 q2 c2)]).map lvV) :: BigF (ms ++ [(LV.mk a2 q2 c2)]).length (fun j => Own 33 1 (.slice (lat (ms ++ [(LV.mk a2 q2 c2)]) j).a (lat (ms ++ [(LV.mk a2 q2 c2)]) j).n (lat (ms ++ [(LV.mk a2 q2 c2)]) j).c) (lat (ms ++ [(LV.mk a2 q2 c2)]) j).n (ints .u32 (tat (Ts ++ [T]) j))) :: Blk b4 (.cells [Value.int .i64 (wd : Int), .int .i64 (dp : Int)].toArray 61 (0, 0)) :: F) (fun w hw => ?_) ?_
         · rw [e9]
           exact big_snoc (SPI.holds (F' := Own 33 1 (.slice a2 q2 c2) q2 (ints .u32 T) :: BigF ms.length (fun j => Own 33 1 (.slice (lat ms j).a (lat ms j).n (lat ms j).c) (lat ms j).n (ints .u32 (tat Ts j))) :: Own 29 1 (.slice (some ⟨g72, 0, none⟩) (ms.length + 1) c72) (ms.length + 1) ((ms ++ [(LV.mk a2 q2 c2)]).map lvV) :: Blk b4 (.cells [Value.int .i64 (wd : Int), .int .i64 (dp : Int)].toArray 61 (0, 0)) :: F) hw) (by simp only [lat_last, tat_at hme]) (fun k hk => by simp only [lat_init hk, tat_init (show k < Ts.length by omega)])
         rw [← e9]
         exact g_againi (ih (i + 1, some ⟨g72, 0, none⟩, c72, (ms ++ [(LV.mk a2 q2 c2)]), (Ts ++ [T])) ⟨by simp only; omega, by simp only; omega, hC.succ i0 hpp (by rw [hT]; exact hiff), by simp only; rw [hTs, show min i.toNat many = i.toNat by omega, show min (i + 1).toNat many = i.toNat + 1 by omega]; exact rowT_succ hpp, hMs.snoc hT ha2, .inr ⟨_, rfl⟩⟩ (by simp only; omega)) (.cons rfl (.cons rfl (.cons rfl (.cons rfl (.cons rfl (.cons rfl (.cons rfl (.nil)))))))))
      | exact g_againi (ih (i + 1, ao, co, ms, Ts) ⟨by simp only; omega, by simp only; omega, hC.succ i0 hpp (by rw [hT]; exact hiff), by simp only; rw [hTs, show min i.toNat many = many by omega, show min (i + 1).toNat many = many by omega], hMs, hao⟩ (by simp only; omega)) (.cons rfl (.cons rfl (.cons rfl (.cons rfl (.cons rfl (.cons rfl (.cons rfl (.nil)))))))))
    intro hbr
    have hbr := of_decide_eq_false hbr
    refine g_skip ?_
    refine g_inBlock ?_
    refine g_region ?_
    first | refine l_add rfl rfl rfl (w_i64 (by omega) (by omega)) ?_ | refine l_addw rfl rfl rfl ?_
    refine l_move rfl rfl ?_
    refine l_nil ?_
    have hpp : pieceV L wd dp first i.toNat = some T := by rcases hM with ⟨_, h⟩ | ⟨h, _⟩; unfold pieceV; rw [hke]; exact h; (rw [h] at hok; cases hok)
    (first
    | (have e9 : (ms ++ [(LV.mk a2 q2 c2)]).length = ms.length + 1 := by simp
       refine g_heap (F' := Own 29 1 (.slice (some ⟨g72, 0, none⟩) (ms ++ [(LV.mk a2 q2 c2)]).length c72) (ms ++ [(LV.mk a2 q2 c2)]).length ((ms ++ [(LV.mk a2 q2 c2)]).map lvV) :: BigF (ms ++ [(LV.mk a2 q2 c2)]).length (fun j => Own 33 1 (.slice (lat (ms ++ [(LV.mk a2 q2 c2)]) j).a (lat (ms ++ [(LV.mk a2 q2 c2)]) j).n (lat (ms ++ [(LV.mk a2 q2 c2)]) j).c) (lat (ms ++ [(LV.mk a2 q2 c2)]) j).n (ints .u32 (tat (Ts ++ [T]) j))) :: Blk b4 (.cells [Value.int .i64 (wd : Int), .int .i64 (dp : Int)].toArray 61 (0, 0)) :: F) (fun w hw => ?_) ?_
       · rw [e9]
         exact big_snoc (SPI.holds (F' := Own 33 1 (.slice a2 q2 c2) q2 (ints .u32 T) :: BigF ms.length (fun j => Own 33 1 (.slice (lat ms j).a (lat ms j).n (lat ms j).c) (lat ms j).n (ints .u32 (tat Ts j))) :: Own 29 1 (.slice (some ⟨g72, 0, none⟩) (ms.length + 1) c72) (ms.length + 1) ((ms ++ [(LV.mk a2 q2 c2)]).map lvV) :: Blk b4 (.cells [Value.int .i64 (wd : Int), .int .i64 (dp : Int)].toArray 61 (0, 0)) :: F) hw) (by simp only [lat_last, tat_at hme]) (fun k hk => by simp only [lat_init hk, tat_init (show k < Ts.length by omega)])
       rw [← e9]
       exact g_againi (ih (i + 1, some ⟨g72, 0, none⟩, c72, (ms ++ [(LV.mk a2 q2 c2)]), (Ts ++ [T])) ⟨by simp only; omega, by simp only; omega, hC.succ i0 hpp (by rw [hT]; exact hiff), by simp only; rw [hTs, show min i.toNat many = i.toNat by omega, show min (i + 1).toNat many = i.toNat + 1 by omega]; exact rowT_succ hpp, hMs.snoc hT ha2, .inr ⟨_, rfl⟩⟩ (by simp only; omega)) (.cons rfl (.cons rfl (.cons rfl (.cons rfl (.cons rfl (.cons rfl (.cons rfl (.nil)))))))))
    | exact g_againi (ih (i + 1, ao, co, ms, Ts) ⟨by simp only; omega, by simp only; omega, hC.succ i0 hpp (by rw [hT]; exact hiff), by simp only; rw [hTs, show min i.toNat many = many by omega, show min (i + 1).toNat many = many by omega], hMs, hao⟩ (by simp only; omega)) (.cons rfl (.cons rfl (.cons rfl (.cons rfl (.cons rfl (.cons rfl (.cons rfl (.nil)))))))))
  intro hbr
  have hbr := of_decide_eq_false hbr
  refine g_exit rfl ?_
  obtain rfl : i = dp := by omega
  rw [Int.toNat_natCast] at hC hTs
  refine g_seq ?_
  refine g_region ?_
  refine l_move rfl rfl ?_
  refine l_assign rfl rfl ?_
  refine l_assign rfl rfl ?_
  refine l_nil ?_
  refine g_ret Try.func50 rfl (.tmp rfl (.tmp rfl .nil)) ?_
  (first | exact Gives.mki ⟨none, 0, [], [], false, rfl, rfl, MsOk.nil, .inl rfl, RowR.no1 (by omega)⟩ | exact Gives.mki ⟨none, 0, [], [], false, rfl, rfl, MsOk.nil, .inl rfl, RowR.no2 (i := i.toNat) (by omega) (by unfold pieceV; rw [hke]; rcases hM with ⟨h, _⟩ | ⟨_, _, h⟩; (exfalso; rw [h] at hb56; simp at hb56); exact h)⟩ | exact Gives.mki ⟨none, 0, [], [], false, rfl, rfl, MsOk.nil, .inl rfl, RowR.no3 (i := i.toNat) (T := T) (by omega) (by unfold pieceV; rw [hke]; rcases hM with ⟨_, h⟩ | ⟨h, _⟩; exact h; (exfalso; rw [h] at hb56; simp at hb56)) (by rw [hT]; have h9 := hb65; simp at h9; omega)⟩ | exact Gives.mki ⟨ao, co, ms, Ts, true, rfl, rfl, hMs, hao, by rw [hTs, show min dp many = many by omega]; exact hC.ok (by omega) (by omega)⟩)
end Go.Proofs.Ytecibldbnekgbaa.Fw
