import Derived.Test.YtjfibfbknfeflaaSWithin
namespace Go.Proofs.Ytjfibfbknfeflaa.Fw
open Go Go.Proofs
set_option linter.unusedVariables false
set_option linter.unusedSimpArgs false
set_option maxRecDepth 10000

set_option maxHeartbeats 16000000 in
theorem walks_ok (w0 : World) (F : List Atom) (room : Int) (q1 : 1 ≤ room) (q2 : room ≤ 4096) (a : Option Addr) (n c : Nat) (Y : List Int) (hI : IR w0 F .i64 a n Y) (hn : n ≤ 2147483647) (stop other : Int) :
    CallK Try.prog 5 [.int .i64 room, .slice a n c, .int .i64 stop, .int .i64 other] w0 (F) (Gives w0 fun v F2 => v = .bool true ∧ F2 = F) := by
  have hl := hI.1
  refine c_enter Try.func5 rfl rfl rfl ?_
  refine g_seq ?_
  refine g_region ?_
  refine l_box rfl rfl rfl ?_; intro b6
  refine l_alloc rfl Try.zeroValue4 rfl ?_; intro b8
  refine l_nil ?_
  refine g_seq ?_
  refine g_seq ?_
  refine g_region ?_
  refine l_move rfl rfl ?_
  refine l_len rfl Try.underlying22 rfl ?_
  refine l_gtr rfl rfl rfl ?_
  refine l_nil ?_
  refine g_cond rfl ?_ ?_
  · intro hbr
    have hbr := of_decide_eq_true hbr
    (exfalso; first | omega | (simp at hbr; done))
  intro hbr
  have hbr := of_decide_eq_false hbr
  refine g_skip ?_
  refine g_seq ?_
  refine g_region ?_
  refine l_move rfl rfl ?_
  refine l_call rfl Try.call13 rfl (new_ii _ _ room (by omega) (by omega)) ?_; rintro _ _ ⟨sb, m, rfl, rfl⟩
  refine l_move rfl rfl ?_
  refine l_extract rfl rfl rfl ?_
  refine l_extract rfl rfl rfl ?_
  refine l_alloc rfl Try.zeroValue34 rfl ?_; intro b9
  refine l_st Try.sizeOf34 rfl rfl rfl rfl ?_
  refine l_assign rfl rfl ?_
  refine l_nil ?_
  refine g_seq ?_
  refine g_seq ?_
  refine g_region ?_
  refine l_move rfl rfl ?_
  refine l_neq rfl rfl rfl ?_
  refine l_move rfl rfl ?_
  refine l_split 34 rfl ?_ ?_
  · intro hbr
    have hbr := of_decide_eq_true hbr
    (exfalso; first | omega | (simp at hbr; done))
  intro hbr
  have hbr := of_decide_eq_false hbr
  refine l_guard_yes rfl rfl ?_
  refine l_ld rfl Try.isAgg34 rfl rfl ?_
  refine l_guard_yes rfl rfl ?_
  refine l_eqpn rfl Try.underlying34 rfl rfl ?_
  refine l_pick_f rfl rfl rfl ?_
  refine l_nil ?_
  refine g_cond_f rfl ?_
  refine g_skip ?_
  refine g_seq ?_
  refine g_seq ?_
  refine g_region ?_
  refine l_assign rfl rfl ?_
  refine l_nil ?_
  refine g_block ?_
  refine g_loopk (X := Int × List Nd × List (Int × Value)) [(1, _), (3, _), (6, _), (8, _), (9, _)] (.cons rfl (.cons rfl (.cons rfl (.cons rfl (.cons rfl (.nil)))))) (fun z => (0 ≤ z.1 ∧ z.1 ≤ n) ∧ ShOk z.2.2 z.2.1 ∧ VI z.2.1 ∧ (z.2.1.length : Int) ≤ room) (fun z => ((n : Int) - z.1).toNat) (fun z => [(11, .int .i64 z.1)]) (fun z => Blk sb (.cells [Value.int .i64 room, .map (some m), .pointer (fstP (z.2.1) none), .pointer (lstP (z.2.1) none)].toArray 71 (0, 0)) :: Seg 75 none (z.2.1) none :: MapI m z.2.2 :: Blk b9 (.cells [Value.pointer (some ⟨sb, 0, none⟩)].toArray 34 (0, 0)) :: Blk b8 (.cells [Value.bool false].toArray 4 (0, 0)) :: Blk b6 (.cells [Value.int .i64 stop].toArray 3 (0, 0)) :: F) ((0, [], [])) (⟨⟨by simp only; omega, by simp only; omega⟩, ShOk.nil, (fun x hx => by cases hx), by simp only [List.length_nil]; omega⟩) (.cons rfl .nil) (fun w hw => SPI.holds (show Holds w0 (Blk b9 (.cells [Value.pointer (some ⟨sb, 0, none⟩)].toArray 34 (0, 0)) :: Blk sb (.cells [Value.int .i64 room, .map (some m), .pointer (fstP ([]) none), .pointer (lstP ([]) none)].toArray 71 (0, 0)) :: Seg 75 none ([]) none :: MapI m [] :: Blk b8 (.cells [Value.bool false].toArray 4 (0, 0)) :: Blk b6 (.cells [Value.int .i64 stop].toArray 3 (0, 0)) :: F) w from hw)) ?_
  rintro ⟨i, xs, kv⟩ ⟨⟨i0, i1⟩, hS, hV, hlr⟩ ih
  dsimp only [List.cons_append, List.nil_append] at ih ⊢
  simp only at i0 i1 hS hV hlr
  refine g_seq ?_
  refine g_seq ?_
  refine g_region ?_
  refine l_move rfl rfl ?_
  refine l_move rfl rfl ?_
  refine l_len rfl Try.underlying22 rfl ?_
  refine l_lss rfl rfl rfl ?_
  refine l_nil ?_
  refine g_cond rfl ?_ ?_
  · intro hbr
    have hbr := of_decide_eq_true hbr
    refine g_skip ?_
    refine g_seq ?_
    refine g_block ?_
    refine gp_start mo (by kernel_rfl) (by kernel_rfl) ?_
    refine gp_quiet 0 rfl rfl rfl rfl rfl rfl (q_ld Try.isAgg34 rfl rfl) ?_
    refine gp_quiet 1 rfl rfl rfl rfl rfl rfl (q_move rfl) ?_
    refine gp_quiet 2 rfl rfl rfl rfl rfl rfl (q_move rfl) ?_
    obtain ⟨ba, oa, rfl, hr9⟩ := hI.some (i := i.toNat) (by omega)
    refine gp_quiet 3 rfl rfl rfl rfl rfl rfl (q_ixs Try.underlying22 Try.sizeOf3 rfl rfl (by omega) (by omega)) ?_
    refine gp_quiet 4 rfl rfl rfl rfl rfl rfl (q_loadc Try.isAgg3 rfl (word_any hr9 (by omega))) ?_
    refine gp_quiet 5 rfl rfl rfl rfl rfl rfl (q_move rfl) ?_
    refine gp_take (MapI m kv) ?_
    refine gp_take (Seg 75 none (xs) none) ?_
    refine gp_take (Blk sb (.cells [Value.int .i64 room, .map (some m), .pointer (fstP (xs) none), .pointer (lstP (xs) none)].toArray 71 (0, 0))) ?_
    refine gp_effa 6 [0, 4, 5] [3, 2, 1] rfl rfl rfl rfl rfl rfl rfl (does_call Try.call17 rfl (put_any _ _ sb m room kv xs hS hV (Y.getD i.toNat 0) (by omega) i)) ?_
    rintro _ _ ⟨r9, g9, y, lv, rfl, hS2, hV2, hQ2, rfl⟩
    refine ⟨?_, ?_⟩
    · refine .cons rfl rfl rfl rfl rfl (q_ixs Try.underlying22 Try.sizeOf3 rfl rfl (by omega) (by omega)) ?_
      refine .cons rfl rfl rfl rfl rfl (q_move rfl) ?_
      refine .cons rfl rfl rfl rfl rfl (q_move rfl) ?_
      exact .nil
    refine gp_end rfl rfl ?_
    refine g_inBlock ?_
    refine g_region ?_
    refine l_move rfl rfl ?_
    first | refine l_add rfl rfl rfl (w_i64 (by omega) (by omega)) ?_ | refine l_addw rfl rfl rfl ?_
    refine l_assign rfl rfl ?_
    refine l_nil ?_
    exact g_againi (ih (i + 1, y, lv) ⟨⟨by simp only; omega, by simp only; omega⟩, hS2, hV2, put_len (by omega) hlr hQ2⟩ (by simp only; omega)) (.cons rfl (.cons rfl (.cons rfl (.cons rfl (.cons rfl (.cons rfl (.nil)))))))
  intro hbr
  have hbr := of_decide_eq_false hbr
  refine g_exit rfl ?_
  refine g_seq ?_
  refine g_region ?_
  refine l_alloc rfl Try.zeroValue46 rfl ?_; intro b12
  refine l_nil ?_
  refine g_seq ?_
  refine g_region ?_
  refine l_ld rfl Try.isAgg34 rfl rfl ?_
  refine l_call rfl Try.call18 rfl (all_ii _ _ _) ?_; rintro _ _ ⟨bm, rfl, rfl⟩
  refine l_assign rfl rfl ?_
  refine l_nil ?_
  refine g_seq ?_
  refine g_seq ?_
  refine g_region ?_
  refine l_move rfl rfl ?_
  refine l_eqfn rfl Try.underlying42 rfl rfl ?_
  refine l_nil ?_
  refine g_cond_f rfl ?_
  refine g_skip ?_
  refine g_seq ?_
  refine g_seq ?_
  refine g_region ?_
  refine l_own_nil 48 2 ?_
  refine l_move rfl rfl ?_
  refine l_nil ?_
  refine g_block ?_
  refine g_rangeR rfl Try.call38 rfl ?_
  rintro r0 l0 RC0 hRC0
  refine CallK.heap (F2 := RC0 .ready none :: Own 48 2 (Value.slice none 0 0) 0 [] :: Blk b12 (.cells [(Value.slice none 0 0)].toArray 46 (0, 0)) :: Blk sb (.cells [Value.int .i64 room, .map (some m), .pointer (fstP (xs) none), .pointer (lstP (xs) none)].toArray 71 (0, 0)) :: Seg 75 none (xs) none :: MapI m kv :: Blk bm (.cells [Value.pointer (some ⟨sb, 0, none⟩)].toArray 34 (0, 0)) :: Blk b9 (.cells [Value.pointer (some ⟨sb, 0, none⟩)].toArray 34 (0, 0)) :: Blk b8 (.cells [Value.bool false].toArray 4 (0, 0)) :: Blk b6 (.cells [Value.int .i64 stop].toArray 3 (0, 0)) :: Dfr r0 :: F) (CallK.mono (seq_s w0 F (fun x : Nat × Value => [RC0 .ready none, Own 48 2 x.2 x.1 (prW ((pr xs).take x.1)), Blk b12 (.cells [x.2].toArray 46 (0, 0)), Blk sb (.cells [Value.int .i64 room, .map (some m), .pointer (fstP (xs) none), .pointer (lstP (xs) none)].toArray 71 (0, 0)), Seg 75 none (xs) none, MapI m kv, Blk bm (.cells [Value.pointer (some ⟨sb, 0, none⟩)].toArray 34 (0, 0)), Blk b9 (.cells [Value.pointer (some ⟨sb, 0, none⟩)].toArray 34 (0, 0)), Blk b8 (.cells [Value.bool false].toArray 4 (0, 0)), Blk b6 (.cells [Value.int .i64 stop].toArray 3 (0, 0)), Dfr r0]) (fun i x => x.1 = i) (fun _ => False) l0 bm sb xs hV (by omega) (0, .slice none 0 0) rfl (fun w hw => by have h := hw.ok (Blk bm (.cells [Value.pointer (some ⟨sb, 0, none⟩)].toArray 34 (0, 0))) (by first | exact mem_getO 0 rfl | exact mem_getO 1 rfl | exact mem_getO 2 rfl | exact mem_getO 3 rfl | exact mem_getO 4 rfl | exact mem_getO 5 rfl | exact mem_getO 6 rfl | exact mem_getO 7 rfl | exact mem_getO 8 rfl | exact mem_getO 9 rfl | exact mem_getO 10 rfl | exact mem_getO 11 rfl | exact mem_getO 12 rfl | exact mem_getO 13 rfl | exact mem_getO 14 rfl | exact mem_getO 15 rfl | exact mem_getO 16 rfl | exact mem_getO 17 rfl); exact cell_of_has (c := [Value.pointer (some ⟨sb, 0, none⟩)]) (b := bm) (o := 0) h rfl) (fun w hw => by have h := hw.ok (Blk sb (.cells [Value.int .i64 room, .map (some m), .pointer (fstP (xs) none), .pointer (lstP (xs) none)].toArray 71 (0, 0))) (by first | exact mem_getO 0 rfl | exact mem_getO 1 rfl | exact mem_getO 2 rfl | exact mem_getO 3 rfl | exact mem_getO 4 rfl | exact mem_getO 5 rfl | exact mem_getO 6 rfl | exact mem_getO 7 rfl | exact mem_getO 8 rfl | exact mem_getO 9 rfl | exact mem_getO 10 rfl | exact mem_getO 11 rfl | exact mem_getO 12 rfl | exact mem_getO 13 rfl | exact mem_getO 14 rfl | exact mem_getO 15 rfl | exact mem_getO 16 rfl | exact mem_getO 17 rfl); exact cell_of_has (c := [Value.int .i64 room, .map (some m), .pointer (fstP (xs) none), .pointer (lstP (xs) none)]) (b := sb) (o := 2) h rfl) (fun j x l2 o v hd hv => by have h9 := drop_cons hd; exact seg_cell (T := 75) (l1 := xs.take j) (x := x) (l2 := l2) (p := none) (n := none) (by rw [← h9.2.1]; first | exact mem_getO 0 rfl | exact mem_getO 1 rfl | exact mem_getO 2 rfl | exact mem_getO 3 rfl | exact mem_getO 4 rfl | exact mem_getO 5 rfl | exact mem_getO 6 rfl | exact mem_getO 7 rfl | exact mem_getO 8 rfl | exact mem_getO 9 rfl | exact mem_getO 10 rfl | exact mem_getO 11 rfl | exact mem_getO 12 rfl | exact mem_getO 13 rfl | exact mem_getO 14 rfl | exact mem_getO 15 rfl | exact mem_getO 16 rfl | exact mem_getO 17 rfl) hv) (fun i x T hi hx hT => ?_)) (fun en F2 hG => ?_)) (fun w hw => SPI.holds hw)
  · obtain ⟨i9, v⟩ := x
    obtain rfl : i9 = i := hx
    dsimp only [List.cons_append, List.nil_append]
    refine c_roundR hRC0 rfl rfl ?_
    dsimp only [putL]
    refine g_seq ?_
    refine g_region ?_
    refine l_assign rfl rfl ?_
    refine l_nil ?_
    refine g_region ?_
    refine l_assign rfl rfl ?_
    refine l_nil ?_
    refine g_beginR hRC0 ?_
    refine g_block ?_
    refine g_region ?_
    refine l_ld rfl Try.isAgg46 rfl rfl ?_
    refine l_move rfl rfl ?_
    refine l_move rfl rfl ?_
    refine l_build rfl rfl (fun w => bd_48_0_1 _ _ w) ?_
    refine l_buildSlice rfl Try.underlying46 Try.sizeOf48 Try.zeroValue48 rfl rfl rfl rfl rfl rfl ?_; intro b71
    refine l_frontv v ?_
    refine l_append 0 (sz := 2) (by_ := 16) (m2 := 1) (news := [.int .i64 ((xs.map Nd.k).getD i9 0), .int .i64 ((xs.map fun x => vint x.v).getD i9 0)]) rfl Try.underlying46 Try.type48 rfl rfl rfl rfl rfl rfl rfl rfl ⟨rfl, .inl ⟨_, _, _, rfl, .own (mem_getO 1 rfl)⟩⟩ rfl (by omega) (by simp only [maxLen]; omega) (fun _ => rfl) ?_; intro v72 hv72
    rw [prW_step hi]
    refine l_fact (own_cases (mem_getO 0 rfl)) ?_
    rintro ⟨_, _, hv⟩
    obtain ⟨a72, c72, rfl, _⟩ := own_shape hv
    clear hv
    refine l_st Try.sizeOf46 rfl rfl rfl rfl ?_
    refine l_nil ?_
    refine g_inBlock ?_
    refine g_roundE (p := none) (F := Own 48 2 (Value.slice a72 (i9 + 1) c72) (i9 + 1) (prW ((pr xs).take (i9 + 1))) :: Blk b12 (.cells [(Value.slice a72 (i9 + 1) c72)].toArray 46 (0, 0)) :: Blk sb (.cells [Value.int .i64 room, .map (some m), .pointer (fstP (xs) none), .pointer (lstP (xs) none)].toArray 71 (0, 0)) :: Seg 75 none (xs) none :: MapI m kv :: Blk bm (.cells [Value.pointer (some ⟨sb, 0, none⟩)].toArray 34 (0, 0)) :: Blk b9 (.cells [Value.pointer (some ⟨sb, 0, none⟩)].toArray 34 (0, 0)) :: Blk b8 (.cells [Value.bool false].toArray 4 (0, 0)) :: Blk b6 (.cells [Value.int .i64 stop].toArray 3 (0, 0)) :: Dfr r0 :: T) hRC0 (fun w hw => SPI.holds hw) ?_
    exact ⟨_, rfl, true, rfl, fun _ => ⟨(i9 + 1, .slice a72 (i9 + 1) c72), rfl, fun w hw => hw⟩, fun h => (by cases h)⟩
  obtain ⟨v9, F9, rfl, hR9, hF9⟩ := hG
  refine ⟨⟨_, rfl⟩, ?_⟩
  obtain ⟨⟨n9, v⟩, hx, rfl⟩ := hR9.resolve_right (fun h => by obtain ⟨_, h, _⟩ := h; exact h)
  obtain rfl : n9 = xs.length := hx
  refine ⟨.ready, none, Own 48 2 v xs.length (prW ((pr xs).take xs.length)) :: Blk b12 (.cells [v].toArray 46 (0, 0)) :: Blk sb (.cells [Value.int .i64 room, .map (some m), .pointer (fstP (xs) none), .pointer (lstP (xs) none)].toArray 71 (0, 0)) :: Seg 75 none (xs) none :: MapI m kv :: Blk bm (.cells [Value.pointer (some ⟨sb, 0, none⟩)].toArray 34 (0, 0)) :: Blk b9 (.cells [Value.pointer (some ⟨sb, 0, none⟩)].toArray 34 (0, 0)) :: Blk b8 (.cells [Value.bool false].toArray 4 (0, 0)) :: Blk b6 (.cells [Value.int .i64 stop].toArray 3 (0, 0)) :: Dfr r0 :: F, (by intro h; cases h), fun w hw => SPI.holds (show Holds w0 (RC0 .ready none :: Own 48 2 v xs.length (prW ((pr xs).take xs.length)) :: Blk b12 (.cells [v].toArray 46 (0, 0)) :: Blk sb (.cells [Value.int .i64 room, .map (some m), .pointer (fstP (xs) none), .pointer (lstP (xs) none)].toArray 71 (0, 0)) :: Seg 75 none (xs) none :: MapI m kv :: Blk bm (.cells [Value.pointer (some ⟨sb, 0, none⟩)].toArray 34 (0, 0)) :: Blk b9 (.cells [Value.pointer (some ⟨sb, 0, none⟩)].toArray 34 (0, 0)) :: Blk b8 (.cells [Value.bool false].toArray 4 (0, 0)) :: Blk b6 (.cells [Value.int .i64 stop].toArray 3 (0, 0)) :: Dfr r0 :: F) w from hF9 w hw), ?_⟩
  dsimp only [jumpK]
  rw [show (pr xs).take xs.length = pr xs from List.take_of_length_le (by rw [pr_len]; omega)]
  refine g_fact (own_cases (show Own 48 2 v xs.length (prW (pr xs)) ∈ _ from (by first | exact mem_getO 0 rfl | exact mem_getO 1 rfl | exact mem_getO 2 rfl))) ?_
  rintro ⟨_, _, hv⟩
  obtain ⟨wa, wc, rfl, hwa⟩ := own_shape hv
  refine g_inBlock ?_
  refine g_seq ?_
  refine g_seq ?_
  refine gp_start mo (by kernel_rfl) (by kernel_rfl) ?_
  refine gp_quiet 0 rfl rfl rfl rfl rfl rfl (q_ld Try.isAgg46 rfl rfl) ?_
  refine gp_quiet 1 rfl rfl rfl rfl rfl rfl (q_len Try.underlying46 rfl) ?_
  refine gp_quiet 2 rfl rfl rfl rfl rfl rfl (q_ld Try.isAgg34 rfl rfl) ?_
  refine gp_take (MapI m kv) ?_
  refine gp_take (Seg 75 none (xs) none) ?_
  refine gp_take (Blk sb (.cells [Value.int .i64 room, .map (some m), .pointer (fstP (xs) none), .pointer (lstP (xs) none)].toArray 71 (0, 0))) ?_
  refine gp_effa 3 [2] [1, 0] rfl rfl rfl rfl rfl rfl rfl (does_call Try.call19 rfl (len_ii _ _ sb m room kv xs hS)) ?_
  rintro _ _ ⟨rfl, rfl⟩
  refine ⟨?_, ?_⟩
  · refine .cons rfl rfl rfl rfl rfl (q_len Try.underlying46 rfl) ?_
    refine .cons rfl rfl rfl rfl rfl (q_ld Try.isAgg46 rfl rfl) ?_
    exact .nil
  refine gp_quiet 4 rfl rfl rfl rfl rfl rfl (q_neq rfl rfl) ?_
  refine gp_end rfl rfl ?_
  refine g_cond rfl ?_ ?_
  · intro hbr
    have hbr := of_decide_eq_true hbr
    (exfalso; first | omega | (simp at hbr; done))
  intro hbr
  have hbr := of_decide_eq_false hbr
  refine g_skip ?_
  refine g_seq ?_
  refine g_region ?_
  skip
  refine l_alloc rfl Try.zeroValue3 rfl ?_; intro b16
  first | refine l_st Try.sizeOf3 rfl rfl rfl rfl ?_ | refine l_stw Try.sizeOf3 rfl rfl (by omega) ?_
  refine l_nil ?_
  refine g_seq ?_
  refine g_seq ?_
  refine g_region ?_
  refine l_move rfl rfl ?_
  refine l_nil ?_
  refine g_block ?_
  refine g_rangeR rfl Try.call38 rfl ?_
  rintro r1 l1 RC1 hRC1
  refine CallK.heap (F2 := RC1 .ready none :: Blk b16 (.cells [Value.int .i64 0].toArray 3 (0, 0)) :: Own 48 2 (Value.slice wa xs.length wc) xs.length (prW (pr xs)) :: Blk b12 (.cells [(Value.slice wa xs.length wc)].toArray 46 (0, 0)) :: Blk sb (.cells [Value.int .i64 room, .map (some m), .pointer (fstP (xs) none), .pointer (lstP (xs) none)].toArray 71 (0, 0)) :: Seg 75 none (xs) none :: MapI m kv :: Blk bm (.cells [Value.pointer (some ⟨sb, 0, none⟩)].toArray 34 (0, 0)) :: Blk b9 (.cells [Value.pointer (some ⟨sb, 0, none⟩)].toArray 34 (0, 0)) :: Blk b8 (.cells [Value.bool false].toArray 4 (0, 0)) :: Blk b6 (.cells [Value.int .i64 stop].toArray 3 (0, 0)) :: Dfr r1 :: Dfr r0 :: F) (CallK.mono (seq_s w0 F (fun x : Int => [RC1 .ready none, Blk b16 (.cells [Value.int .i64 x].toArray 3 (0, 0)), Own 48 2 (Value.slice wa xs.length wc) xs.length (prW (pr xs)), Blk b12 (.cells [(Value.slice wa xs.length wc)].toArray 46 (0, 0)), Blk sb (.cells [Value.int .i64 room, .map (some m), .pointer (fstP (xs) none), .pointer (lstP (xs) none)].toArray 71 (0, 0)), Seg 75 none (xs) none, MapI m kv, Blk bm (.cells [Value.pointer (some ⟨sb, 0, none⟩)].toArray 34 (0, 0)), Blk b9 (.cells [Value.pointer (some ⟨sb, 0, none⟩)].toArray 34 (0, 0)), Blk b8 (.cells [Value.bool false].toArray 4 (0, 0)), Blk b6 (.cells [Value.int .i64 stop].toArray 3 (0, 0)), Dfr r1, Dfr r0]) (fun i x => x = (i : Int)) (fun F3 => ∃ j : Int, F3 = [RC1 .done (some (.exit 4)), Blk b16 (.cells [Value.int .i64 j].toArray 3 (0, 0)), Own 48 2 (Value.slice wa xs.length wc) xs.length (prW (pr xs)), Blk b12 (.cells [(Value.slice wa xs.length wc)].toArray 46 (0, 0)), Blk sb (.cells [Value.int .i64 room, .map (some m), .pointer (fstP (xs) none), .pointer (lstP (xs) none)].toArray 71 (0, 0)), Seg 75 none (xs) none, MapI m kv, Blk bm (.cells [Value.pointer (some ⟨sb, 0, none⟩)].toArray 34 (0, 0)), Blk b9 (.cells [Value.pointer (some ⟨sb, 0, none⟩)].toArray 34 (0, 0)), Blk b8 (.cells [Value.bool false].toArray 4 (0, 0)), Blk b6 (.cells [Value.int .i64 stop].toArray 3 (0, 0)), Dfr r1, Dfr r0]) l1 bm sb xs hV (by omega) 0 rfl (fun w hw => by have h := hw.ok (Blk bm (.cells [Value.pointer (some ⟨sb, 0, none⟩)].toArray 34 (0, 0))) (by first | exact mem_getO 0 rfl | exact mem_getO 1 rfl | exact mem_getO 2 rfl | exact mem_getO 3 rfl | exact mem_getO 4 rfl | exact mem_getO 5 rfl | exact mem_getO 6 rfl | exact mem_getO 7 rfl | exact mem_getO 8 rfl | exact mem_getO 9 rfl | exact mem_getO 10 rfl | exact mem_getO 11 rfl | exact mem_getO 12 rfl | exact mem_getO 13 rfl | exact mem_getO 14 rfl | exact mem_getO 15 rfl | exact mem_getO 16 rfl | exact mem_getO 17 rfl); exact cell_of_has (c := [Value.pointer (some ⟨sb, 0, none⟩)]) (b := bm) (o := 0) h rfl) (fun w hw => by have h := hw.ok (Blk sb (.cells [Value.int .i64 room, .map (some m), .pointer (fstP (xs) none), .pointer (lstP (xs) none)].toArray 71 (0, 0))) (by first | exact mem_getO 0 rfl | exact mem_getO 1 rfl | exact mem_getO 2 rfl | exact mem_getO 3 rfl | exact mem_getO 4 rfl | exact mem_getO 5 rfl | exact mem_getO 6 rfl | exact mem_getO 7 rfl | exact mem_getO 8 rfl | exact mem_getO 9 rfl | exact mem_getO 10 rfl | exact mem_getO 11 rfl | exact mem_getO 12 rfl | exact mem_getO 13 rfl | exact mem_getO 14 rfl | exact mem_getO 15 rfl | exact mem_getO 16 rfl | exact mem_getO 17 rfl); exact cell_of_has (c := [Value.int .i64 room, .map (some m), .pointer (fstP (xs) none), .pointer (lstP (xs) none)]) (b := sb) (o := 2) h rfl) (fun j x l2 o v hd hv => by have h9 := drop_cons hd; exact seg_cell (T := 75) (l1 := xs.take j) (x := x) (l2 := l2) (p := none) (n := none) (by rw [← h9.2.1]; first | exact mem_getO 0 rfl | exact mem_getO 1 rfl | exact mem_getO 2 rfl | exact mem_getO 3 rfl | exact mem_getO 4 rfl | exact mem_getO 5 rfl | exact mem_getO 6 rfl | exact mem_getO 7 rfl | exact mem_getO 8 rfl | exact mem_getO 9 rfl | exact mem_getO 10 rfl | exact mem_getO 11 rfl | exact mem_getO 12 rfl | exact mem_getO 13 rfl | exact mem_getO 14 rfl | exact mem_getO 15 rfl | exact mem_getO 16 rfl | exact mem_getO 17 rfl) hv) (fun i x T hi hx hT => ?_)) (fun en F2 hG => ?_)) (fun w hw => SPI.holds hw)
  · subst hx
    obtain ⟨gw, rfl⟩ := hwa.resolve_left (by omega)
    dsimp only [List.cons_append, List.nil_append]
    refine c_roundR hRC1 rfl rfl ?_
    dsimp only [putL]
    refine g_seq ?_
    refine g_region ?_
    refine l_assign rfl rfl ?_
    refine l_nil ?_
    refine g_region ?_
    refine l_assign rfl rfl ?_
    refine l_nil ?_
    refine g_beginR hRC1 ?_
    refine g_block ?_
    refine g_seq ?_
    refine g_seq ?_
    refine g_region ?_
    first | refine l_ld rfl Try.isAgg3 rfl rfl ?_ | refine l_ldw rfl Try.isAgg3 rfl (by omega) ?_
    refine l_ld rfl Try.isAgg46 rfl rfl ?_
    refine l_len rfl Try.underlying46 rfl ?_
    refine l_geq rfl rfl rfl ?_
    refine l_move rfl rfl ?_
    refine l_split 85 rfl ?_ ?_
    · intro hbr
      have hbr := of_decide_eq_true hbr
      (exfalso; first | omega | (simp at hbr; done))
    intro hbr
    have hbr := of_decide_eq_false hbr
    refine l_guard_yes rfl rfl ?_
    refine l_ld rfl Try.isAgg46 rfl rfl ?_
    refine l_guard_yes rfl rfl ?_
    first | refine l_ld rfl Try.isAgg3 rfl rfl ?_ | refine l_ldw rfl Try.isAgg3 rfl (by omega) ?_
    refine l_guard_yes rfl rfl ?_
    refine l_ixs rfl Try.underlying46 Try.sizeOf48 rfl rfl (by omega) (by omega) ?_
    refine l_guard_yes rfl rfl ?_
    refine l_loadr (l := [.int .i64 ((xs.map Nd.k).getD i 0), .int .i64 ((xs.map fun x => vint x.v).getD i 0)]) rfl Try.isAgg48 Try.sizeOf48 rfl rfl (pw_row rfl hi (by omega)) ?_
    refine l_guard_yes rfl rfl ?_
    refine l_move rfl rfl ?_
    refine l_guard_yes rfl rfl ?_
    refine l_move rfl rfl ?_
    refine l_guard_yes rfl rfl ?_
    refine l_build rfl rfl (fun w => bd_48_0_1 _ _ w) ?_
    refine l_guard_yes rfl rfl ?_
    refine l_bin rfl rfl rfl (fun w => run_eqGuard_agg w _ _ _ _ _ _ Try.eqGuardType48) (fun w => sqn_48 _ _ _ _ w) ?_
    rw [show (!(decide ((xs.map Nd.k).getD i 0 = (xs.map Nd.k).getD i 0) && decide ((xs.map fun x => vint x.v).getD i 0 = (xs.map fun x => vint x.v).getD i 0))) = false by simp]
    refine l_pick_f rfl rfl rfl ?_
    refine l_nil ?_
    refine g_cond_f rfl ?_
    refine g_skip ?_
    refine g_seq ?_
    refine g_region ?_
    first | refine l_ld rfl Try.isAgg3 rfl rfl ?_ | refine l_ldw rfl Try.isAgg3 rfl (by omega) ?_
    first | refine l_add rfl rfl rfl (w_i64 (by omega) (by omega)) ?_ | refine l_addw rfl rfl rfl ?_
    first | refine l_st Try.sizeOf3 rfl rfl rfl rfl ?_ | refine l_stw Try.sizeOf3 rfl rfl (by omega) ?_
    refine l_nil ?_
    refine g_seq ?_
    refine g_region ?_
    first | refine l_ld rfl Try.isAgg3 rfl rfl ?_ | refine l_ldw rfl Try.isAgg3 rfl (by omega) ?_
    first | refine l_ld rfl Try.isAgg3 rfl rfl ?_ | refine l_ldw rfl Try.isAgg3 rfl (by omega) ?_
    refine l_eql rfl rfl rfl ?_
    refine l_nil ?_
    refine g_cond rfl ?_ ?_
    · intro hbr
      have hbr := of_decide_eq_true hbr
      refine g_roundX (p := none) (F := Blk b16 (.cells [Value.int .i64 ((i : Int) + 1)].toArray 3 (0, 0)) :: Own 48 2 (Value.slice (some ⟨gw, 0, none⟩) xs.length wc) xs.length (prW (pr xs)) :: Blk b12 (.cells [(Value.slice (some ⟨gw, 0, none⟩) xs.length wc)].toArray 46 (0, 0)) :: Blk sb (.cells [Value.int .i64 room, .map (some m), .pointer (fstP (xs) none), .pointer (lstP (xs) none)].toArray 71 (0, 0)) :: Seg 75 none (xs) none :: MapI m kv :: Blk bm (.cells [Value.pointer (some ⟨sb, 0, none⟩)].toArray 34 (0, 0)) :: Blk b9 (.cells [Value.pointer (some ⟨sb, 0, none⟩)].toArray 34 (0, 0)) :: Blk b8 (.cells [Value.bool false].toArray 4 (0, 0)) :: Blk b6 (.cells [Value.int .i64 stop].toArray 3 (0, 0)) :: Dfr r1 :: Dfr r0 :: T) hRC1 rfl (fun w hw => SPI.holds hw) ?_
      exact ⟨_, rfl, false, rfl, fun h => (by cases h), fun _ => ⟨_, ⟨(i : Int) + 1, rfl⟩, fun w hw => hw⟩⟩
    intro hbr
    have hbr := of_decide_eq_false hbr
    refine g_skip ?_
    refine g_inBlock ?_
    refine g_roundE (p := none) (F := Blk b16 (.cells [Value.int .i64 ((i : Int) + 1)].toArray 3 (0, 0)) :: Own 48 2 (Value.slice (some ⟨gw, 0, none⟩) xs.length wc) xs.length (prW (pr xs)) :: Blk b12 (.cells [(Value.slice (some ⟨gw, 0, none⟩) xs.length wc)].toArray 46 (0, 0)) :: Blk sb (.cells [Value.int .i64 room, .map (some m), .pointer (fstP (xs) none), .pointer (lstP (xs) none)].toArray 71 (0, 0)) :: Seg 75 none (xs) none :: MapI m kv :: Blk bm (.cells [Value.pointer (some ⟨sb, 0, none⟩)].toArray 34 (0, 0)) :: Blk b9 (.cells [Value.pointer (some ⟨sb, 0, none⟩)].toArray 34 (0, 0)) :: Blk b8 (.cells [Value.bool false].toArray 4 (0, 0)) :: Blk b6 (.cells [Value.int .i64 stop].toArray 3 (0, 0)) :: Dfr r1 :: Dfr r0 :: T) hRC1 (fun w hw => SPI.holds hw) ?_
    exact ⟨_, rfl, true, rfl, fun _ => ⟨(i : Int) + 1, by omega, fun w hw => hw⟩, fun h => (by cases h)⟩
  · obtain ⟨v9, F9, rfl, hR9, hF9⟩ := hG
    refine ⟨⟨_, rfl⟩, ?_⟩
    rcases hR9 with ⟨j9, hx, rfl⟩ | ⟨F3, ⟨j9, rfl⟩, rfl⟩
    · refine ⟨.ready, none, Blk b16 (.cells [Value.int .i64 j9].toArray 3 (0, 0)) :: Own 48 2 (Value.slice wa xs.length wc) xs.length (prW (pr xs)) :: Blk b12 (.cells [(Value.slice wa xs.length wc)].toArray 46 (0, 0)) :: Blk sb (.cells [Value.int .i64 room, .map (some m), .pointer (fstP (xs) none), .pointer (lstP (xs) none)].toArray 71 (0, 0)) :: Seg 75 none (xs) none :: MapI m kv :: Blk bm (.cells [Value.pointer (some ⟨sb, 0, none⟩)].toArray 34 (0, 0)) :: Blk b9 (.cells [Value.pointer (some ⟨sb, 0, none⟩)].toArray 34 (0, 0)) :: Blk b8 (.cells [Value.bool false].toArray 4 (0, 0)) :: Blk b6 (.cells [Value.int .i64 stop].toArray 3 (0, 0)) :: Dfr r1 :: Dfr r0 :: F, (by intro h; cases h), fun w hw => SPI.holds (show Holds w0 (RC1 .ready none :: Blk b16 (.cells [Value.int .i64 j9].toArray 3 (0, 0)) :: Own 48 2 (Value.slice wa xs.length wc) xs.length (prW (pr xs)) :: Blk b12 (.cells [(Value.slice wa xs.length wc)].toArray 46 (0, 0)) :: Blk sb (.cells [Value.int .i64 room, .map (some m), .pointer (fstP (xs) none), .pointer (lstP (xs) none)].toArray 71 (0, 0)) :: Seg 75 none (xs) none :: MapI m kv :: Blk bm (.cells [Value.pointer (some ⟨sb, 0, none⟩)].toArray 34 (0, 0)) :: Blk b9 (.cells [Value.pointer (some ⟨sb, 0, none⟩)].toArray 34 (0, 0)) :: Blk b8 (.cells [Value.bool false].toArray 4 (0, 0)) :: Blk b6 (.cells [Value.int .i64 stop].toArray 3 (0, 0)) :: Dfr r1 :: Dfr r0 :: F) w from hF9 w hw), ?_⟩
      dsimp only [jumpK]
      refine g_inBlock ?_
      refine g_seq ?_
      refine g_seq ?_
      refine g_region ?_
      refine l_ld rfl Try.isAgg34 rfl rfl ?_
      refine l_ld rfl Try.isAgg46 rfl rfl ?_
      refine l_move rfl rfl ?_
      refine gl_heap (F' := Blk sb (.cells [Value.int .i64 room, .map (some m), .pointer (fstP (xs) none), .pointer (lstP (xs) none)].toArray 71 (0, 0)) :: Seg 75 none (xs) none :: MapI m kv :: Own 48 2 (Value.slice wa xs.length wc) xs.length (prW (pr xs)) :: Blk b16 (.cells [Value.int .i64 j9].toArray 3 (0, 0)) :: Blk b12 (.cells [(Value.slice wa xs.length wc)].toArray 46 (0, 0)) :: Blk bm (.cells [Value.pointer (some ⟨sb, 0, none⟩)].toArray 34 (0, 0)) :: Blk b9 (.cells [Value.pointer (some ⟨sb, 0, none⟩)].toArray 34 (0, 0)) :: Blk b8 (.cells [Value.bool false].toArray 4 (0, 0)) :: Blk b6 (.cells [Value.int .i64 stop].toArray 3 (0, 0)) :: Dfr r1 :: Dfr r0 :: F) (fun w hw => SPI.holds hw) ?_
      refine l_call rfl Try.call20 rfl (within_ok _ _ sb m room (by omega) (by omega) xs kv hS hV hlr wa wc hwa other) ?_; rintro _ _ ⟨y, lv, rfl, hS2, hV2, hl2, rfl⟩
      refine l_not rfl rfl ?_
      refine l_nil ?_
      refine g_cond_f rfl ?_
      refine g_skip ?_
      refine g_seq ?_
      refine g_region ?_
      refine l_alloc rfl Try.zeroValue3 rfl ?_; intro b19
      first | refine l_st Try.sizeOf3 rfl rfl rfl rfl ?_ | refine l_stw Try.sizeOf3 rfl rfl (by omega) ?_
      refine l_nil ?_
      refine g_seq ?_
      refine g_seq ?_
      refine g_region ?_
      refine l_move rfl rfl ?_
      refine l_nil ?_
      refine g_block ?_
      refine g_rangeR rfl Try.call38 rfl ?_
      rintro r2 l2 RC2 hRC2
      refine CallK.heap (F2 := RC2 .ready none :: Blk b19 (.cells [Value.int .i64 0].toArray 3 (0, 0)) :: Blk sb (.cells [Value.int .i64 room, .map (some m), .pointer (fstP (y) none), .pointer (lstP (y) none)].toArray 71 (0, 0)) :: Seg 75 none (y) none :: MapI m lv :: Blk bm (.cells [Value.pointer (some ⟨sb, 0, none⟩)].toArray 34 (0, 0)) :: Blk b9 (.cells [Value.pointer (some ⟨sb, 0, none⟩)].toArray 34 (0, 0)) :: Blk b8 (.cells [Value.bool false].toArray 4 (0, 0)) :: Blk b6 (.cells [Value.int .i64 stop].toArray 3 (0, 0)) :: Dfr r2 :: Dfr r1 :: Dfr r0 :: F) (CallK.mono (seq_s w0 F (fun x : Int => [RC2 .ready none, Blk b19 (.cells [Value.int .i64 x].toArray 3 (0, 0)), Blk sb (.cells [Value.int .i64 room, .map (some m), .pointer (fstP (y) none), .pointer (lstP (y) none)].toArray 71 (0, 0)), Seg 75 none (y) none, MapI m lv, Blk bm (.cells [Value.pointer (some ⟨sb, 0, none⟩)].toArray 34 (0, 0)), Blk b9 (.cells [Value.pointer (some ⟨sb, 0, none⟩)].toArray 34 (0, 0)), Blk b8 (.cells [Value.bool false].toArray 4 (0, 0)), Blk b6 (.cells [Value.int .i64 stop].toArray 3 (0, 0)), Dfr r2, Dfr r1, Dfr r0]) (fun i x => x = (i : Int)) (fun _ => False) l2 bm sb y hV2 (by omega) 0 rfl (fun w hw => by have h := hw.ok (Blk bm (.cells [Value.pointer (some ⟨sb, 0, none⟩)].toArray 34 (0, 0))) (by first | exact mem_getO 0 rfl | exact mem_getO 1 rfl | exact mem_getO 2 rfl | exact mem_getO 3 rfl | exact mem_getO 4 rfl | exact mem_getO 5 rfl | exact mem_getO 6 rfl | exact mem_getO 7 rfl | exact mem_getO 8 rfl | exact mem_getO 9 rfl | exact mem_getO 10 rfl | exact mem_getO 11 rfl | exact mem_getO 12 rfl | exact mem_getO 13 rfl | exact mem_getO 14 rfl | exact mem_getO 15 rfl | exact mem_getO 16 rfl | exact mem_getO 17 rfl); exact cell_of_has (c := [Value.pointer (some ⟨sb, 0, none⟩)]) (b := bm) (o := 0) h rfl) (fun w hw => by have h := hw.ok (Blk sb (.cells [Value.int .i64 room, .map (some m), .pointer (fstP (y) none), .pointer (lstP (y) none)].toArray 71 (0, 0))) (by first | exact mem_getO 0 rfl | exact mem_getO 1 rfl | exact mem_getO 2 rfl | exact mem_getO 3 rfl | exact mem_getO 4 rfl | exact mem_getO 5 rfl | exact mem_getO 6 rfl | exact mem_getO 7 rfl | exact mem_getO 8 rfl | exact mem_getO 9 rfl | exact mem_getO 10 rfl | exact mem_getO 11 rfl | exact mem_getO 12 rfl | exact mem_getO 13 rfl | exact mem_getO 14 rfl | exact mem_getO 15 rfl | exact mem_getO 16 rfl | exact mem_getO 17 rfl); exact cell_of_has (c := [Value.int .i64 room, .map (some m), .pointer (fstP (y) none), .pointer (lstP (y) none)]) (b := sb) (o := 2) h rfl) (fun j x l2 o v hd hv => by have h9 := drop_cons hd; exact seg_cell (T := 75) (l1 := y.take j) (x := x) (l2 := l2) (p := none) (n := none) (by rw [← h9.2.1]; first | exact mem_getO 0 rfl | exact mem_getO 1 rfl | exact mem_getO 2 rfl | exact mem_getO 3 rfl | exact mem_getO 4 rfl | exact mem_getO 5 rfl | exact mem_getO 6 rfl | exact mem_getO 7 rfl | exact mem_getO 8 rfl | exact mem_getO 9 rfl | exact mem_getO 10 rfl | exact mem_getO 11 rfl | exact mem_getO 12 rfl | exact mem_getO 13 rfl | exact mem_getO 14 rfl | exact mem_getO 15 rfl | exact mem_getO 16 rfl | exact mem_getO 17 rfl) hv) (fun i x T hi hx hT => ?_)) (fun en F2 hG => ?_)) (fun w hw => SPI.holds hw)
      · subst hx
        obtain ⟨hk1, hk2⟩ := key_at hS2 hi
        dsimp only [List.cons_append, List.nil_append]
        refine c_roundR hRC2 rfl rfl ?_
        dsimp only [putL]
        refine g_seq ?_
        refine g_region ?_
        refine l_assign rfl rfl ?_
        refine l_nil ?_
        refine g_region ?_
        refine l_assign rfl rfl ?_
        refine l_nil ?_
        refine g_beginR hRC2 ?_
        refine g_block ?_
        refine g_seq ?_
        refine g_region ?_
        refine l_ld rfl Try.isAgg34 rfl rfl ?_
        refine l_move rfl rfl ?_
        refine gl_heap (F' := Blk sb (.cells [Value.int .i64 room, .map (some m), .pointer (fstP (y) none), .pointer (lstP (y) none)].toArray 71 (0, 0)) :: Seg 75 none (y) none :: MapI m lv :: RC2 .busy none :: Blk b19 (.cells [Value.int .i64 (i : Int)].toArray 3 (0, 0)) :: Blk bm (.cells [Value.pointer (some ⟨sb, 0, none⟩)].toArray 34 (0, 0)) :: Blk b9 (.cells [Value.pointer (some ⟨sb, 0, none⟩)].toArray 34 (0, 0)) :: Blk b8 (.cells [Value.bool false].toArray 4 (0, 0)) :: Blk b6 (.cells [Value.int .i64 stop].toArray 3 (0, 0)) :: Dfr r2 :: Dfr r1 :: Dfr r0 :: T) (fun w hw => SPI.holds hw) ?_
        refine l_call rfl Try.call21 rfl (peek_any _ _ sb m room lv y hS2 hV2 ((y.map Nd.k).getD i 0)) ?_; rintro _ _ ⟨rfl, rfl⟩
        rw [hk1, hk2]
        refine l_move rfl rfl ?_
        refine l_extract rfl rfl rfl ?_
        refine l_extract rfl rfl rfl ?_
        refine l_assign rfl rfl ?_
        refine l_assign rfl rfl ?_
        refine l_nil ?_
        refine g_seq ?_
        refine g_seq ?_
        refine g_region ?_
        refine l_move rfl rfl ?_
        refine l_not rfl rfl ?_
        refine l_move rfl rfl ?_
        refine l_guard_yes rfl rfl ?_
        refine l_move rfl rfl ?_
        refine l_guard_yes rfl rfl ?_
        refine l_move rfl rfl ?_
        refine l_guard_yes rfl rfl ?_
        refine l_neq rfl rfl rfl ?_
        refine l_pick_f rfl rfl rfl ?_
        refine l_nil ?_
        refine g_cond rfl ?_ ?_
        · intro hbr
          have hbr := of_decide_eq_true hbr
          (exfalso; first | omega | (simp at hbr; done))
        intro hbr
        have hbr := of_decide_eq_false hbr
        refine g_skip ?_
        refine g_region ?_
        first | refine l_ld rfl Try.isAgg3 rfl rfl ?_ | refine l_ldw rfl Try.isAgg3 rfl (by omega) ?_
        first | refine l_add rfl rfl rfl (w_i64 (by omega) (by omega)) ?_ | refine l_addw rfl rfl rfl ?_
        first | refine l_st Try.sizeOf3 rfl rfl rfl rfl ?_ | refine l_stw Try.sizeOf3 rfl rfl (by omega) ?_
        refine l_nil ?_
        refine g_inBlock ?_
        refine g_roundE (p := none) (F := Blk b19 (.cells [Value.int .i64 ((i : Int) + 1)].toArray 3 (0, 0)) :: Blk sb (.cells [Value.int .i64 room, .map (some m), .pointer (fstP (y) none), .pointer (lstP (y) none)].toArray 71 (0, 0)) :: Seg 75 none (y) none :: MapI m lv :: Blk bm (.cells [Value.pointer (some ⟨sb, 0, none⟩)].toArray 34 (0, 0)) :: Blk b9 (.cells [Value.pointer (some ⟨sb, 0, none⟩)].toArray 34 (0, 0)) :: Blk b8 (.cells [Value.bool false].toArray 4 (0, 0)) :: Blk b6 (.cells [Value.int .i64 stop].toArray 3 (0, 0)) :: Dfr r2 :: Dfr r1 :: Dfr r0 :: T) hRC2 (fun w hw => SPI.holds hw) ?_
        exact ⟨_, rfl, true, rfl, fun _ => ⟨(i : Int) + 1, by omega, fun w hw => hw⟩, fun h => (by cases h)⟩
      obtain ⟨v9, F9, rfl, hR9, hF9⟩ := hG
      refine ⟨⟨_, rfl⟩, ?_⟩
      obtain ⟨x, hx, rfl⟩ := hR9.resolve_right (fun h => by obtain ⟨_, h, _⟩ := h; exact h)
      obtain rfl : x = (y.length : Int) := hx
      refine ⟨.ready, none, Blk b19 (.cells [Value.int .i64 (y.length : Int)].toArray 3 (0, 0)) :: Blk sb (.cells [Value.int .i64 room, .map (some m), .pointer (fstP (y) none), .pointer (lstP (y) none)].toArray 71 (0, 0)) :: Seg 75 none (y) none :: MapI m lv :: Blk bm (.cells [Value.pointer (some ⟨sb, 0, none⟩)].toArray 34 (0, 0)) :: Blk b9 (.cells [Value.pointer (some ⟨sb, 0, none⟩)].toArray 34 (0, 0)) :: Blk b8 (.cells [Value.bool false].toArray 4 (0, 0)) :: Blk b6 (.cells [Value.int .i64 stop].toArray 3 (0, 0)) :: Dfr r2 :: Dfr r1 :: Dfr r0 :: F, (by intro h; cases h), fun w hw => SPI.holds (show Holds w0 (RC2 .ready none :: Blk b19 (.cells [Value.int .i64 (y.length : Int)].toArray 3 (0, 0)) :: Blk sb (.cells [Value.int .i64 room, .map (some m), .pointer (fstP (y) none), .pointer (lstP (y) none)].toArray 71 (0, 0)) :: Seg 75 none (y) none :: MapI m lv :: Blk bm (.cells [Value.pointer (some ⟨sb, 0, none⟩)].toArray 34 (0, 0)) :: Blk b9 (.cells [Value.pointer (some ⟨sb, 0, none⟩)].toArray 34 (0, 0)) :: Blk b8 (.cells [Value.bool false].toArray 4 (0, 0)) :: Blk b6 (.cells [Value.int .i64 stop].toArray 3 (0, 0)) :: Dfr r2 :: Dfr r1 :: Dfr r0 :: F) w from hF9 w hw), ?_⟩
      dsimp only [jumpK]
      refine g_inBlock ?_
      refine g_seq ?_
      refine gp_start mo (by kernel_rfl) (by kernel_rfl) ?_
      first | refine gp_quiet 0 rfl rfl rfl rfl rfl rfl (q_ld Try.isAgg3 rfl rfl) ?_ | refine gp_quiet 0 rfl rfl rfl rfl rfl rfl (q_ldw Try.isAgg3 rfl (by omega)) ?_
      refine gp_quiet 1 rfl rfl rfl rfl rfl rfl (q_ld Try.isAgg34 rfl rfl) ?_
      refine gp_take (MapI m lv) ?_
      refine gp_take (Seg 75 none (y) none) ?_
      refine gp_take (Blk sb (.cells [Value.int .i64 room, .map (some m), .pointer (fstP (y) none), .pointer (lstP (y) none)].toArray 71 (0, 0))) ?_
      refine gp_effa 2 [1] [0] rfl rfl rfl rfl rfl rfl rfl (does_call Try.call19 rfl (len_ii _ _ sb m room lv y hS2)) ?_
      rintro _ _ ⟨rfl, rfl⟩
      refine ⟨?_, ?_⟩
      · first | refine .cons rfl rfl rfl rfl rfl (q_ld Try.isAgg3 rfl rfl) ?_ | refine .cons rfl rfl rfl rfl rfl (q_ldw Try.isAgg3 rfl (by omega)) ?_
        exact .nil
      refine gp_quiet 3 rfl rfl rfl rfl rfl rfl (q_eql rfl rfl) ?_
      refine gp_effa 4 [0, 3] [] rfl rfl rfl rfl rfl rfl rfl (does_st Try.sizeOf4 rfl rfl rfl rfl) ?_
      rintro _ _ ⟨rfl, rfl⟩
      refine ⟨?_, ?_⟩
      · exact .nil
      refine gp_end rfl rfl ?_
      refine g_heap (F' := Dfr r2 :: Dfr r1 :: Dfr r0 :: Blk b8 (.cells [Value.bool (decide ((y.length : Int) = (y.length : Int)))].toArray 4 (0, 0)) :: F) (fun w hw => SPI.holds hw) ?_
      refine g_ret_m (F := Blk b8 (.cells [Value.bool (decide ((y.length : Int) = (y.length : Int)))].toArray 4 (0, 0)) :: F) [r2, r1, r0] rfl Try.func5 (fun w hw => hw) rfl (.ci rfl Try.isAgg4 rfl .nil) ?_
      exact Gives.mki ⟨congrArg Value.bool (decide_eq_true rfl), rfl⟩
    · refine ⟨.done, (some (.exit 4)), Blk b16 (.cells [Value.int .i64 j9].toArray 3 (0, 0)) :: Own 48 2 (Value.slice wa xs.length wc) xs.length (prW (pr xs)) :: Blk b12 (.cells [(Value.slice wa xs.length wc)].toArray 46 (0, 0)) :: Blk sb (.cells [Value.int .i64 room, .map (some m), .pointer (fstP (xs) none), .pointer (lstP (xs) none)].toArray 71 (0, 0)) :: Seg 75 none (xs) none :: MapI m kv :: Blk bm (.cells [Value.pointer (some ⟨sb, 0, none⟩)].toArray 34 (0, 0)) :: Blk b9 (.cells [Value.pointer (some ⟨sb, 0, none⟩)].toArray 34 (0, 0)) :: Blk b8 (.cells [Value.bool false].toArray 4 (0, 0)) :: Blk b6 (.cells [Value.int .i64 stop].toArray 3 (0, 0)) :: Dfr r1 :: Dfr r0 :: F, (by intro h; cases h), fun w hw => SPI.holds (show Holds w0 (RC1 .done (some (.exit 4)) :: Blk b16 (.cells [Value.int .i64 j9].toArray 3 (0, 0)) :: Own 48 2 (Value.slice wa xs.length wc) xs.length (prW (pr xs)) :: Blk b12 (.cells [(Value.slice wa xs.length wc)].toArray 46 (0, 0)) :: Blk sb (.cells [Value.int .i64 room, .map (some m), .pointer (fstP (xs) none), .pointer (lstP (xs) none)].toArray 71 (0, 0)) :: Seg 75 none (xs) none :: MapI m kv :: Blk bm (.cells [Value.pointer (some ⟨sb, 0, none⟩)].toArray 34 (0, 0)) :: Blk b9 (.cells [Value.pointer (some ⟨sb, 0, none⟩)].toArray 34 (0, 0)) :: Blk b8 (.cells [Value.bool false].toArray 4 (0, 0)) :: Blk b6 (.cells [Value.int .i64 stop].toArray 3 (0, 0)) :: Dfr r1 :: Dfr r0 :: F) w from hF9 w hw), ?_⟩
      dsimp only [jumpK]
      refine g_exit rfl ?_
      refine g_seq ?_
      refine g_seq ?_
      refine g_region ?_
      refine l_ld rfl Try.isAgg34 rfl rfl ?_
      refine l_ld rfl Try.isAgg46 rfl rfl ?_
      refine l_move rfl rfl ?_
      refine gl_heap (F' := Blk sb (.cells [Value.int .i64 room, .map (some m), .pointer (fstP (xs) none), .pointer (lstP (xs) none)].toArray 71 (0, 0)) :: Seg 75 none (xs) none :: MapI m kv :: Own 48 2 (Value.slice wa xs.length wc) xs.length (prW (pr xs)) :: Blk b16 (.cells [Value.int .i64 j9].toArray 3 (0, 0)) :: Blk b12 (.cells [(Value.slice wa xs.length wc)].toArray 46 (0, 0)) :: Blk bm (.cells [Value.pointer (some ⟨sb, 0, none⟩)].toArray 34 (0, 0)) :: Blk b9 (.cells [Value.pointer (some ⟨sb, 0, none⟩)].toArray 34 (0, 0)) :: Blk b8 (.cells [Value.bool false].toArray 4 (0, 0)) :: Blk b6 (.cells [Value.int .i64 stop].toArray 3 (0, 0)) :: Dfr r1 :: Dfr r0 :: F) (fun w hw => SPI.holds hw) ?_
      refine l_call rfl Try.call20 rfl (within_ok _ _ sb m room (by omega) (by omega) xs kv hS hV hlr wa wc hwa other) ?_; rintro _ _ ⟨y, lv, rfl, hS2, hV2, hl2, rfl⟩
      refine l_not rfl rfl ?_
      refine l_nil ?_
      refine g_cond_f rfl ?_
      refine g_skip ?_
      refine g_seq ?_
      refine g_region ?_
      refine l_alloc rfl Try.zeroValue3 rfl ?_; intro b19
      first | refine l_st Try.sizeOf3 rfl rfl rfl rfl ?_ | refine l_stw Try.sizeOf3 rfl rfl (by omega) ?_
      refine l_nil ?_
      refine g_seq ?_
      refine g_seq ?_
      refine g_region ?_
      refine l_move rfl rfl ?_
      refine l_nil ?_
      refine g_block ?_
      refine g_rangeR rfl Try.call38 rfl ?_
      rintro r2 l2 RC2 hRC2
      refine CallK.heap (F2 := RC2 .ready none :: Blk b19 (.cells [Value.int .i64 0].toArray 3 (0, 0)) :: Blk sb (.cells [Value.int .i64 room, .map (some m), .pointer (fstP (y) none), .pointer (lstP (y) none)].toArray 71 (0, 0)) :: Seg 75 none (y) none :: MapI m lv :: Blk bm (.cells [Value.pointer (some ⟨sb, 0, none⟩)].toArray 34 (0, 0)) :: Blk b9 (.cells [Value.pointer (some ⟨sb, 0, none⟩)].toArray 34 (0, 0)) :: Blk b8 (.cells [Value.bool false].toArray 4 (0, 0)) :: Blk b6 (.cells [Value.int .i64 stop].toArray 3 (0, 0)) :: Dfr r2 :: Dfr r1 :: Dfr r0 :: F) (CallK.mono (seq_s w0 F (fun x : Int => [RC2 .ready none, Blk b19 (.cells [Value.int .i64 x].toArray 3 (0, 0)), Blk sb (.cells [Value.int .i64 room, .map (some m), .pointer (fstP (y) none), .pointer (lstP (y) none)].toArray 71 (0, 0)), Seg 75 none (y) none, MapI m lv, Blk bm (.cells [Value.pointer (some ⟨sb, 0, none⟩)].toArray 34 (0, 0)), Blk b9 (.cells [Value.pointer (some ⟨sb, 0, none⟩)].toArray 34 (0, 0)), Blk b8 (.cells [Value.bool false].toArray 4 (0, 0)), Blk b6 (.cells [Value.int .i64 stop].toArray 3 (0, 0)), Dfr r2, Dfr r1, Dfr r0]) (fun i x => x = (i : Int)) (fun _ => False) l2 bm sb y hV2 (by omega) 0 rfl (fun w hw => by have h := hw.ok (Blk bm (.cells [Value.pointer (some ⟨sb, 0, none⟩)].toArray 34 (0, 0))) (by first | exact mem_getO 0 rfl | exact mem_getO 1 rfl | exact mem_getO 2 rfl | exact mem_getO 3 rfl | exact mem_getO 4 rfl | exact mem_getO 5 rfl | exact mem_getO 6 rfl | exact mem_getO 7 rfl | exact mem_getO 8 rfl | exact mem_getO 9 rfl | exact mem_getO 10 rfl | exact mem_getO 11 rfl | exact mem_getO 12 rfl | exact mem_getO 13 rfl | exact mem_getO 14 rfl | exact mem_getO 15 rfl | exact mem_getO 16 rfl | exact mem_getO 17 rfl); exact cell_of_has (c := [Value.pointer (some ⟨sb, 0, none⟩)]) (b := bm) (o := 0) h rfl) (fun w hw => by have h := hw.ok (Blk sb (.cells [Value.int .i64 room, .map (some m), .pointer (fstP (y) none), .pointer (lstP (y) none)].toArray 71 (0, 0))) (by first | exact mem_getO 0 rfl | exact mem_getO 1 rfl | exact mem_getO 2 rfl | exact mem_getO 3 rfl | exact mem_getO 4 rfl | exact mem_getO 5 rfl | exact mem_getO 6 rfl | exact mem_getO 7 rfl | exact mem_getO 8 rfl | exact mem_getO 9 rfl | exact mem_getO 10 rfl | exact mem_getO 11 rfl | exact mem_getO 12 rfl | exact mem_getO 13 rfl | exact mem_getO 14 rfl | exact mem_getO 15 rfl | exact mem_getO 16 rfl | exact mem_getO 17 rfl); exact cell_of_has (c := [Value.int .i64 room, .map (some m), .pointer (fstP (y) none), .pointer (lstP (y) none)]) (b := sb) (o := 2) h rfl) (fun j x l2 o v hd hv => by have h9 := drop_cons hd; exact seg_cell (T := 75) (l1 := y.take j) (x := x) (l2 := l2) (p := none) (n := none) (by rw [← h9.2.1]; first | exact mem_getO 0 rfl | exact mem_getO 1 rfl | exact mem_getO 2 rfl | exact mem_getO 3 rfl | exact mem_getO 4 rfl | exact mem_getO 5 rfl | exact mem_getO 6 rfl | exact mem_getO 7 rfl | exact mem_getO 8 rfl | exact mem_getO 9 rfl | exact mem_getO 10 rfl | exact mem_getO 11 rfl | exact mem_getO 12 rfl | exact mem_getO 13 rfl | exact mem_getO 14 rfl | exact mem_getO 15 rfl | exact mem_getO 16 rfl | exact mem_getO 17 rfl) hv) (fun i x T hi hx hT => ?_)) (fun en F2 hG => ?_)) (fun w hw => SPI.holds hw)
      · subst hx
        obtain ⟨hk1, hk2⟩ := key_at hS2 hi
        dsimp only [List.cons_append, List.nil_append]
        refine c_roundR hRC2 rfl rfl ?_
        dsimp only [putL]
        refine g_seq ?_
        refine g_region ?_
        refine l_assign rfl rfl ?_
        refine l_nil ?_
        refine g_region ?_
        refine l_assign rfl rfl ?_
        refine l_nil ?_
        refine g_beginR hRC2 ?_
        refine g_block ?_
        refine g_seq ?_
        refine g_region ?_
        refine l_ld rfl Try.isAgg34 rfl rfl ?_
        refine l_move rfl rfl ?_
        refine gl_heap (F' := Blk sb (.cells [Value.int .i64 room, .map (some m), .pointer (fstP (y) none), .pointer (lstP (y) none)].toArray 71 (0, 0)) :: Seg 75 none (y) none :: MapI m lv :: RC2 .busy none :: Blk b19 (.cells [Value.int .i64 (i : Int)].toArray 3 (0, 0)) :: Blk bm (.cells [Value.pointer (some ⟨sb, 0, none⟩)].toArray 34 (0, 0)) :: Blk b9 (.cells [Value.pointer (some ⟨sb, 0, none⟩)].toArray 34 (0, 0)) :: Blk b8 (.cells [Value.bool false].toArray 4 (0, 0)) :: Blk b6 (.cells [Value.int .i64 stop].toArray 3 (0, 0)) :: Dfr r2 :: Dfr r1 :: Dfr r0 :: T) (fun w hw => SPI.holds hw) ?_
        refine l_call rfl Try.call21 rfl (peek_any _ _ sb m room lv y hS2 hV2 ((y.map Nd.k).getD i 0)) ?_; rintro _ _ ⟨rfl, rfl⟩
        rw [hk1, hk2]
        refine l_move rfl rfl ?_
        refine l_extract rfl rfl rfl ?_
        refine l_extract rfl rfl rfl ?_
        refine l_assign rfl rfl ?_
        refine l_assign rfl rfl ?_
        refine l_nil ?_
        refine g_seq ?_
        refine g_seq ?_
        refine g_region ?_
        refine l_move rfl rfl ?_
        refine l_not rfl rfl ?_
        refine l_move rfl rfl ?_
        refine l_guard_yes rfl rfl ?_
        refine l_move rfl rfl ?_
        refine l_guard_yes rfl rfl ?_
        refine l_move rfl rfl ?_
        refine l_guard_yes rfl rfl ?_
        refine l_neq rfl rfl rfl ?_
        refine l_pick_f rfl rfl rfl ?_
        refine l_nil ?_
        refine g_cond rfl ?_ ?_
        · intro hbr
          have hbr := of_decide_eq_true hbr
          (exfalso; first | omega | (simp at hbr; done))
        intro hbr
        have hbr := of_decide_eq_false hbr
        refine g_skip ?_
        refine g_region ?_
        first | refine l_ld rfl Try.isAgg3 rfl rfl ?_ | refine l_ldw rfl Try.isAgg3 rfl (by omega) ?_
        first | refine l_add rfl rfl rfl (w_i64 (by omega) (by omega)) ?_ | refine l_addw rfl rfl rfl ?_
        first | refine l_st Try.sizeOf3 rfl rfl rfl rfl ?_ | refine l_stw Try.sizeOf3 rfl rfl (by omega) ?_
        refine l_nil ?_
        refine g_inBlock ?_
        refine g_roundE (p := none) (F := Blk b19 (.cells [Value.int .i64 ((i : Int) + 1)].toArray 3 (0, 0)) :: Blk sb (.cells [Value.int .i64 room, .map (some m), .pointer (fstP (y) none), .pointer (lstP (y) none)].toArray 71 (0, 0)) :: Seg 75 none (y) none :: MapI m lv :: Blk bm (.cells [Value.pointer (some ⟨sb, 0, none⟩)].toArray 34 (0, 0)) :: Blk b9 (.cells [Value.pointer (some ⟨sb, 0, none⟩)].toArray 34 (0, 0)) :: Blk b8 (.cells [Value.bool false].toArray 4 (0, 0)) :: Blk b6 (.cells [Value.int .i64 stop].toArray 3 (0, 0)) :: Dfr r2 :: Dfr r1 :: Dfr r0 :: T) hRC2 (fun w hw => SPI.holds hw) ?_
        exact ⟨_, rfl, true, rfl, fun _ => ⟨(i : Int) + 1, by omega, fun w hw => hw⟩, fun h => (by cases h)⟩
      obtain ⟨v9, F9, rfl, hR9, hF9⟩ := hG
      refine ⟨⟨_, rfl⟩, ?_⟩
      obtain ⟨x, hx, rfl⟩ := hR9.resolve_right (fun h => by obtain ⟨_, h, _⟩ := h; exact h)
      obtain rfl : x = (y.length : Int) := hx
      refine ⟨.ready, none, Blk b19 (.cells [Value.int .i64 (y.length : Int)].toArray 3 (0, 0)) :: Blk sb (.cells [Value.int .i64 room, .map (some m), .pointer (fstP (y) none), .pointer (lstP (y) none)].toArray 71 (0, 0)) :: Seg 75 none (y) none :: MapI m lv :: Blk bm (.cells [Value.pointer (some ⟨sb, 0, none⟩)].toArray 34 (0, 0)) :: Blk b9 (.cells [Value.pointer (some ⟨sb, 0, none⟩)].toArray 34 (0, 0)) :: Blk b8 (.cells [Value.bool false].toArray 4 (0, 0)) :: Blk b6 (.cells [Value.int .i64 stop].toArray 3 (0, 0)) :: Dfr r2 :: Dfr r1 :: Dfr r0 :: F, (by intro h; cases h), fun w hw => SPI.holds (show Holds w0 (RC2 .ready none :: Blk b19 (.cells [Value.int .i64 (y.length : Int)].toArray 3 (0, 0)) :: Blk sb (.cells [Value.int .i64 room, .map (some m), .pointer (fstP (y) none), .pointer (lstP (y) none)].toArray 71 (0, 0)) :: Seg 75 none (y) none :: MapI m lv :: Blk bm (.cells [Value.pointer (some ⟨sb, 0, none⟩)].toArray 34 (0, 0)) :: Blk b9 (.cells [Value.pointer (some ⟨sb, 0, none⟩)].toArray 34 (0, 0)) :: Blk b8 (.cells [Value.bool false].toArray 4 (0, 0)) :: Blk b6 (.cells [Value.int .i64 stop].toArray 3 (0, 0)) :: Dfr r2 :: Dfr r1 :: Dfr r0 :: F) w from hF9 w hw), ?_⟩
      dsimp only [jumpK]
      refine g_inBlock ?_
      refine g_seq ?_
      refine gp_start mo (by kernel_rfl) (by kernel_rfl) ?_
      first | refine gp_quiet 0 rfl rfl rfl rfl rfl rfl (q_ld Try.isAgg3 rfl rfl) ?_ | refine gp_quiet 0 rfl rfl rfl rfl rfl rfl (q_ldw Try.isAgg3 rfl (by omega)) ?_
      refine gp_quiet 1 rfl rfl rfl rfl rfl rfl (q_ld Try.isAgg34 rfl rfl) ?_
      refine gp_take (MapI m lv) ?_
      refine gp_take (Seg 75 none (y) none) ?_
      refine gp_take (Blk sb (.cells [Value.int .i64 room, .map (some m), .pointer (fstP (y) none), .pointer (lstP (y) none)].toArray 71 (0, 0))) ?_
      refine gp_effa 2 [1] [0] rfl rfl rfl rfl rfl rfl rfl (does_call Try.call19 rfl (len_ii _ _ sb m room lv y hS2)) ?_
      rintro _ _ ⟨rfl, rfl⟩
      refine ⟨?_, ?_⟩
      · first | refine .cons rfl rfl rfl rfl rfl (q_ld Try.isAgg3 rfl rfl) ?_ | refine .cons rfl rfl rfl rfl rfl (q_ldw Try.isAgg3 rfl (by omega)) ?_
        exact .nil
      refine gp_quiet 3 rfl rfl rfl rfl rfl rfl (q_eql rfl rfl) ?_
      refine gp_effa 4 [0, 3] [] rfl rfl rfl rfl rfl rfl rfl (does_st Try.sizeOf4 rfl rfl rfl rfl) ?_
      rintro _ _ ⟨rfl, rfl⟩
      refine ⟨?_, ?_⟩
      · exact .nil
      refine gp_end rfl rfl ?_
      refine g_heap (F' := Dfr r2 :: Dfr r1 :: Dfr r0 :: Blk b8 (.cells [Value.bool (decide ((y.length : Int) = (y.length : Int)))].toArray 4 (0, 0)) :: F) (fun w hw => SPI.holds hw) ?_
      refine g_ret_m (F := Blk b8 (.cells [Value.bool (decide ((y.length : Int) = (y.length : Int)))].toArray 4 (0, 0)) :: F) [r2, r1, r0] rfl Try.func5 (fun w hw => hw) rfl (.ci rfl Try.isAgg4 rfl .nil) ?_
      exact Gives.mki ⟨congrArg Value.bool (decide_eq_true rfl), rfl⟩
theorem walks_bad (w0 : World) (F : List Atom) (room : Int) (a : Option Addr) (n c : Nat) (stop other : Int) (hr : ¬ (1 ≤ room ∧ room ≤ 4096) ∨ 2147483647 < n) :
    CallK Try.prog 5 [.int .i64 room, .slice a n c, .int .i64 stop, .int .i64 other] w0 (F) (Gives w0 fun v F2 => v = .bool true ∧ F2 = F) := by
  refine c_enter Try.func5 rfl rfl rfl ?_
  refine g_seq ?_
  refine g_region ?_
  refine l_box rfl rfl rfl ?_; intro b6
  refine l_alloc rfl Try.zeroValue4 rfl ?_; intro b8
  refine l_nil ?_
  refine g_seq ?_
  refine g_seq ?_
  refine g_region ?_
  refine l_move rfl rfl ?_
  refine l_len rfl Try.underlying22 rfl ?_
  refine l_gtr rfl rfl rfl ?_
  refine l_nil ?_
  refine g_cond rfl ?_ ?_
  · intro hbr
    have hbr := of_decide_eq_true hbr
    refine g_seq ?_
    refine g_region ?_
    refine l_st Try.sizeOf4 rfl rfl rfl rfl ?_
    refine l_nil ?_
    refine g_ret Try.func5 rfl (.ci rfl Try.isAgg4 rfl .nil) ?_
    exact Gives.mki ⟨rfl, rfl⟩
  intro hbr
  have hbr := of_decide_eq_false hbr
  refine g_skip ?_
  refine g_seq ?_
  refine g_region ?_
  refine l_move rfl rfl ?_
  refine l_call rfl Try.call13 rfl (newbad_ii _ _ room (by omega)) ?_; rintro _ F9 ⟨rfl, hF9⟩; rw [hF9]; clear hF9 F9
  refine l_move rfl rfl ?_
  refine l_extract rfl rfl rfl ?_
  refine l_extract rfl rfl rfl ?_
  refine l_alloc rfl Try.zeroValue34 rfl ?_; intro b9
  refine l_st Try.sizeOf34 rfl rfl rfl rfl ?_
  refine l_assign rfl rfl ?_
  refine l_nil ?_
  refine g_seq ?_
  refine g_seq ?_
  refine g_region ?_
  refine l_move rfl rfl ?_
  refine l_neq rfl rfl rfl ?_
  refine l_move rfl rfl ?_
  refine l_split 34 rfl ?_ ?_
  · intro hbr
    have hbr := of_decide_eq_true hbr
    refine l_guard_no rfl rfl rfl ?_
    refine l_guard_no rfl rfl rfl ?_
    refine l_pick_t rfl rfl rfl ?_
    refine l_nil ?_
    refine g_cond_t rfl ?_
    refine g_seq ?_
    refine g_region ?_
    refine l_move rfl rfl ?_
    refine l_lss rfl rfl rfl ?_
    refine l_move rfl rfl ?_
    refine l_split 40 rfl ?_ ?_
    · intro hbr
      have hbr := of_decide_eq_true hbr
      refine l_guard_no rfl rfl rfl ?_
      refine l_guard_no rfl rfl rfl ?_
      refine l_pick_t rfl rfl rfl ?_
      refine l_move rfl rfl ?_
      refine l_guard_yes rfl rfl ?_
      refine l_call rfl Try.call9 rfl (awake_ok _ _) ?_; rintro _ F9 ⟨rfl, hF9⟩; rw [hF9]; clear hF9 F9
      refine l_pick_t rfl rfl rfl ?_
      refine l_st Try.sizeOf4 rfl rfl rfl rfl ?_
      refine l_nil ?_
      refine g_ret Try.func5 rfl (.ci rfl Try.isAgg4 rfl .nil) ?_
      exact Gives.mki ⟨rfl, rfl⟩
    intro hbr
    have hbr := of_decide_eq_false hbr
    refine l_guard_yes rfl rfl ?_
    refine l_move rfl rfl ?_
    refine l_guard_yes rfl rfl ?_
    refine l_gtr rfl rfl rfl ?_
    refine l_pick_f rfl rfl rfl ?_
    refine l_move rfl rfl ?_
    refine l_split 44 rfl ?_ ?_
    · intro hbr
      have hbr := of_decide_eq_true hbr
      refine l_guard_yes rfl rfl ?_
      refine l_call rfl Try.call9 rfl (awake_ok _ _) ?_; rintro _ F9 ⟨rfl, hF9⟩; rw [hF9]; clear hF9 F9
      refine l_pick_t rfl rfl rfl ?_
      refine l_st Try.sizeOf4 rfl rfl rfl rfl ?_
      refine l_nil ?_
      refine g_ret Try.func5 rfl (.ci rfl Try.isAgg4 rfl .nil) ?_
      exact Gives.mki ⟨rfl, rfl⟩
    · intro hbr
      have hbr := of_decide_eq_false hbr
      (exfalso; omega)
  · intro hbr
    have hbr := of_decide_eq_false hbr
    (exfalso; omega)
theorem ir_of3 {W : World} {kd : IntKind} {a : Option Addr} {n c : Nat} {X : List Int} (hl : X.length = n) (hx : (n = 0 ∧ (a = none → c = 0)) ∨ ∃ b o, a = some ⟨b, o, none⟩ ∧ ∀ (j : Nat) u, (ints kd X)[j]? = some u → W.cell? ⟨b, o + j, none⟩ = some u) : IR W [Old W] kd a n X := by
  refine ⟨hl, ?_⟩
  rcases hx with ⟨h, _⟩ | ⟨b, o, h, hr⟩
  · exact .inl h
  · exact .inr ⟨b, o, h, RowAt.old (by simp) hr⟩
theorem walks_all (W : World) (room : Int) (a : Option Addr) (n c : Nat) (Y : List Int) (hI : IR W [Old W] .i64 a n Y) (stop other : Int) : CallK Try.prog 5 [.int .i64 room, .slice a n c, .int .i64 stop, .int .i64 other] W [Old W] (Gives W fun v F2 => v = .bool true ∧ F2 = [Old W]) := by
  by_cases h : (1 ≤ room ∧ room ≤ 4096) ∧ n ≤ 2147483647
  · exact walks_ok W [Old W] room h.1.1 h.1.2 a n c Y hI h.2 stop other
  · exact walks_bad W [Old W] room a n c stop other (by omega)
end Go.Proofs.Ytjfibfbknfeflaa.Fw
