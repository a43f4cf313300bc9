import Derived.Test.YtjfibfbknfeflaaSPair
namespace Go.Proofs.Ytjfibfbknfeflaa.Fw
open Go Go.Proofs
set_option linter.unusedVariables false
set_option linter.unusedSimpArgs false
set_option maxRecDepth 10000
theorem bd_48_0_1 (a0_0 : Int) (a1_0 : Int) (w : World) : (Instr.build 48 #[(0, .int .i64 a0_0), (1, .int .i64 a1_0)]).run Try.prog w = .ok (.agg #[.int .i64 a0_0, .int .i64 a1_0]) w := by kernel_rfl
theorem sq_48 (x0 : Int) (x1 : Int) (y0 : Int) (y1 : Int) (w : World) : (Op.equalIn 10000 48 (.agg #[.int .i64 x0, .int .i64 x1]) (.agg #[.int .i64 y0, .int .i64 y1])).run Try.prog w = .ok (decide (x0 = y0) && decide (x1 = y1)) w := by
  rw [run_equalIn_struct w 9999 48 _ _ (by simp [Program.fieldsOf, Try.underlying48]) Try.stoodInHeld48]
  have e0 := fun w => run_equalIn_int (P := Try.prog) w 9998 3 .i64 .i64 x0 y0 Try.underlying3
  have e1 := fun w => run_equalIn_int (P := Try.prog) w 9998 3 .i64 .i64 x1 y1 Try.underlying3
  simp [Program.fieldsOf, Try.underlying48, Op.eqFields, part, Try.isAgg3, e0, e1, Sem.run_bind, Sem.run_pure, Sem.run_ite]
  by_cases h0 : x0 = y0 <;> by_cases h1 : x1 = y1 <;> simp [*]
theorem sqn_48 (x0 : Int) (x1 : Int) (y0 : Int) (y1 : Int) (w : World) : (binOp .neq 48 (.agg #[.int .i64 x0, .int .i64 x1]) (.agg #[.int .i64 y0, .int .i64 y1])).run Try.prog w = .ok (.bool (!(decide (x0 = y0) && decide (x1 = y1)))) w := by
  rw [run_neq_struct, sq_48]; rfl
set_option maxHeartbeats 16000000 in
theorem apart_ok (w0 : World) (F : List Atom) (room : Int) (q1 : 1 ≤ room) (q2 : room ≤ 4096) (a1 : Option Addr) (n1 c1 : Nat) (Y1 : List Int) (hI1 : IR w0 F .i64 a1 n1 Y1) (hn1 : n1 ≤ 2147483647) (a2 : Option Addr) (n2 c2 : Nat) (Y2 : List Int) (hI2 : IR w0 F .i64 a2 n2 Y2) (hn2 : n2 ≤ 2147483647) :
    CallK Try.prog 7 [.int .i64 room, .slice a1 n1 c1, .slice a2 n2 c2] w0 (F) (Gives w0 fun v F2 => v = .bool true ∧ F2 = F) := by
  have hl1 := hI1.1
  have hl2 := hI2.1
  refine c_enter Try.func7 rfl rfl rfl ?_
  refine g_seq ?_
  refine g_region ?_
  refine l_alloc rfl Try.zeroValue4 rfl ?_; intro b6
  refine l_nil ?_
  refine g_seq ?_
  refine g_seq ?_
  refine g_region ?_
  refine l_move rfl rfl ?_
  refine l_len rfl Try.underlying22 rfl ?_
  refine l_gtr rfl rfl rfl ?_
  refine l_move rfl rfl ?_
  refine l_split 25 rfl ?_ ?_
  · intro hbr
    have hbr := of_decide_eq_true hbr
    (exfalso; first | omega | (simp at hbr; done))
  intro hbr
  have hbr := of_decide_eq_false hbr
  refine l_guard_yes rfl rfl ?_
  refine l_move rfl rfl ?_
  refine l_guard_yes rfl rfl ?_
  refine l_len rfl Try.underlying22 rfl ?_
  refine l_guard_yes rfl rfl ?_
  refine l_gtr rfl rfl rfl ?_
  refine l_pick_f rfl rfl rfl ?_
  refine l_nil ?_
  refine g_cond rfl ?_ ?_
  · intro hbr
    have hbr := of_decide_eq_true hbr
    (exfalso; first | omega | (simp at hbr; done))
  intro hbr
  have hbr := of_decide_eq_false hbr
  refine g_skip ?_
  refine g_seq ?_
  refine g_region ?_
  refine l_move rfl rfl ?_
  refine l_call rfl Try.call13 rfl (new_ii _ _ room (by omega) (by omega)) ?_; rintro _ _ ⟨sb1, m1, rfl, rfl⟩
  refine l_move rfl rfl ?_
  refine l_extract rfl rfl rfl ?_
  refine l_extract rfl rfl rfl ?_
  refine l_assign rfl rfl ?_
  refine l_assign rfl rfl ?_
  refine l_nil ?_
  refine g_seq ?_
  refine g_region ?_
  refine l_move rfl rfl ?_
  refine l_call rfl Try.call13 rfl (new_ii _ _ room (by omega) (by omega)) ?_; rintro _ _ ⟨sb2, m2, rfl, rfl⟩
  refine l_move rfl rfl ?_
  refine l_extract rfl rfl rfl ?_
  refine l_extract rfl rfl rfl ?_
  refine l_assign rfl rfl ?_
  refine l_assign rfl rfl ?_
  refine l_nil ?_
  refine g_seq ?_
  refine g_region ?_
  refine l_move rfl rfl ?_
  refine l_call rfl Try.call13 rfl (new_ii _ _ room (by omega) (by omega)) ?_; rintro _ _ ⟨sb3, m3, rfl, rfl⟩
  refine l_move rfl rfl ?_
  refine l_extract rfl rfl rfl ?_
  refine l_extract rfl rfl rfl ?_
  refine l_assign rfl rfl ?_
  refine l_assign rfl rfl ?_
  refine l_nil ?_
  refine g_seq ?_
  refine g_seq ?_
  refine g_region ?_
  refine l_move rfl rfl ?_
  refine l_neq rfl rfl rfl ?_
  refine l_move rfl rfl ?_
  refine l_split 47 rfl ?_ ?_
  · intro hbr
    have hbr := of_decide_eq_true hbr
    (exfalso; first | omega | (simp at hbr; done))
  intro hbr
  have hbr := of_decide_eq_false hbr
  refine l_guard_yes rfl rfl ?_
  refine l_move rfl rfl ?_
  refine l_guard_yes rfl rfl ?_
  refine l_neq rfl rfl rfl ?_
  refine l_pick_f rfl rfl rfl ?_
  refine l_move rfl rfl ?_
  refine l_split 51 rfl ?_ ?_
  · intro hbr
    have hbr := of_decide_eq_true hbr
    (exfalso; first | omega | (simp at hbr; done))
  intro hbr
  have hbr := of_decide_eq_false hbr
  refine l_guard_yes rfl rfl ?_
  refine l_move rfl rfl ?_
  refine l_guard_yes rfl rfl ?_
  refine l_neq rfl rfl rfl ?_
  refine l_pick_f rfl rfl rfl ?_
  refine l_move rfl rfl ?_
  refine l_split 55 rfl ?_ ?_
  · intro hbr
    have hbr := of_decide_eq_true hbr
    (exfalso; first | omega | (simp at hbr; done))
  intro hbr
  have hbr := of_decide_eq_false hbr
  refine l_guard_yes rfl rfl ?_
  refine l_move rfl rfl ?_
  refine l_guard_yes rfl rfl ?_
  refine l_eqpn rfl Try.underlying34 rfl rfl ?_
  refine l_pick_f rfl rfl rfl ?_
  refine l_move rfl rfl ?_
  refine l_guard_yes rfl rfl ?_
  refine l_move rfl rfl ?_
  refine l_guard_yes rfl rfl ?_
  refine l_eqpn rfl Try.underlying34 rfl rfl ?_
  refine l_pick_f rfl rfl rfl ?_
  refine l_move rfl rfl ?_
  refine l_guard_yes rfl rfl ?_
  refine l_move rfl rfl ?_
  refine l_guard_yes rfl rfl ?_
  refine l_eqpn rfl Try.underlying34 rfl rfl ?_
  refine l_pick_f rfl rfl rfl ?_
  refine l_nil ?_
  refine g_cond_f rfl ?_
  refine g_skip ?_
  refine g_seq ?_
  refine g_seq ?_
  refine g_region ?_
  refine l_assign rfl rfl ?_
  refine l_nil ?_
  refine g_block ?_
  refine g_loopk (X := Int × List Nd × List (Int × Value) × List Nd × List (Int × Value) × List Nd × List (Int × Value)) [(1, _), (2, _), (6, _), (7, _), (9, _), (11, _)] (.cons rfl (.cons rfl (.cons rfl (.cons rfl (.cons rfl (.cons rfl (.nil))))))) (fun z => (0 ≤ z.1 ∧ z.1 ≤ n1) ∧ ShOk z.2.2.1 z.2.1 ∧ VI z.2.1 ∧ ShOk z.2.2.2.2.1 z.2.2.2.1 ∧ VI z.2.2.2.1 ∧ ShOk z.2.2.2.2.2.2 z.2.2.2.2.2.1 ∧ VI z.2.2.2.2.2.1 ∧ pr z.2.1 = pr z.2.2.2.2.2.1 ∧ (z.2.1.length : Int) ≤ room) (fun z => ((n1 : Int) - z.1).toNat) (fun z => [(13, .int .i64 z.1)]) (fun z => Blk sb1 (.cells [Value.int .i64 room, .map (some m1), .pointer (fstP (z.2.1) none), .pointer (lstP (z.2.1) none)].toArray 71 (0, 0)) :: Seg 75 none (z.2.1) none :: MapI m1 z.2.2.1 :: Blk sb2 (.cells [Value.int .i64 room, .map (some m2), .pointer (fstP (z.2.2.2.1) none), .pointer (lstP (z.2.2.2.1) none)].toArray 71 (0, 0)) :: Seg 75 none (z.2.2.2.1) none :: MapI m2 z.2.2.2.2.1 :: Blk sb3 (.cells [Value.int .i64 room, .map (some m3), .pointer (fstP (z.2.2.2.2.2.1) none), .pointer (lstP (z.2.2.2.2.2.1) none)].toArray 71 (0, 0)) :: Seg 75 none (z.2.2.2.2.2.1) none :: MapI m3 z.2.2.2.2.2.2 :: Blk b6 (.cells [Value.bool false].toArray 4 (0, 0)) :: F) ((0, [], [], [], [], [], [])) (⟨⟨by simp only; omega, by simp only; omega⟩, ShOk.nil, (fun x hx => by cases hx), ShOk.nil, (fun x hx => by cases hx), ShOk.nil, (fun x hx => by cases hx), rfl, by simp only [List.length_nil]; omega⟩) (.cons rfl .nil) (fun w hw => (SPI.holds hw : Holds w0 (Blk sb1 (.cells [Value.int .i64 room, .map (some m1), .pointer (fstP ([]) none), .pointer (lstP ([]) none)].toArray 71 (0, 0)) :: Seg 75 none ([]) none :: MapI m1 [] :: Blk sb2 (.cells [Value.int .i64 room, .map (some m2), .pointer (fstP ([]) none), .pointer (lstP ([]) none)].toArray 71 (0, 0)) :: Seg 75 none ([]) none :: MapI m2 [] :: Blk sb3 (.cells [Value.int .i64 room, .map (some m3), .pointer (fstP ([]) none), .pointer (lstP ([]) none)].toArray 71 (0, 0)) :: Seg 75 none ([]) none :: MapI m3 [] :: Blk b6 (.cells [Value.bool false].toArray 4 (0, 0)) :: F) w)) ?_
  rintro ⟨i, xs1, kv1, xs2, kv2, xs3, kv3⟩ ⟨⟨i0, i1⟩, hS1, hV1, hS2, hV2, hS3, hV3, hPQ, hlr⟩ ih
  dsimp only [List.cons_append, List.nil_append] at ih ⊢
  simp only at i0 i1 hS1 hV1 hS2 hV2 hS3 hV3 hPQ hlr
  refine g_seq ?_
  refine g_seq ?_
  refine g_region ?_
  refine l_move rfl rfl ?_
  refine l_move rfl rfl ?_
  refine l_len rfl Try.underlying22 rfl ?_
  refine l_lss rfl rfl rfl ?_
  refine l_nil ?_
  refine g_cond rfl ?_ ?_
  · intro hbr
    have hbr := of_decide_eq_true hbr
    refine g_skip ?_
    refine g_seq ?_
    refine g_block ?_
    refine g_seq ?_
    refine g_region ?_
    refine l_move rfl rfl ?_
    refine l_move rfl rfl ?_
    refine l_move rfl rfl ?_
    obtain ⟨b9, o9, rfl, hr9⟩ := hI1.some (i := i.toNat) (by omega)
    refine l_ixs rfl Try.underlying22 Try.sizeOf3 rfl rfl (by omega) (by omega) ?_
    refine l_loadc rfl Try.isAgg3 rfl (word_any hr9 (by omega)) ?_
    refine l_move rfl rfl ?_
    refine gl_heap (F' := Blk sb1 (.cells [Value.int .i64 room, .map (some m1), .pointer (fstP (xs1) none), .pointer (lstP (xs1) none)].toArray 71 (0, 0)) :: Seg 75 none (xs1) none :: MapI m1 kv1 :: Blk sb2 (.cells [Value.int .i64 room, .map (some m2), .pointer (fstP (xs2) none), .pointer (lstP (xs2) none)].toArray 71 (0, 0)) :: Seg 75 none (xs2) none :: MapI m2 kv2 :: Blk sb3 (.cells [Value.int .i64 room, .map (some m3), .pointer (fstP (xs3) none), .pointer (lstP (xs3) none)].toArray 71 (0, 0)) :: Seg 75 none (xs3) none :: MapI m3 kv3 :: Blk b6 (.cells [Value.bool false].toArray 4 (0, 0)) :: F) (fun w hw => SPI.holds hw) ?_
    refine l_call rfl Try.call17 rfl (put_any _ _ sb1 m1 room kv1 xs1 hS1 hV1 (Y1.getD i.toNat 0) (by omega) i) ?_; rintro _ _ ⟨r9, g9, y1, lv1, rfl, hS1, hV1, hQ1, rfl⟩
    refine l_nil ?_
    refine g_seq ?_
    refine g_region ?_
    refine l_move rfl rfl ?_
    refine l_move rfl rfl ?_
    refine l_move rfl rfl ?_
    refine l_ixs rfl Try.underlying22 Try.sizeOf3 rfl rfl (by omega) (by omega) ?_
    refine l_loadc rfl Try.isAgg3 rfl (word_any hr9 (by omega)) ?_
    refine l_move rfl rfl ?_
    refine gl_heap (F' := Blk sb3 (.cells [Value.int .i64 room, .map (some m3), .pointer (fstP (xs3) none), .pointer (lstP (xs3) none)].toArray 71 (0, 0)) :: Seg 75 none (xs3) none :: MapI m3 kv3 :: Blk sb1 (.cells [Value.int .i64 room, .map (some m1), .pointer (fstP (y1) none), .pointer (lstP (y1) none)].toArray 71 (0, 0)) :: Seg 75 none (y1) none :: MapI m1 lv1 :: Blk sb2 (.cells [Value.int .i64 room, .map (some m2), .pointer (fstP (xs2) none), .pointer (lstP (xs2) none)].toArray 71 (0, 0)) :: Seg 75 none (xs2) none :: MapI m2 kv2 :: Blk b6 (.cells [Value.bool false].toArray 4 (0, 0)) :: F) (fun w hw => SPI.holds hw) ?_
    refine l_call rfl Try.call17 rfl (put_any _ _ sb3 m3 room kv3 xs3 hS3 hV3 (Y1.getD i.toNat 0) (by omega) i) ?_; rintro _ _ ⟨r9, g9, y3, lv3, rfl, hS3, hV3, hQ3, rfl⟩
    refine l_nil ?_
    refine g_seq ?_
    refine g_region ?_
    refine l_move rfl rfl ?_
    refine l_move rfl rfl ?_
    refine l_len rfl Try.underlying22 rfl ?_
    refine l_lss rfl rfl rfl ?_
    refine l_nil ?_
    refine g_cond rfl ?_ ?_
    · intro hbr
      have hbr := of_decide_eq_true hbr
      refine g_seq ?_
      refine g_region ?_
      refine l_move rfl rfl ?_
      refine l_move rfl rfl ?_
      refine l_move rfl rfl ?_
      obtain ⟨b8, o8, rfl, hr8⟩ := hI2.some (i := i.toNat) (by omega)
      refine l_ixs rfl Try.underlying22 Try.sizeOf3 rfl rfl (by omega) (by omega) ?_
      refine l_loadc rfl Try.isAgg3 rfl (word_any hr8 (by omega)) ?_
      refine l_move rfl rfl ?_
      refine l_neg rfl rfl (w_i64 (by omega) (by omega)) ?_
      refine gl_heap (F' := Blk sb2 (.cells [Value.int .i64 room, .map (some m2), .pointer (fstP (xs2) none), .pointer (lstP (xs2) none)].toArray 71 (0, 0)) :: Seg 75 none (xs2) none :: MapI m2 kv2 :: Blk sb1 (.cells [Value.int .i64 room, .map (some m1), .pointer (fstP (y1) none), .pointer (lstP (y1) none)].toArray 71 (0, 0)) :: Seg 75 none (y1) none :: MapI m1 lv1 :: Blk sb3 (.cells [Value.int .i64 room, .map (some m3), .pointer (fstP (y3) none), .pointer (lstP (y3) none)].toArray 71 (0, 0)) :: Seg 75 none (y3) none :: MapI m3 lv3 :: Blk b6 (.cells [Value.bool false].toArray 4 (0, 0)) :: F) (fun w hw => SPI.holds hw) ?_
      refine l_call rfl Try.call17 rfl (put_any _ _ sb2 m2 room kv2 xs2 hS2 hV2 (Y2.getD i.toNat 0) (by omega) (-i)) ?_; rintro _ _ ⟨r9, g9, z2, lz2, rfl, hS2, hV2, hQ2, rfl⟩
      refine l_nil ?_
      refine g_seq ?_
      refine g_region ?_
      refine l_move rfl rfl ?_
      refine l_move rfl rfl ?_
      refine l_move rfl rfl ?_
      refine l_ixs rfl Try.underlying22 Try.sizeOf3 rfl rfl (by omega) (by omega) ?_
      refine l_loadc rfl Try.isAgg3 rfl (word_any hr9 (by omega)) ?_
      refine gl_heap (F' := Blk sb2 (.cells [Value.int .i64 room, .map (some m2), .pointer (fstP (z2) none), .pointer (lstP (z2) none)].toArray 71 (0, 0)) :: Seg 75 none (z2) none :: MapI m2 lz2 :: Blk sb1 (.cells [Value.int .i64 room, .map (some m1), .pointer (fstP (y1) none), .pointer (lstP (y1) none)].toArray 71 (0, 0)) :: Seg 75 none (y1) none :: MapI m1 lv1 :: Blk sb3 (.cells [Value.int .i64 room, .map (some m3), .pointer (fstP (y3) none), .pointer (lstP (y3) none)].toArray 71 (0, 0)) :: Seg 75 none (y3) none :: MapI m3 lv3 :: Blk b6 (.cells [Value.bool false].toArray 4 (0, 0)) :: F) (fun w hw => SPI.holds hw) ?_
      refine l_call rfl Try.call30 rfl (drop_any _ _ sb2 m2 room lz2 z2 hS2 hV2 (Y1.getD i.toNat 0)) ?_; rintro _ _ ⟨y2, lv2, rfl, hS2, hV2, hQ4, rfl⟩
      refine l_nil ?_
      refine g_seq ?_
      refine g_region ?_
      refine l_move rfl rfl ?_
      refine l_move rfl rfl ?_
      refine l_move rfl rfl ?_
      refine l_ixs rfl Try.underlying22 Try.sizeOf3 rfl rfl (by omega) (by omega) ?_
      refine l_loadc rfl Try.isAgg3 rfl (word_any hr8 (by omega)) ?_
      refine gl_heap (F' := Blk sb1 (.cells [Value.int .i64 room, .map (some m1), .pointer (fstP (y1) none), .pointer (lstP (y1) none)].toArray 71 (0, 0)) :: Seg 75 none (y1) none :: MapI m1 lv1 :: Blk sb2 (.cells [Value.int .i64 room, .map (some m2), .pointer (fstP (y2) none), .pointer (lstP (y2) none)].toArray 71 (0, 0)) :: Seg 75 none (y2) none :: MapI m2 lv2 :: Blk sb3 (.cells [Value.int .i64 room, .map (some m3), .pointer (fstP (y3) none), .pointer (lstP (y3) none)].toArray 71 (0, 0)) :: Seg 75 none (y3) none :: MapI m3 lv3 :: Blk b6 (.cells [Value.bool false].toArray 4 (0, 0)) :: F) (fun w hw => SPI.holds hw) ?_
      refine l_call rfl Try.call21 rfl (peek_any _ _ sb1 m1 room lv1 y1 hS1 hV1 (Y2.getD i.toNat 0)) ?_; rintro _ _ ⟨rfl, rfl⟩
      refine l_nil ?_
      refine g_seq ?_
      refine g_region ?_
      refine l_move rfl rfl ?_
      refine gl_heap (F' := Blk sb1 (.cells [Value.int .i64 room, .map (some m1), .pointer (fstP (y1) none), .pointer (lstP (y1) none)].toArray 71 (0, 0)) :: Seg 75 none (y1) none :: MapI m1 lv1 :: Blk sb2 (.cells [Value.int .i64 room, .map (some m2), .pointer (fstP (y2) none), .pointer (lstP (y2) none)].toArray 71 (0, 0)) :: Seg 75 none (y2) none :: MapI m2 lv2 :: Blk sb3 (.cells [Value.int .i64 room, .map (some m3), .pointer (fstP (y3) none), .pointer (lstP (y3) none)].toArray 71 (0, 0)) :: Seg 75 none (y3) none :: MapI m3 lv3 :: Blk b6 (.cells [Value.bool false].toArray 4 (0, 0)) :: F) (fun w hw => SPI.holds hw) ?_
      refine l_call rfl Try.call19 rfl (len_ii _ _ sb1 m1 room lv1 y1 hS1) ?_; rintro _ _ ⟨rfl, rfl⟩
      refine l_nil ?_
      refine g_region ?_
      refine l_move rfl rfl ?_
      refine l_call rfl Try.call31 rfl (room_ok _ _ sb1 m1 room lv1 y1) ?_; rintro _ _ ⟨rfl, rfl⟩
      refine l_nil ?_
      refine g_inBlock ?_
      refine g_region ?_
      refine l_move rfl rfl ?_
      first | refine l_add rfl rfl rfl (w_i64 (by omega) (by omega)) ?_ | refine l_addw rfl rfl rfl ?_
      refine l_assign rfl rfl ?_
      refine l_nil ?_
      (first | exact g_againi (ih (i + 1, y1, lv1, y2, lv2, y3, lv3) ⟨⟨by simp only; omega, by simp only; omega⟩, hS1, hV1, hS2, hV2, hS3, hV3, by simp only; rw [hQ1, hQ3, hPQ], put_len (by omega) hlr hQ1⟩ (by simp only; omega)) (.cons rfl (.cons rfl (.cons rfl (.cons rfl (.cons rfl (.cons rfl (.cons rfl (.nil)))))))) | exact g_againi (ih (i + 1, y1, lv1, xs2, kv2, y3, lv3) ⟨⟨by simp only; omega, by simp only; omega⟩, hS1, hV1, hS2, hV2, hS3, hV3, by simp only; rw [hQ1, hQ3, hPQ], put_len (by omega) hlr hQ1⟩ (by simp only; omega)) (.cons rfl (.cons rfl (.cons rfl (.cons rfl (.cons rfl (.cons rfl (.cons rfl (.nil)))))))))
    intro hbr
    have hbr := of_decide_eq_false hbr
    refine g_skip ?_
    refine g_inBlock ?_
    refine g_region ?_
    refine l_move rfl rfl ?_
    first | refine l_add rfl rfl rfl (w_i64 (by omega) (by omega)) ?_ | refine l_addw rfl rfl rfl ?_
    refine l_assign rfl rfl ?_
    refine l_nil ?_
    (first | exact g_againi (ih (i + 1, y1, lv1, y2, lv2, y3, lv3) ⟨⟨by simp only; omega, by simp only; omega⟩, hS1, hV1, hS2, hV2, hS3, hV3, by simp only; rw [hQ1, hQ3, hPQ], put_len (by omega) hlr hQ1⟩ (by simp only; omega)) (.cons rfl (.cons rfl (.cons rfl (.cons rfl (.cons rfl (.cons rfl (.cons rfl (.nil)))))))) | exact g_againi (ih (i + 1, y1, lv1, xs2, kv2, y3, lv3) ⟨⟨by simp only; omega, by simp only; omega⟩, hS1, hV1, hS2, hV2, hS3, hV3, by simp only; rw [hQ1, hQ3, hPQ], put_len (by omega) hlr hQ1⟩ (by simp only; omega)) (.cons rfl (.cons rfl (.cons rfl (.cons rfl (.cons rfl (.cons rfl (.cons rfl (.nil)))))))))
  intro hbr
  have hbr := of_decide_eq_false hbr
  refine g_exit rfl ?_
  have hlen : xs1.length = xs3.length := by have := congrArg List.length hPQ; rwa [pr_len, pr_len] at this
  refine g_seq ?_
  refine g_region ?_
  refine l_move rfl rfl ?_
  refine gl_heap (F' := Blk sb2 (.cells [Value.int .i64 room, .map (some m2), .pointer (fstP (xs2) none), .pointer (lstP (xs2) none)].toArray 71 (0, 0)) :: Seg 75 none (xs2) none :: MapI m2 kv2 :: Blk sb1 (.cells [Value.int .i64 room, .map (some m1), .pointer (fstP (xs1) none), .pointer (lstP (xs1) none)].toArray 71 (0, 0)) :: Seg 75 none (xs1) none :: MapI m1 kv1 :: Blk sb3 (.cells [Value.int .i64 room, .map (some m3), .pointer (fstP (xs3) none), .pointer (lstP (xs3) none)].toArray 71 (0, 0)) :: Seg 75 none (xs3) none :: MapI m3 kv3 :: Blk b6 (.cells [Value.bool false].toArray 4 (0, 0)) :: F) (fun w hw => SPI.holds hw) ?_
  refine l_call rfl Try.call32 rfl (clear_ok _ _ sb2 m2 room kv2 xs2 hS2) ?_; rintro _ _ rfl
  refine l_nil ?_
  refine g_seq ?_
  refine g_seq ?_
  refine g_region ?_
  refine l_move rfl rfl ?_
  refine gl_heap (F' := Blk sb1 (.cells [Value.int .i64 room, .map (some m1), .pointer (fstP (xs1) none), .pointer (lstP (xs1) none)].toArray 71 (0, 0)) :: Seg 75 none (xs1) none :: MapI m1 kv1 :: Blk sb2 (.cells [Value.int .i64 room, .map (some m2), .pointer (fstP ([]) none), .pointer (lstP ([]) none)].toArray 71 (0, 0)) :: Seg 75 none ([]) none :: MapI m2 [] :: Blk sb3 (.cells [Value.int .i64 room, .map (some m3), .pointer (fstP (xs3) none), .pointer (lstP (xs3) none)].toArray 71 (0, 0)) :: Seg 75 none (xs3) none :: MapI m3 kv3 :: Blk b6 (.cells [Value.bool false].toArray 4 (0, 0)) :: F) (fun w hw => SPI.holds hw) ?_
  refine l_call rfl Try.call19 rfl (len_ii _ _ sb1 m1 room kv1 xs1 hS1) ?_; rintro _ _ ⟨rfl, rfl⟩
  refine l_move rfl rfl ?_
  refine gl_heap (F' := Blk sb3 (.cells [Value.int .i64 room, .map (some m3), .pointer (fstP (xs3) none), .pointer (lstP (xs3) none)].toArray 71 (0, 0)) :: Seg 75 none (xs3) none :: MapI m3 kv3 :: Blk sb1 (.cells [Value.int .i64 room, .map (some m1), .pointer (fstP (xs1) none), .pointer (lstP (xs1) none)].toArray 71 (0, 0)) :: Seg 75 none (xs1) none :: MapI m1 kv1 :: Blk sb2 (.cells [Value.int .i64 room, .map (some m2), .pointer (fstP ([]) none), .pointer (lstP ([]) none)].toArray 71 (0, 0)) :: Seg 75 none ([]) none :: MapI m2 [] :: Blk b6 (.cells [Value.bool false].toArray 4 (0, 0)) :: F) (fun w hw => SPI.holds hw) ?_
  refine l_call rfl Try.call19 rfl (len_ii _ _ sb3 m3 room kv3 xs3 hS3) ?_; rintro _ _ ⟨rfl, rfl⟩
  refine l_neq rfl rfl rfl ?_
  refine l_move rfl rfl ?_
  refine l_split 131 rfl ?_ ?_
  · intro hbr
    have hbr := of_decide_eq_true hbr
    (exfalso; first | omega | (simp at hbr; done))
  intro hbr
  have hbr := of_decide_eq_false hbr
  refine l_guard_yes rfl rfl ?_
  refine l_move rfl rfl ?_
  refine l_guard_yes rfl rfl ?_
  refine gl_heap (F' := Blk sb2 (.cells [Value.int .i64 room, .map (some m2), .pointer (fstP ([]) none), .pointer (lstP ([]) none)].toArray 71 (0, 0)) :: Seg 75 none ([]) none :: MapI m2 [] :: Blk sb1 (.cells [Value.int .i64 room, .map (some m1), .pointer (fstP (xs1) none), .pointer (lstP (xs1) none)].toArray 71 (0, 0)) :: Seg 75 none (xs1) none :: MapI m1 kv1 :: Blk sb3 (.cells [Value.int .i64 room, .map (some m3), .pointer (fstP (xs3) none), .pointer (lstP (xs3) none)].toArray 71 (0, 0)) :: Seg 75 none (xs3) none :: MapI m3 kv3 :: Blk b6 (.cells [Value.bool false].toArray 4 (0, 0)) :: F) (fun w hw => SPI.holds hw) ?_
  refine l_call rfl Try.call19 rfl (len_ii _ _ sb2 m2 room [] [] ShOk.nil) ?_; rintro _ _ ⟨rfl, rfl⟩
  refine l_guard_yes rfl rfl ?_
  refine l_neq rfl rfl rfl ?_
  refine l_pick_f rfl rfl rfl ?_
  refine l_nil ?_
  refine g_cond rfl ?_ ?_
  · intro hbr
    have hbr := of_decide_eq_true hbr
    (exfalso; first | omega | (simp at hbr; done))
  intro hbr
  have hbr := of_decide_eq_false hbr
  refine g_skip ?_
  refine g_seq ?_
  refine g_region ?_
  refine l_move rfl rfl ?_
  refine l_call rfl Try.call18 rfl (all_ii _ _ _) ?_; rintro _ _ ⟨bmu, rfl, rfl⟩
  refine l_assign rfl rfl ?_
  refine l_nil ?_
  refine g_seq ?_
  refine g_region ?_
  refine l_move rfl rfl ?_
  refine l_call rfl Try.call18 rfl (all_ii _ _ _) ?_; rintro _ _ ⟨bms, rfl, rfl⟩
  refine l_assign rfl rfl ?_
  refine l_nil ?_
  refine g_seq ?_
  refine g_seq ?_
  refine g_region ?_
  refine l_move rfl rfl ?_
  refine l_eqfn rfl Try.underlying42 rfl rfl ?_
  refine l_move rfl rfl ?_
  refine l_guard_yes rfl rfl ?_
  refine l_move rfl rfl ?_
  refine l_guard_yes rfl rfl ?_
  refine l_eqfn rfl Try.underlying42 rfl rfl ?_
  refine l_pick_f rfl rfl rfl ?_
  refine l_nil ?_
  refine g_cond_f rfl ?_
  refine g_skip ?_
  refine g_seq ?_
  refine g_region ?_
  refine l_alloc rfl Try.zeroValue46 rfl ?_; intro b16
  refine l_nil ?_
  refine g_seq ?_
  refine g_seq ?_
  refine g_region ?_
  refine l_own_nil 48 2 ?_
  refine l_move rfl rfl ?_
  refine l_nil ?_
  refine g_block ?_
  refine g_rangeR rfl Try.call38 rfl ?_
  rintro r0 l0 RC0 hRC0
  refine CallK.heap (F2 := RC0 .ready none :: Own 48 2 (Value.slice none 0 0) 0 [] :: Blk b16 (.cells [(Value.slice none 0 0)].toArray 46 (0, 0)) :: Blk sb1 (.cells [Value.int .i64 room, .map (some m1), .pointer (fstP (xs1) none), .pointer (lstP (xs1) none)].toArray 71 (0, 0)) :: Seg 75 none (xs1) none :: MapI m1 kv1 :: Blk sb2 (.cells [Value.int .i64 room, .map (some m2), .pointer (fstP ([]) none), .pointer (lstP ([]) none)].toArray 71 (0, 0)) :: Seg 75 none ([]) none :: MapI m2 [] :: Blk sb3 (.cells [Value.int .i64 room, .map (some m3), .pointer (fstP (xs3) none), .pointer (lstP (xs3) none)].toArray 71 (0, 0)) :: Seg 75 none (xs3) none :: MapI m3 kv3 :: Blk bms (.cells [Value.pointer (some ⟨sb1, 0, none⟩)].toArray 34 (0, 0)) :: Blk bmu (.cells [Value.pointer (some ⟨sb3, 0, none⟩)].toArray 34 (0, 0)) :: Blk b6 (.cells [Value.bool false].toArray 4 (0, 0)) :: Dfr r0 :: F) (CallK.mono (seq_s w0 F (fun x : Nat × Value => [RC0 .ready none, Own 48 2 x.2 x.1 (prW ((pr xs3).take x.1)), Blk b16 (.cells [x.2].toArray 46 (0, 0)), Blk sb1 (.cells [Value.int .i64 room, .map (some m1), .pointer (fstP (xs1) none), .pointer (lstP (xs1) none)].toArray 71 (0, 0)), Seg 75 none (xs1) none, MapI m1 kv1, Blk sb2 (.cells [Value.int .i64 room, .map (some m2), .pointer (fstP ([]) none), .pointer (lstP ([]) none)].toArray 71 (0, 0)), Seg 75 none ([]) none, MapI m2 [], Blk sb3 (.cells [Value.int .i64 room, .map (some m3), .pointer (fstP (xs3) none), .pointer (lstP (xs3) none)].toArray 71 (0, 0)), Seg 75 none (xs3) none, MapI m3 kv3, Blk bms (.cells [Value.pointer (some ⟨sb1, 0, none⟩)].toArray 34 (0, 0)), Blk bmu (.cells [Value.pointer (some ⟨sb3, 0, none⟩)].toArray 34 (0, 0)), Blk b6 (.cells [Value.bool false].toArray 4 (0, 0)), Dfr r0]) (fun i x => x.1 = i) (fun _ => False) l0 bmu sb3 xs3 hV3 (by omega) (0, .slice none 0 0) rfl (fun w hw => by have h := hw.ok (Blk bmu (.cells [Value.pointer (some ⟨sb3, 0, none⟩)].toArray 34 (0, 0))) (by first | exact mem_getO 0 rfl | exact mem_getO 1 rfl | exact mem_getO 2 rfl | exact mem_getO 3 rfl | exact mem_getO 4 rfl | exact mem_getO 5 rfl | exact mem_getO 6 rfl | exact mem_getO 7 rfl | exact mem_getO 8 rfl | exact mem_getO 9 rfl | exact mem_getO 10 rfl | exact mem_getO 11 rfl | exact mem_getO 12 rfl | exact mem_getO 13 rfl | exact mem_getO 14 rfl | exact mem_getO 15 rfl); exact cell_of_has (c := [Value.pointer (some ⟨sb3, 0, none⟩)]) (b := bmu) (o := 0) h rfl) (fun w hw => by have h := hw.ok (Blk sb3 (.cells [Value.int .i64 room, .map (some m3), .pointer (fstP (xs3) none), .pointer (lstP (xs3) none)].toArray 71 (0, 0))) (by first | exact mem_getO 0 rfl | exact mem_getO 1 rfl | exact mem_getO 2 rfl | exact mem_getO 3 rfl | exact mem_getO 4 rfl | exact mem_getO 5 rfl | exact mem_getO 6 rfl | exact mem_getO 7 rfl | exact mem_getO 8 rfl | exact mem_getO 9 rfl | exact mem_getO 10 rfl | exact mem_getO 11 rfl | exact mem_getO 12 rfl | exact mem_getO 13 rfl | exact mem_getO 14 rfl | exact mem_getO 15 rfl); exact cell_of_has (c := [Value.int .i64 room, .map (some m3), .pointer (fstP (xs3) none), .pointer (lstP (xs3) none)]) (b := sb3) (o := 2) h rfl) (fun j x l2 o v hd hv => by have h9 := drop_cons hd; exact seg_cell (T := 75) (l1 := xs3.take j) (x := x) (l2 := l2) (p := none) (n := none) (by rw [← h9.2.1]; first | exact mem_getO 0 rfl | exact mem_getO 1 rfl | exact mem_getO 2 rfl | exact mem_getO 3 rfl | exact mem_getO 4 rfl | exact mem_getO 5 rfl | exact mem_getO 6 rfl | exact mem_getO 7 rfl | exact mem_getO 8 rfl | exact mem_getO 9 rfl | exact mem_getO 10 rfl | exact mem_getO 11 rfl | exact mem_getO 12 rfl | exact mem_getO 13 rfl | exact mem_getO 14 rfl | exact mem_getO 15 rfl) hv) (fun i x T hi hx hT => ?_)) (fun en F2 hG => ?_)) (fun w hw => SPI.holds hw)
  · obtain ⟨i9, v⟩ := x
    obtain rfl : i9 = i := hx
    dsimp only [List.cons_append, List.nil_append]
    refine c_roundR hRC0 rfl rfl ?_
    dsimp only [putL]
    refine g_seq ?_
    refine g_region ?_
    refine l_assign rfl rfl ?_
    refine l_nil ?_
    refine g_region ?_
    refine l_assign rfl rfl ?_
    refine l_nil ?_
    refine g_beginR hRC0 ?_
    refine g_block ?_
    refine g_region ?_
    refine l_ld rfl Try.isAgg46 rfl rfl ?_
    refine l_move rfl rfl ?_
    refine l_move rfl rfl ?_
    refine l_build rfl rfl (fun w => bd_48_0_1 _ _ w) ?_
    refine l_buildSlice rfl Try.underlying46 Try.sizeOf48 Try.zeroValue48 rfl rfl rfl rfl rfl rfl ?_; intro b153
    refine l_frontv v ?_
    refine l_append 0 (sz := 2) (by_ := 16) (m2 := 1) (news := [.int .i64 ((xs3.map Nd.k).getD i9 0), .int .i64 ((xs3.map fun x => vint x.v).getD i9 0)]) rfl Try.underlying46 Try.type48 rfl rfl rfl rfl rfl rfl rfl rfl ⟨rfl, .inl ⟨_, _, _, rfl, .own (mem_getO 1 rfl)⟩⟩ rfl (by omega) (by simp only [maxLen]; omega) (fun _ => rfl) ?_; intro v154 hv154
    rw [prW_step hi]
    refine l_fact (own_cases (mem_getO 0 rfl)) ?_
    rintro ⟨_, _, hv⟩
    obtain ⟨a154, c154, rfl, _⟩ := own_shape hv
    clear hv
    refine l_st Try.sizeOf46 rfl rfl rfl rfl ?_
    refine l_nil ?_
    refine g_inBlock ?_
    refine g_roundE (p := none) (F := Own 48 2 (Value.slice a154 (i9 + 1) c154) (i9 + 1) (prW ((pr xs3).take (i9 + 1))) :: Blk b16 (.cells [(Value.slice a154 (i9 + 1) c154)].toArray 46 (0, 0)) :: Blk sb1 (.cells [Value.int .i64 room, .map (some m1), .pointer (fstP (xs1) none), .pointer (lstP (xs1) none)].toArray 71 (0, 0)) :: Seg 75 none (xs1) none :: MapI m1 kv1 :: Blk sb2 (.cells [Value.int .i64 room, .map (some m2), .pointer (fstP ([]) none), .pointer (lstP ([]) none)].toArray 71 (0, 0)) :: Seg 75 none ([]) none :: MapI m2 [] :: Blk sb3 (.cells [Value.int .i64 room, .map (some m3), .pointer (fstP (xs3) none), .pointer (lstP (xs3) none)].toArray 71 (0, 0)) :: Seg 75 none (xs3) none :: MapI m3 kv3 :: Blk bms (.cells [Value.pointer (some ⟨sb1, 0, none⟩)].toArray 34 (0, 0)) :: Blk bmu (.cells [Value.pointer (some ⟨sb3, 0, none⟩)].toArray 34 (0, 0)) :: Blk b6 (.cells [Value.bool false].toArray 4 (0, 0)) :: Dfr r0 :: T) hRC0 (fun w hw => SPI.holds hw) ?_
    exact ⟨_, rfl, true, rfl, fun _ => ⟨(i9 + 1, .slice a154 (i9 + 1) c154), rfl, fun w hw => hw⟩, fun h => (by cases h)⟩
  obtain ⟨v9, F9, rfl, hR9, hF9⟩ := hG
  refine ⟨⟨_, rfl⟩, ?_⟩
  obtain ⟨⟨n9, v⟩, hx, rfl⟩ := hR9.resolve_right (fun h => by obtain ⟨_, h, _⟩ := h; exact h)
  obtain rfl : n9 = xs3.length := hx
  refine ⟨.ready, none, Own 48 2 v xs3.length (prW ((pr xs3).take xs3.length)) :: Blk b16 (.cells [v].toArray 46 (0, 0)) :: Blk sb1 (.cells [Value.int .i64 room, .map (some m1), .pointer (fstP (xs1) none), .pointer (lstP (xs1) none)].toArray 71 (0, 0)) :: Seg 75 none (xs1) none :: MapI m1 kv1 :: Blk sb2 (.cells [Value.int .i64 room, .map (some m2), .pointer (fstP ([]) none), .pointer (lstP ([]) none)].toArray 71 (0, 0)) :: Seg 75 none ([]) none :: MapI m2 [] :: Blk sb3 (.cells [Value.int .i64 room, .map (some m3), .pointer (fstP (xs3) none), .pointer (lstP (xs3) none)].toArray 71 (0, 0)) :: Seg 75 none (xs3) none :: MapI m3 kv3 :: Blk bms (.cells [Value.pointer (some ⟨sb1, 0, none⟩)].toArray 34 (0, 0)) :: Blk bmu (.cells [Value.pointer (some ⟨sb3, 0, none⟩)].toArray 34 (0, 0)) :: Blk b6 (.cells [Value.bool false].toArray 4 (0, 0)) :: Dfr r0 :: F, (by intro h; cases h), fun w hw => SPI.holds (show Holds w0 (RC0 .ready none :: Own 48 2 v xs3.length (prW ((pr xs3).take xs3.length)) :: Blk b16 (.cells [v].toArray 46 (0, 0)) :: Blk sb1 (.cells [Value.int .i64 room, .map (some m1), .pointer (fstP (xs1) none), .pointer (lstP (xs1) none)].toArray 71 (0, 0)) :: Seg 75 none (xs1) none :: MapI m1 kv1 :: Blk sb2 (.cells [Value.int .i64 room, .map (some m2), .pointer (fstP ([]) none), .pointer (lstP ([]) none)].toArray 71 (0, 0)) :: Seg 75 none ([]) none :: MapI m2 [] :: Blk sb3 (.cells [Value.int .i64 room, .map (some m3), .pointer (fstP (xs3) none), .pointer (lstP (xs3) none)].toArray 71 (0, 0)) :: Seg 75 none (xs3) none :: MapI m3 kv3 :: Blk bms (.cells [Value.pointer (some ⟨sb1, 0, none⟩)].toArray 34 (0, 0)) :: Blk bmu (.cells [Value.pointer (some ⟨sb3, 0, none⟩)].toArray 34 (0, 0)) :: Blk b6 (.cells [Value.bool false].toArray 4 (0, 0)) :: Dfr r0 :: F) w from hF9 w hw), ?_⟩
  dsimp only [jumpK]
  refine g_inBlock ?_
  refine g_seq ?_
  refine g_region ?_
  rw [show (pr xs3).take xs3.length = pr xs3 from List.take_of_length_le (by rw [pr_len]; omega)]
  refine l_fact (own_cases (show Own 48 2 v xs3.length (prW (pr xs3)) ∈ _ from (by first | exact mem_getO 0 rfl | exact mem_getO 1 rfl | exact mem_getO 2 rfl))) ?_
  rintro ⟨_, _, hv⟩
  obtain ⟨wa, wc, rfl, hwa⟩ := own_shape hv
  refine l_alloc rfl Try.zeroValue3 rfl ?_; intro b19
  first | refine l_st Try.sizeOf3 rfl rfl rfl rfl ?_ | refine l_stw Try.sizeOf3 rfl rfl (by omega) ?_
  refine l_nil ?_
  refine g_seq ?_
  refine g_seq ?_
  refine g_region ?_
  refine l_move rfl rfl ?_
  refine l_nil ?_
  refine g_block ?_
  refine g_rangeR rfl Try.call38 rfl ?_
  rintro r1 l1 RC1 hRC1
  refine CallK.heap (F2 := RC1 .ready none :: Blk b19 (.cells [Value.int .i64 0].toArray 3 (0, 0)) :: Own 48 2 (Value.slice wa xs3.length wc) xs3.length (prW (pr xs3)) :: Blk b16 (.cells [(Value.slice wa xs3.length wc)].toArray 46 (0, 0)) :: Blk sb1 (.cells [Value.int .i64 room, .map (some m1), .pointer (fstP (xs1) none), .pointer (lstP (xs1) none)].toArray 71 (0, 0)) :: Seg 75 none (xs1) none :: MapI m1 kv1 :: Blk sb2 (.cells [Value.int .i64 room, .map (some m2), .pointer (fstP ([]) none), .pointer (lstP ([]) none)].toArray 71 (0, 0)) :: Seg 75 none ([]) none :: MapI m2 [] :: Blk sb3 (.cells [Value.int .i64 room, .map (some m3), .pointer (fstP (xs3) none), .pointer (lstP (xs3) none)].toArray 71 (0, 0)) :: Seg 75 none (xs3) none :: MapI m3 kv3 :: Blk bms (.cells [Value.pointer (some ⟨sb1, 0, none⟩)].toArray 34 (0, 0)) :: Blk bmu (.cells [Value.pointer (some ⟨sb3, 0, none⟩)].toArray 34 (0, 0)) :: Blk b6 (.cells [Value.bool false].toArray 4 (0, 0)) :: Dfr r1 :: Dfr r0 :: F) (CallK.mono (seq_s w0 F (fun x : Int => [RC1 .ready none, Blk b19 (.cells [Value.int .i64 x].toArray 3 (0, 0)), Own 48 2 (Value.slice wa xs3.length wc) xs3.length (prW (pr xs3)), Blk b16 (.cells [(Value.slice wa xs3.length wc)].toArray 46 (0, 0)), Blk sb1 (.cells [Value.int .i64 room, .map (some m1), .pointer (fstP (xs1) none), .pointer (lstP (xs1) none)].toArray 71 (0, 0)), Seg 75 none (xs1) none, MapI m1 kv1, Blk sb2 (.cells [Value.int .i64 room, .map (some m2), .pointer (fstP ([]) none), .pointer (lstP ([]) none)].toArray 71 (0, 0)), Seg 75 none ([]) none, MapI m2 [], Blk sb3 (.cells [Value.int .i64 room, .map (some m3), .pointer (fstP (xs3) none), .pointer (lstP (xs3) none)].toArray 71 (0, 0)), Seg 75 none (xs3) none, MapI m3 kv3, Blk bms (.cells [Value.pointer (some ⟨sb1, 0, none⟩)].toArray 34 (0, 0)), Blk bmu (.cells [Value.pointer (some ⟨sb3, 0, none⟩)].toArray 34 (0, 0)), Blk b6 (.cells [Value.bool false].toArray 4 (0, 0)), Dfr r1, Dfr r0]) (fun i x => x = (i : Int)) (fun _ => False) l1 bms sb1 xs1 hV1 (by omega) 0 rfl (fun w hw => by have h := hw.ok (Blk bms (.cells [Value.pointer (some ⟨sb1, 0, none⟩)].toArray 34 (0, 0))) (by first | exact mem_getO 0 rfl | exact mem_getO 1 rfl | exact mem_getO 2 rfl | exact mem_getO 3 rfl | exact mem_getO 4 rfl | exact mem_getO 5 rfl | exact mem_getO 6 rfl | exact mem_getO 7 rfl | exact mem_getO 8 rfl | exact mem_getO 9 rfl | exact mem_getO 10 rfl | exact mem_getO 11 rfl | exact mem_getO 12 rfl | exact mem_getO 13 rfl | exact mem_getO 14 rfl | exact mem_getO 15 rfl); exact cell_of_has (c := [Value.pointer (some ⟨sb1, 0, none⟩)]) (b := bms) (o := 0) h rfl) (fun w hw => by have h := hw.ok (Blk sb1 (.cells [Value.int .i64 room, .map (some m1), .pointer (fstP (xs1) none), .pointer (lstP (xs1) none)].toArray 71 (0, 0))) (by first | exact mem_getO 0 rfl | exact mem_getO 1 rfl | exact mem_getO 2 rfl | exact mem_getO 3 rfl | exact mem_getO 4 rfl | exact mem_getO 5 rfl | exact mem_getO 6 rfl | exact mem_getO 7 rfl | exact mem_getO 8 rfl | exact mem_getO 9 rfl | exact mem_getO 10 rfl | exact mem_getO 11 rfl | exact mem_getO 12 rfl | exact mem_getO 13 rfl | exact mem_getO 14 rfl | exact mem_getO 15 rfl); exact cell_of_has (c := [Value.int .i64 room, .map (some m1), .pointer (fstP (xs1) none), .pointer (lstP (xs1) none)]) (b := sb1) (o := 2) h rfl) (fun j x l2 o v hd hv => by have h9 := drop_cons hd; exact seg_cell (T := 75) (l1 := xs1.take j) (x := x) (l2 := l2) (p := none) (n := none) (by rw [← h9.2.1]; first | exact mem_getO 0 rfl | exact mem_getO 1 rfl | exact mem_getO 2 rfl | exact mem_getO 3 rfl | exact mem_getO 4 rfl | exact mem_getO 5 rfl | exact mem_getO 6 rfl | exact mem_getO 7 rfl | exact mem_getO 8 rfl | exact mem_getO 9 rfl | exact mem_getO 10 rfl | exact mem_getO 11 rfl | exact mem_getO 12 rfl | exact mem_getO 13 rfl | exact mem_getO 14 rfl | exact mem_getO 15 rfl) hv) (fun i x T hi hx hT => ?_)) (fun en F2 hG => ?_)) (fun w hw => SPI.holds hw)
  · subst hx
    obtain ⟨gw, rfl⟩ := hwa.resolve_left (by omega)
    dsimp only [List.cons_append, List.nil_append]
    refine c_roundR hRC1 rfl rfl ?_
    dsimp only [putL]
    refine g_seq ?_
    refine g_region ?_
    refine l_assign rfl rfl ?_
    refine l_nil ?_
    refine g_region ?_
    refine l_assign rfl rfl ?_
    refine l_nil ?_
    refine g_beginR hRC1 ?_
    refine g_block ?_
    refine g_seq ?_
    refine g_seq ?_
    refine g_region ?_
    first | refine l_ld rfl Try.isAgg3 rfl rfl ?_ | refine l_ldw rfl Try.isAgg3 rfl (by omega) ?_
    refine l_ld rfl Try.isAgg46 rfl rfl ?_
    refine l_len rfl Try.underlying46 rfl ?_
    refine l_geq rfl rfl rfl ?_
    refine l_move rfl rfl ?_
    refine l_split 162 rfl ?_ ?_
    · intro hbr
      have hbr := of_decide_eq_true hbr
      (exfalso; first | omega | (simp at hbr; done))
    intro hbr
    have hbr := of_decide_eq_false hbr
    refine l_guard_yes rfl rfl ?_
    refine l_ld rfl Try.isAgg46 rfl rfl ?_
    refine l_guard_yes rfl rfl ?_
    first | refine l_ld rfl Try.isAgg3 rfl rfl ?_ | refine l_ldw rfl Try.isAgg3 rfl (by omega) ?_
    refine l_guard_yes rfl rfl ?_
    refine l_ixs rfl Try.underlying46 Try.sizeOf48 rfl rfl (by omega) (by omega) ?_
    refine l_guard_yes rfl rfl ?_
    refine l_loadr (l := [.int .i64 ((xs1.map Nd.k).getD i 0), .int .i64 ((xs1.map fun x => vint x.v).getD i 0)]) rfl Try.isAgg48 Try.sizeOf48 rfl rfl (pw_row hPQ hi (by omega)) ?_
    refine l_guard_yes rfl rfl ?_
    refine l_move rfl rfl ?_
    refine l_guard_yes rfl rfl ?_
    refine l_move rfl rfl ?_
    refine l_guard_yes rfl rfl ?_
    refine l_build rfl rfl (fun w => bd_48_0_1 _ _ w) ?_
    refine l_guard_yes rfl rfl ?_
    refine l_bin rfl rfl rfl (fun w => run_eqGuard_agg w _ _ _ _ _ _ Try.eqGuardType48) (fun w => sqn_48 _ _ _ _ w) ?_
    rw [show (!(decide ((xs1.map Nd.k).getD i 0 = (xs1.map Nd.k).getD i 0) && decide ((xs1.map fun x => vint x.v).getD i 0 = (xs1.map fun x => vint x.v).getD i 0))) = false by simp]
    refine l_pick_f rfl rfl rfl ?_
    refine l_nil ?_
    refine g_cond_f rfl ?_
    refine g_skip ?_
    refine g_region ?_
    first | refine l_ld rfl Try.isAgg3 rfl rfl ?_ | refine l_ldw rfl Try.isAgg3 rfl (by omega) ?_
    first | refine l_add rfl rfl rfl (w_i64 (by omega) (by omega)) ?_ | refine l_addw rfl rfl rfl ?_
    first | refine l_st Try.sizeOf3 rfl rfl rfl rfl ?_ | refine l_stw Try.sizeOf3 rfl rfl (by omega) ?_
    refine l_nil ?_
    refine g_inBlock ?_
    refine g_roundE (p := none) (F := Blk b19 (.cells [Value.int .i64 ((i : Int) + 1)].toArray 3 (0, 0)) :: Own 48 2 (Value.slice (some ⟨gw, 0, none⟩) xs3.length wc) xs3.length (prW (pr xs3)) :: Blk b16 (.cells [(Value.slice (some ⟨gw, 0, none⟩) xs3.length wc)].toArray 46 (0, 0)) :: Blk sb1 (.cells [Value.int .i64 room, .map (some m1), .pointer (fstP (xs1) none), .pointer (lstP (xs1) none)].toArray 71 (0, 0)) :: Seg 75 none (xs1) none :: MapI m1 kv1 :: Blk sb2 (.cells [Value.int .i64 room, .map (some m2), .pointer (fstP ([]) none), .pointer (lstP ([]) none)].toArray 71 (0, 0)) :: Seg 75 none ([]) none :: MapI m2 [] :: Blk sb3 (.cells [Value.int .i64 room, .map (some m3), .pointer (fstP (xs3) none), .pointer (lstP (xs3) none)].toArray 71 (0, 0)) :: Seg 75 none (xs3) none :: MapI m3 kv3 :: Blk bms (.cells [Value.pointer (some ⟨sb1, 0, none⟩)].toArray 34 (0, 0)) :: Blk bmu (.cells [Value.pointer (some ⟨sb3, 0, none⟩)].toArray 34 (0, 0)) :: Blk b6 (.cells [Value.bool false].toArray 4 (0, 0)) :: Dfr r1 :: Dfr r0 :: T) hRC1 (fun w hw => SPI.holds hw) ?_
    exact ⟨_, rfl, true, rfl, fun _ => ⟨(i : Int) + 1, by omega, fun w hw => hw⟩, fun h => (by cases h)⟩
  obtain ⟨v9, F9, rfl, hR9, hF9⟩ := hG
  refine ⟨⟨_, rfl⟩, ?_⟩
  obtain ⟨x, hx, rfl⟩ := hR9.resolve_right (fun h => by obtain ⟨_, h, _⟩ := h; exact h)
  obtain rfl : x = (xs1.length : Int) := hx
  refine ⟨.ready, none, Blk b19 (.cells [Value.int .i64 (xs1.length : Int)].toArray 3 (0, 0)) :: Own 48 2 (Value.slice wa xs3.length wc) xs3.length (prW (pr xs3)) :: Blk b16 (.cells [(Value.slice wa xs3.length wc)].toArray 46 (0, 0)) :: Blk sb1 (.cells [Value.int .i64 room, .map (some m1), .pointer (fstP (xs1) none), .pointer (lstP (xs1) none)].toArray 71 (0, 0)) :: Seg 75 none (xs1) none :: MapI m1 kv1 :: Blk sb2 (.cells [Value.int .i64 room, .map (some m2), .pointer (fstP ([]) none), .pointer (lstP ([]) none)].toArray 71 (0, 0)) :: Seg 75 none ([]) none :: MapI m2 [] :: Blk sb3 (.cells [Value.int .i64 room, .map (some m3), .pointer (fstP (xs3) none), .pointer (lstP (xs3) none)].toArray 71 (0, 0)) :: Seg 75 none (xs3) none :: MapI m3 kv3 :: Blk bms (.cells [Value.pointer (some ⟨sb1, 0, none⟩)].toArray 34 (0, 0)) :: Blk bmu (.cells [Value.pointer (some ⟨sb3, 0, none⟩)].toArray 34 (0, 0)) :: Blk b6 (.cells [Value.bool false].toArray 4 (0, 0)) :: Dfr r1 :: Dfr r0 :: F, (by intro h; cases h), fun w hw => SPI.holds (show Holds w0 (RC1 .ready none :: Blk b19 (.cells [Value.int .i64 (xs1.length : Int)].toArray 3 (0, 0)) :: Own 48 2 (Value.slice wa xs3.length wc) xs3.length (prW (pr xs3)) :: Blk b16 (.cells [(Value.slice wa xs3.length wc)].toArray 46 (0, 0)) :: Blk sb1 (.cells [Value.int .i64 room, .map (some m1), .pointer (fstP (xs1) none), .pointer (lstP (xs1) none)].toArray 71 (0, 0)) :: Seg 75 none (xs1) none :: MapI m1 kv1 :: Blk sb2 (.cells [Value.int .i64 room, .map (some m2), .pointer (fstP ([]) none), .pointer (lstP ([]) none)].toArray 71 (0, 0)) :: Seg 75 none ([]) none :: MapI m2 [] :: Blk sb3 (.cells [Value.int .i64 room, .map (some m3), .pointer (fstP (xs3) none), .pointer (lstP (xs3) none)].toArray 71 (0, 0)) :: Seg 75 none (xs3) none :: MapI m3 kv3 :: Blk bms (.cells [Value.pointer (some ⟨sb1, 0, none⟩)].toArray 34 (0, 0)) :: Blk bmu (.cells [Value.pointer (some ⟨sb3, 0, none⟩)].toArray 34 (0, 0)) :: Blk b6 (.cells [Value.bool false].toArray 4 (0, 0)) :: Dfr r1 :: Dfr r0 :: F) w from hF9 w hw), ?_⟩
  dsimp only [jumpK]
  refine g_inBlock ?_
  refine g_seq ?_
  refine g_region ?_
  first | refine l_ld rfl Try.isAgg3 rfl rfl ?_ | refine l_ldw rfl Try.isAgg3 rfl (by omega) ?_
  refine l_ld rfl Try.isAgg46 rfl rfl ?_
  refine l_len rfl Try.underlying46 rfl ?_
  refine l_eql rfl rfl rfl ?_
  refine l_move rfl rfl ?_
  refine l_split 178 rfl ?_ ?_
  · intro hbr
    have hbr := of_decide_eq_true hbr
    refine l_guard_yes rfl rfl ?_
    refine l_call rfl Try.call9 rfl (awake_ok _ _) ?_; rintro _ F9 ⟨rfl, hF9⟩; rw [hF9]; clear hF9 F9
    refine l_pick_t rfl rfl rfl ?_
    refine l_st Try.sizeOf4 rfl rfl rfl rfl ?_
    refine l_nil ?_
    refine g_heap (F' := Dfr r1 :: Dfr r0 :: Blk b6 (.cells [Value.bool true].toArray 4 (0, 0)) :: F) (fun w hw => SPI.holds hw) ?_
    refine g_ret_m (F := Blk b6 (.cells [Value.bool true].toArray 4 (0, 0)) :: F) [r1, r0] rfl Try.func7 (fun w hw => hw) rfl (.ci rfl Try.isAgg4 rfl .nil) ?_
    exact Gives.mki ⟨rfl, rfl⟩
  · intro hbr
    have hbr := of_decide_eq_false hbr
    (exfalso; first | omega | (simp at hbr; done))
theorem apart_bad (w0 : World) (F : List Atom) (room : Int) (a1 : Option Addr) (n1 c1 : Nat) (a2 : Option Addr) (n2 c2 : Nat) (hr : ¬ (1 ≤ room ∧ room ≤ 4096) ∨ 2147483647 < n1 ∨ 2147483647 < n2) :
    CallK Try.prog 7 [.int .i64 room, .slice a1 n1 c1, .slice a2 n2 c2] w0 (F) (Gives w0 fun v F2 => v = .bool true ∧ F2 = F) := by
  refine c_enter Try.func7 rfl rfl rfl ?_
  refine g_seq ?_
  refine g_region ?_
  refine l_alloc rfl Try.zeroValue4 rfl ?_; intro b6
  refine l_nil ?_
  refine g_seq ?_
  refine g_seq ?_
  refine g_region ?_
  refine l_move rfl rfl ?_
  refine l_len rfl Try.underlying22 rfl ?_
  refine l_gtr rfl rfl rfl ?_
  refine l_move rfl rfl ?_
  refine l_split 25 rfl ?_ ?_
  · intro hbr
    have hbr := of_decide_eq_true hbr
    refine l_guard_no rfl rfl rfl ?_
    refine l_guard_no rfl rfl rfl ?_
    refine l_guard_no rfl rfl rfl ?_
    refine l_pick_t rfl rfl rfl ?_
    refine l_nil ?_
    refine g_cond_t rfl ?_
    refine g_seq ?_
    refine g_region ?_
    refine l_st Try.sizeOf4 rfl rfl rfl rfl ?_
    refine l_nil ?_
    refine g_ret Try.func7 rfl (.ci rfl Try.isAgg4 rfl .nil) ?_
    exact Gives.mki ⟨rfl, rfl⟩
  intro hbr
  have hbr := of_decide_eq_false hbr
  refine l_guard_yes rfl rfl ?_
  refine l_move rfl rfl ?_
  refine l_guard_yes rfl rfl ?_
  refine l_len rfl Try.underlying22 rfl ?_
  refine l_guard_yes rfl rfl ?_
  refine l_gtr rfl rfl rfl ?_
  refine l_pick_f rfl rfl rfl ?_
  refine l_nil ?_
  refine g_cond rfl ?_ ?_
  · intro hbr
    have hbr := of_decide_eq_true hbr
    refine g_seq ?_
    refine g_region ?_
    refine l_st Try.sizeOf4 rfl rfl rfl rfl ?_
    refine l_nil ?_
    refine g_ret Try.func7 rfl (.ci rfl Try.isAgg4 rfl .nil) ?_
    exact Gives.mki ⟨rfl, rfl⟩
  intro hbr
  have hbr := of_decide_eq_false hbr
  refine g_skip ?_
  refine g_seq ?_
  refine g_region ?_
  refine l_move rfl rfl ?_
  refine l_call rfl Try.call13 rfl (newbad_ii _ _ room (by omega)) ?_; rintro _ F9 ⟨rfl, hF9⟩; rw [hF9]; clear hF9 F9
  refine l_move rfl rfl ?_
  refine l_extract rfl rfl rfl ?_
  refine l_extract rfl rfl rfl ?_
  refine l_assign rfl rfl ?_
  refine l_assign rfl rfl ?_
  refine l_nil ?_
  refine g_seq ?_
  refine g_region ?_
  refine l_move rfl rfl ?_
  refine l_call rfl Try.call13 rfl (newbad_ii _ _ room (by omega)) ?_; rintro _ F9 ⟨rfl, hF9⟩; rw [hF9]; clear hF9 F9
  refine l_move rfl rfl ?_
  refine l_extract rfl rfl rfl ?_
  refine l_extract rfl rfl rfl ?_
  refine l_assign rfl rfl ?_
  refine l_assign rfl rfl ?_
  refine l_nil ?_
  refine g_seq ?_
  refine g_region ?_
  refine l_move rfl rfl ?_
  refine l_call rfl Try.call13 rfl (newbad_ii _ _ room (by omega)) ?_; rintro _ F9 ⟨rfl, hF9⟩; rw [hF9]; clear hF9 F9
  refine l_move rfl rfl ?_
  refine l_extract rfl rfl rfl ?_
  refine l_extract rfl rfl rfl ?_
  refine l_assign rfl rfl ?_
  refine l_assign rfl rfl ?_
  refine l_nil ?_
  refine g_seq ?_
  refine g_seq ?_
  refine g_region ?_
  refine l_move rfl rfl ?_
  refine l_neq rfl rfl rfl ?_
  refine l_move rfl rfl ?_
  refine l_split 47 rfl ?_ ?_
  · intro hbr
    have hbr := of_decide_eq_true hbr
    refine l_guard_no rfl rfl rfl ?_
    refine l_guard_no rfl rfl rfl ?_
    refine l_pick_t rfl rfl rfl ?_
    refine l_move rfl rfl ?_
    refine l_guard_no rfl rfl rfl ?_
    refine l_guard_no rfl rfl rfl ?_
    refine l_pick_t rfl rfl rfl ?_
    refine l_move rfl rfl ?_
    refine l_guard_no rfl rfl rfl ?_
    refine l_guard_no rfl rfl rfl ?_
    refine l_pick_t rfl rfl rfl ?_
    refine l_move rfl rfl ?_
    refine l_guard_no rfl rfl rfl ?_
    refine l_guard_no rfl rfl rfl ?_
    refine l_pick_t rfl rfl rfl ?_
    refine l_move rfl rfl ?_
    refine l_guard_no rfl rfl rfl ?_
    refine l_guard_no rfl rfl rfl ?_
    refine l_pick_t rfl rfl rfl ?_
    refine l_nil ?_
    refine g_cond_t rfl ?_
    refine g_seq ?_
    refine g_region ?_
    refine l_move rfl rfl ?_
    refine l_lss rfl rfl rfl ?_
    refine l_move rfl rfl ?_
    refine l_split 69 rfl ?_ ?_
    · intro hbr
      have hbr := of_decide_eq_true hbr
      refine l_guard_no rfl rfl rfl ?_
      refine l_guard_no rfl rfl rfl ?_
      refine l_pick_t rfl rfl rfl ?_
      refine l_move rfl rfl ?_
      refine l_guard_yes rfl rfl ?_
      refine l_call rfl Try.call9 rfl (awake_ok _ _) ?_; rintro _ F9 ⟨rfl, hF9⟩; rw [hF9]; clear hF9 F9
      refine l_pick_t rfl rfl rfl ?_
      refine l_st Try.sizeOf4 rfl rfl rfl rfl ?_
      refine l_nil ?_
      refine g_ret Try.func7 rfl (.ci rfl Try.isAgg4 rfl .nil) ?_
      exact Gives.mki ⟨rfl, rfl⟩
    intro hbr
    have hbr := of_decide_eq_false hbr
    refine l_guard_yes rfl rfl ?_
    refine l_move rfl rfl ?_
    refine l_guard_yes rfl rfl ?_
    refine l_gtr rfl rfl rfl ?_
    refine l_pick_f rfl rfl rfl ?_
    refine l_move rfl rfl ?_
    refine l_split 73 rfl ?_ ?_
    · intro hbr
      have hbr := of_decide_eq_true hbr
      refine l_guard_yes rfl rfl ?_
      refine l_call rfl Try.call9 rfl (awake_ok _ _) ?_; rintro _ F9 ⟨rfl, hF9⟩; rw [hF9]; clear hF9 F9
      refine l_pick_t rfl rfl rfl ?_
      refine l_st Try.sizeOf4 rfl rfl rfl rfl ?_
      refine l_nil ?_
      refine g_ret Try.func7 rfl (.ci rfl Try.isAgg4 rfl .nil) ?_
      exact Gives.mki ⟨rfl, rfl⟩
    · intro hbr
      have hbr := of_decide_eq_false hbr
      (exfalso; omega)
  · intro hbr
    have hbr := of_decide_eq_false hbr
    (exfalso; omega)
theorem ir_of2 {W : World} {kd : IntKind} {a : Option Addr} {n c : Nat} {X : List Int} (hl : X.length = n) (hx : (n = 0 ∧ (a = none → c = 0)) ∨ ∃ b o, a = some ⟨b, o, none⟩ ∧ ∀ (j : Nat) u, (ints kd X)[j]? = some u → W.cell? ⟨b, o + j, none⟩ = some u) : IR W [Old W] kd a n X := by
  refine ⟨hl, ?_⟩
  rcases hx with ⟨h, _⟩ | ⟨b, o, h, hr⟩
  · exact .inl h
  · exact .inr ⟨b, o, h, RowAt.old (by simp) hr⟩
theorem apart_all (W : World) (room : Int) (a1 : Option Addr) (n1 c1 : Nat) (Y1 : List Int) (hI1 : IR W [Old W] .i64 a1 n1 Y1) (a2 : Option Addr) (n2 c2 : Nat) (Y2 : List Int) (hI2 : IR W [Old W] .i64 a2 n2 Y2) : CallK Try.prog 7 [.int .i64 room, .slice a1 n1 c1, .slice a2 n2 c2] W [Old W] (Gives W fun v F2 => v = .bool true ∧ F2 = [Old W]) := by
  by_cases h : (1 ≤ room ∧ room ≤ 4096) ∧ n1 ≤ 2147483647 ∧ n2 ≤ 2147483647
  · exact apart_ok W [Old W] room h.1.1 h.1.2 a1 n1 c1 Y1 hI1 h.2.1 a2 n2 c2 Y2 hI2 h.2.2
  · exact apart_bad W [Old W] room a1 n1 c1 a2 n2 c2 (by omega)
end Go.Proofs.Ytjfibfbknfeflaa.Fw
