import Derived.Test.YtjfibfbknfeflaaSPair
import Derived.Test.YtjfibfbknfeflaaSLat
import Derived.Test.YtjfibfbknfeflaaFw29
namespace Go.Proofs.Ytjfibfbknfeflaa.Fw
open Go Go.Proofs
set_option linter.unusedVariables false
set_option linter.unusedSimpArgs false
set_option maxRecDepth 10000
theorem bd_48_0_1 (a0_0 : Int) (a1_0 : Int) (w : World) : (Instr.build 48 #[(0, .int .i64 a0_0), (1, .int .i64 a1_0)]).run Try.prog w = .ok (.agg #[.int .i64 a0_0, .int .i64 a1_0]) w := by kernel_rfl
theorem sq_48 (x0 : Int) (x1 : Int) (y0 : Int) (y1 : Int) (w : World) : (Op.equalIn 10000 48 (.agg #[.int .i64 x0, .int .i64 x1]) (.agg #[.int .i64 y0, .int .i64 y1])).run Try.prog w = .ok (decide (x0 = y0) && decide (x1 = y1)) w := by
  rw [run_equalIn_struct w 9999 48 _ _ (by simp [Program.fieldsOf, Try.underlying48]) Try.stoodInHeld48]
  have e0 := fun w => run_equalIn_int (P := Try.prog) w 9998 3 .i64 .i64 x0 y0 Try.underlying3
  have e1 := fun w => run_equalIn_int (P := Try.prog) w 9998 3 .i64 .i64 x1 y1 Try.underlying3
  simp [Program.fieldsOf, Try.underlying48, Op.eqFields, part, Try.isAgg3, e0, e1, Sem.run_bind, Sem.run_pure, Sem.run_ite]
  by_cases h0 : x0 = y0 <;> by_cases h1 : x1 = y1 <;> simp [*]
theorem sqn_48 (x0 : Int) (x1 : Int) (y0 : Int) (y1 : Int) (w : World) : (binOp .neq 48 (.agg #[.int .i64 x0, .int .i64 x1]) (.agg #[.int .i64 y0, .int .i64 y1])).run Try.prog w = .ok (.bool (!(decide (x0 = y0) && decide (x1 = y1)))) w := by
  rw [run_neq_struct, sq_48]; rfl
theorem fa_48_0 (a : Addr) (w : World) : (Instr.fieldAt 48 (.pointer (some a)) 0).run Try.prog w = .ok (.pointer (some (a.add 0))) w := by
  simp [Instr.fieldAt, Try.runUnderlying48, Instr.sureAddr, fieldPlace, Try.sizeOf3, Sem.run_bind, Sem.run_pure]
theorem drop_len {room k : Int} {xs y : List Nd} (h : (xs.length : Int) ≤ room) (hp : pr y = delK (pr xs) k) : (y.length : Int) ≤ room := by
  have h1 := congrArg List.length hp
  have h2 := List.length_filter_le (fun p : Int × Int => !decide (p.1 = k)) (pr xs)
  unfold delK at h1
  rw [pr_len] at h1 h2
  omega
theorem get_len {room k : Int} {xs y : List Nd} (h : (xs.length : Int) ≤ room) (hp : pr y = getK (pr xs) k) : (y.length : Int) ≤ room := by
  have h1 := congrArg List.length hp
  have h2 := pr_len xs
  rw [pr_len] at h1
  unfold getK at h1
  split at h1
  · rename_i hk
    have := delK_len hk
    simp only [List.length_append, List.length_singleton] at h1
    omega
  · omega
theorem key_at {xs : List Nd} {kv : List (Int × Value)} (hS : ShOk kv xs) {i : Nat} (hi : i < xs.length) : hasK (pr xs) ((xs.map Nd.k).getD i 0) = true ∧ valK (pr xs) ((xs.map Nd.k).getD i 0) = (xs.map fun x => vint x.v).getD i 0 := by
  have e : xs = xs.take i ++ xs[i] :: xs.drop (i + 1) := by rw [List.getElem_cons_drop, List.take_append_drop]
  have e1 : (xs.map Nd.k).getD i 0 = xs[i].k := by simp [hi]
  have e2 : (xs.map fun x => vint x.v).getD i 0 = vint xs[i].v := by simp [hi]
  have hn := hS.nd
  rw [e1, e2]
  rw [e] at hn
  have h1 := hasK_yes (l1 := xs.take i) (l2 := xs.drop (i + 1)) (x := xs[i])
  have h2 := valK_yes hn
  rw [← e] at h1 h2
  exact ⟨h1, h2⟩
set_option maxHeartbeats 16000000 in
theorem within_ok (w0 : World) (F : List Atom) (sb m : Nat) (room : Int) (q1 : 1 ≤ room) (q2 : room ≤ 4096) (xs : List Nd) (kv : List (Int × Value)) (hS : ShOk kv xs) (hV : VI xs) (hl : (xs.length : Int) ≤ room) (wa : Option Addr) (wc : Nat) (hwa : xs.length = 0 ∨ ∃ g, wa = some ⟨g, 0, none⟩) (other : Int) :
    CallK Try.prog 20 [.pointer (some ⟨sb, 0, none⟩), .slice wa xs.length wc, .int .i64 other] w0 (Blk sb (.cells [Value.int .i64 room, .map (some m), .pointer (fstP (xs) none), .pointer (lstP (xs) none)].toArray 71 (0, 0)) :: Seg 75 none (xs) none :: MapI m kv :: Own 48 2 (Value.slice wa xs.length wc) xs.length (prW (pr xs)) :: F) (Gives w0 fun v F2 => ∃ y lv, v = .bool true ∧ ShOk lv y ∧ VI y ∧ (y.length : Int) ≤ room ∧ F2 = Blk sb (.cells [Value.int .i64 room, .map (some m), .pointer (fstP (y) none), .pointer (lstP (y) none)].toArray 71 (0, 0)) :: Seg 75 none (y) none :: MapI m lv :: Own 48 2 (Value.slice wa xs.length wc) xs.length (prW (pr xs)) :: F) := by
  refine c_enter Try.func20 rfl rfl rfl ?_
  refine g_seq ?_
  refine g_region ?_
  refine l_box rfl rfl rfl ?_; intro b3
  refine l_box rfl rfl rfl ?_; intro b4
  refine l_box rfl rfl rfl ?_; intro b5
  refine l_alloc rfl Try.zeroValue4 rfl ?_; intro b6
  refine l_nil ?_
  refine g_seq ?_
  refine g_region ?_
  refine l_alloc rfl Try.zeroValue3 rfl ?_; intro b7
  first | refine l_st Try.sizeOf3 rfl rfl rfl rfl ?_ | refine l_stw Try.sizeOf3 rfl rfl (by omega) ?_
  refine l_nil ?_
  refine g_seq ?_
  refine g_seq ?_
  refine g_region ?_
  refine l_ld rfl Try.isAgg34 rfl rfl ?_
  refine l_call rfl Try.call18 rfl (all_ii _ _ _) ?_; rintro _ _ ⟨bm, rfl, rfl⟩
  refine l_nil ?_
  refine g_block ?_
  refine g_rangeR rfl Try.call38 rfl ?_
  rintro r0 l0 RC0 hRC0
  refine CallK.heap (F2 := RC0 .ready none :: Blk b7 (.cells [Value.int .i64 0].toArray 3 (0, 0)) :: Blk sb (.cells [Value.int .i64 room, .map (some m), .pointer (fstP (xs) none), .pointer (lstP (xs) none)].toArray 71 (0, 0)) :: Seg 75 none (xs) none :: MapI m kv :: Own 48 2 (Value.slice wa xs.length wc) xs.length (prW (pr xs)) :: Blk b3 (.cells [Value.pointer (some ⟨sb, 0, none⟩)].toArray 34 (0, 0)) :: Blk b4 (.cells [(Value.slice wa xs.length wc)].toArray 46 (0, 0)) :: Blk b5 (.cells [Value.int .i64 other].toArray 3 (0, 0)) :: Blk b6 (.cells [Value.bool false].toArray 4 (0, 0)) :: Blk bm (.cells [Value.pointer (some ⟨sb, 0, none⟩)].toArray 34 (0, 0)) :: Dfr r0 :: F) (CallK.mono (seq_s w0 F (fun x : Nat × List Nd × List (Int × Value) => [RC0 .ready none, Blk b7 (.cells [Value.int .i64 (x.1 : Int)].toArray 3 (0, 0)), Blk sb (.cells [Value.int .i64 room, .map (some m), .pointer (fstP (x.2.1) none), .pointer (lstP (x.2.1) none)].toArray 71 (0, 0)), Seg 75 none (x.2.1) none, MapI m x.2.2, Own 48 2 (Value.slice wa xs.length wc) xs.length (prW (pr xs)), Blk b3 (.cells [Value.pointer (some ⟨sb, 0, none⟩)].toArray 34 (0, 0)), Blk b4 (.cells [(Value.slice wa xs.length wc)].toArray 46 (0, 0)), Blk b5 (.cells [Value.int .i64 other].toArray 3 (0, 0)), Blk b6 (.cells [Value.bool false].toArray 4 (0, 0)), Blk bm (.cells [Value.pointer (some ⟨sb, 0, none⟩)].toArray 34 (0, 0)), Dfr r0]) (fun i x => x.1 = i ∧ ShOk x.2.2 x.2.1 ∧ VI x.2.1 ∧ (x.2.1.length : Int) ≤ room) (fun _ => False) l0 bm sb xs hV (by omega) (0, xs, kv) ⟨rfl, hS, hV, hl⟩ (fun w hw => by have h := hw.ok (Blk bm (.cells [Value.pointer (some ⟨sb, 0, none⟩)].toArray 34 (0, 0))) (by first | exact mem_getO 0 rfl | exact mem_getO 1 rfl | exact mem_getO 2 rfl | exact mem_getO 3 rfl | exact mem_getO 4 rfl | exact mem_getO 5 rfl | exact mem_getO 6 rfl | exact mem_getO 7 rfl | exact mem_getO 8 rfl | exact mem_getO 9 rfl | exact mem_getO 10 rfl | exact mem_getO 11 rfl | exact mem_getO 12 rfl | exact mem_getO 13 rfl | exact mem_getO 14 rfl | exact mem_getO 15 rfl | exact mem_getO 16 rfl | exact mem_getO 17 rfl); exact cell_of_has (c := [Value.pointer (some ⟨sb, 0, none⟩)]) (b := bm) (o := 0) h rfl) (fun w hw => by have h := hw.ok (Blk sb (.cells [Value.int .i64 room, .map (some m), .pointer (fstP (xs) none), .pointer (lstP (xs) none)].toArray 71 (0, 0))) (by first | exact mem_getO 0 rfl | exact mem_getO 1 rfl | exact mem_getO 2 rfl | exact mem_getO 3 rfl | exact mem_getO 4 rfl | exact mem_getO 5 rfl | exact mem_getO 6 rfl | exact mem_getO 7 rfl | exact mem_getO 8 rfl | exact mem_getO 9 rfl | exact mem_getO 10 rfl | exact mem_getO 11 rfl | exact mem_getO 12 rfl | exact mem_getO 13 rfl | exact mem_getO 14 rfl | exact mem_getO 15 rfl | exact mem_getO 16 rfl | exact mem_getO 17 rfl); exact cell_of_has (c := [Value.int .i64 room, .map (some m), .pointer (fstP (xs) none), .pointer (lstP (xs) none)]) (b := sb) (o := 2) h rfl) (fun j x l2 o v hd hv => by have h9 := drop_cons hd; exact seg_cell (T := 75) (l1 := xs.take j) (x := x) (l2 := l2) (p := none) (n := none) (by rw [← h9.2.1]; first | exact mem_getO 0 rfl | exact mem_getO 1 rfl | exact mem_getO 2 rfl | exact mem_getO 3 rfl | exact mem_getO 4 rfl | exact mem_getO 5 rfl | exact mem_getO 6 rfl | exact mem_getO 7 rfl | exact mem_getO 8 rfl | exact mem_getO 9 rfl | exact mem_getO 10 rfl | exact mem_getO 11 rfl | exact mem_getO 12 rfl | exact mem_getO 13 rfl | exact mem_getO 14 rfl | exact mem_getO 15 rfl | exact mem_getO 16 rfl | exact mem_getO 17 rfl) hv) (fun i x T hi hx hT => ?_)) (fun en F2 hG => ?_)) (fun w hw => SPI.holds hw)
  · obtain ⟨i9, x1, k1⟩ := x
    obtain ⟨hx1, hS1, hV1, hl1⟩ := hx
    simp only at hx1 hS1 hV1 hl1
    subst hx1
    obtain ⟨gw, rfl⟩ := hwa.resolve_left (by omega)
    dsimp only [List.cons_append, List.nil_append]
    refine c_roundR hRC0 rfl rfl ?_
    dsimp only [putL]
    refine g_seq ?_
    refine g_region ?_
    refine l_assign rfl rfl ?_
    refine l_nil ?_
    refine g_region ?_
    refine l_assign rfl rfl ?_
    refine l_nil ?_
    refine g_beginR hRC0 ?_
    refine g_block ?_
    refine g_seq ?_
    refine g_seq ?_
    refine g_region ?_
    first | refine l_ld rfl Try.isAgg3 rfl rfl ?_ | refine l_ldw rfl Try.isAgg3 rfl (by omega) ?_
    refine l_ld rfl Try.isAgg46 rfl rfl ?_
    refine l_len rfl Try.underlying46 rfl ?_
    refine l_geq rfl rfl rfl ?_
    refine l_move rfl rfl ?_
    refine l_split 20 rfl ?_ ?_
    · intro hbr
      have hbr := of_decide_eq_true hbr
      (exfalso; first | omega | (simp at hbr; done))
    intro hbr
    have hbr := of_decide_eq_false hbr
    refine l_guard_yes rfl rfl ?_
    refine l_ld rfl Try.isAgg46 rfl rfl ?_
    refine l_guard_yes rfl rfl ?_
    first | refine l_ld rfl Try.isAgg3 rfl rfl ?_ | refine l_ldw rfl Try.isAgg3 rfl (by omega) ?_
    refine l_guard_yes rfl rfl ?_
    refine l_ixs rfl Try.underlying46 Try.sizeOf48 rfl rfl (by omega) (by omega) ?_
    refine l_guard_yes rfl rfl ?_
    refine l_loadr (l := [.int .i64 ((xs.map Nd.k).getD i9 0), .int .i64 ((xs.map fun x => vint x.v).getD i9 0)]) rfl Try.isAgg48 Try.sizeOf48 rfl rfl (pw_row rfl hi (by omega)) ?_
    refine l_guard_yes rfl rfl ?_
    refine l_move rfl rfl ?_
    refine l_guard_yes rfl rfl ?_
    refine l_move rfl rfl ?_
    refine l_guard_yes rfl rfl ?_
    refine l_build rfl rfl (fun w => bd_48_0_1 _ _ w) ?_
    refine l_guard_yes rfl rfl ?_
    refine l_bin rfl rfl rfl (fun w => run_eqGuard_agg w _ _ _ _ _ _ Try.eqGuardType48) (fun w => sqn_48 _ _ _ _ w) ?_
    rw [show (!(decide ((xs.map Nd.k).getD i9 0 = (xs.map Nd.k).getD i9 0) && decide ((xs.map fun x => vint x.v).getD i9 0 = (xs.map fun x => vint x.v).getD i9 0))) = false by simp]
    refine l_pick_f rfl rfl rfl ?_
    refine l_nil ?_
    refine g_cond_f rfl ?_
    refine g_skip ?_
    refine g_seq ?_
    refine g_region ?_
    first | refine l_ld rfl Try.isAgg3 rfl rfl ?_ | refine l_ldw rfl Try.isAgg3 rfl (by omega) ?_
    first | refine l_add rfl rfl rfl (w_i64 (by omega) (by omega)) ?_ | refine l_addw rfl rfl rfl ?_
    first | refine l_st Try.sizeOf3 rfl rfl rfl rfl ?_ | refine l_stw Try.sizeOf3 rfl rfl (by omega) ?_
    refine l_nil ?_
    refine g_seq ?_
    refine g_seq ?_
    refine g_region ?_
    first | refine l_ld rfl Try.isAgg3 rfl rfl ?_ | refine l_ldw rfl Try.isAgg3 rfl (by omega) ?_
    refine l_rem rfl rfl rfl (by omega) (by omega) (w_i64 (by omega) (by omega)) ?_
    refine l_nil ?_
    refine g_block ?_
    refine g_seq ?_
    refine g_region ?_
    refine l_eql rfl rfl rfl ?_
    refine l_assign rfl rfl ?_
    refine l_nil ?_
    refine g_cond rfl ?_ ?_
    · intro hbr
      have hbr := of_decide_eq_true hbr
      refine g_region ?_
      refine l_ld rfl Try.isAgg34 rfl rfl ?_
      first | refine l_ld rfl Try.isAgg3 rfl rfl ?_ | refine l_ldw rfl Try.isAgg3 rfl (by omega) ?_
      first | refine l_ld rfl Try.isAgg3 rfl rfl ?_ | refine l_ldw rfl Try.isAgg3 rfl (by omega) ?_
      refine gl_heap (F' := Blk sb (.cells [Value.int .i64 room, .map (some m), .pointer (fstP (x1) none), .pointer (lstP (x1) none)].toArray 71 (0, 0)) :: Seg 75 none (x1) none :: MapI m k1 :: RC0 .busy none :: Blk b7 (.cells [Value.int .i64 ((i9 : Int) + 1)].toArray 3 (0, 0)) :: Own 48 2 (Value.slice (some ⟨gw, 0, none⟩) xs.length wc) xs.length (prW (pr xs)) :: Blk b3 (.cells [Value.pointer (some ⟨sb, 0, none⟩)].toArray 34 (0, 0)) :: Blk b4 (.cells [(Value.slice (some ⟨gw, 0, none⟩) xs.length wc)].toArray 46 (0, 0)) :: Blk b5 (.cells [Value.int .i64 other].toArray 3 (0, 0)) :: Blk b6 (.cells [Value.bool false].toArray 4 (0, 0)) :: Blk bm (.cells [Value.pointer (some ⟨sb, 0, none⟩)].toArray 34 (0, 0)) :: Dfr r0 :: T) (fun w hw => SPI.holds hw) ?_
      refine l_call rfl Try.call17 rfl (put_any _ _ sb m room k1 x1 hS1 hV1 other (by omega) ((i9 : Int) + 1)) ?_; rintro _ _ ⟨r9, g9, y, lv, rfl, hS2, hV2, hQ2, rfl⟩
      have hlY := put_len (by omega) hl1 hQ2
      refine l_nil ?_
      refine g_inBlock ?_
      refine g_seq ?_
      refine g_region ?_
      refine l_ld rfl Try.isAgg34 rfl rfl ?_
      refine gl_heap (F' := Blk sb (.cells [Value.int .i64 room, .map (some m), .pointer (fstP (y) none), .pointer (lstP (y) none)].toArray 71 (0, 0)) :: Seg 75 none (y) none :: MapI m lv :: RC0 .busy none :: Blk b7 (.cells [Value.int .i64 ((i9 : Int) + 1)].toArray 3 (0, 0)) :: Own 48 2 (Value.slice (some ⟨gw, 0, none⟩) xs.length wc) xs.length (prW (pr xs)) :: Blk b3 (.cells [Value.pointer (some ⟨sb, 0, none⟩)].toArray 34 (0, 0)) :: Blk b4 (.cells [(Value.slice (some ⟨gw, 0, none⟩) xs.length wc)].toArray 46 (0, 0)) :: Blk b5 (.cells [Value.int .i64 other].toArray 3 (0, 0)) :: Blk b6 (.cells [Value.bool false].toArray 4 (0, 0)) :: Blk bm (.cells [Value.pointer (some ⟨sb, 0, none⟩)].toArray 34 (0, 0)) :: Dfr r0 :: T) (fun w hw => SPI.holds hw) ?_
      refine l_call rfl Try.call19 rfl (len_ii _ _ sb m room lv y hS2) ?_; rintro _ _ ⟨rfl, rfl⟩
      refine l_assign rfl rfl ?_
      refine l_nil ?_
      refine g_seq ?_
      refine g_region ?_
      refine l_alloc rfl Try.zeroValue3 rfl ?_; intro b11
      first | refine l_st Try.sizeOf3 rfl rfl rfl rfl ?_ | refine l_stw Try.sizeOf3 rfl rfl (by omega) ?_
      refine l_nil ?_
      refine g_seq ?_
      refine g_seq ?_
      refine g_region ?_
      refine l_ld rfl Try.isAgg34 rfl rfl ?_
      refine l_call rfl Try.call18 rfl (all_ii _ _ _) ?_; rintro _ _ ⟨bn, rfl, rfl⟩
      refine l_nil ?_
      refine g_block ?_
      refine g_rangeN (st0 := .busy) (p0 := none) hRC0 rfl (by first | exact mem_getO 0 rfl | exact mem_getO 1 rfl | exact mem_getO 2 rfl | exact mem_getO 3 rfl | exact mem_getO 4 rfl | exact mem_getO 5 rfl | exact mem_getO 6 rfl | exact mem_getO 7 rfl | exact mem_getO 8 rfl | exact mem_getO 9 rfl | exact mem_getO 10 rfl | exact mem_getO 11 rfl | exact mem_getO 12 rfl | exact mem_getO 13 rfl | exact mem_getO 14 rfl | exact mem_getO 15 rfl) Try.call38 rfl ?_
      rintro l1 RC1 hRC1
      refine CallK.heap (F2 := RC1 .ready none :: Blk b11 (.cells [Value.int .i64 0].toArray 3 (0, 0)) :: Blk sb (.cells [Value.int .i64 room, .map (some m), .pointer (fstP (y) none), .pointer (lstP (y) none)].toArray 71 (0, 0)) :: Seg 75 none (y) none :: MapI m lv :: Blk bn (.cells [Value.pointer (some ⟨sb, 0, none⟩)].toArray 34 (0, 0)) :: RC0 .busy none :: Blk b7 (.cells [Value.int .i64 ((i9 : Int) + 1)].toArray 3 (0, 0)) :: Own 48 2 (Value.slice (some ⟨gw, 0, none⟩) xs.length wc) xs.length (prW (pr xs)) :: Blk b3 (.cells [Value.pointer (some ⟨sb, 0, none⟩)].toArray 34 (0, 0)) :: Blk b4 (.cells [(Value.slice (some ⟨gw, 0, none⟩) xs.length wc)].toArray 46 (0, 0)) :: Blk b5 (.cells [Value.int .i64 other].toArray 3 (0, 0)) :: Blk b6 (.cells [Value.bool false].toArray 4 (0, 0)) :: Blk bm (.cells [Value.pointer (some ⟨sb, 0, none⟩)].toArray 34 (0, 0)) :: Dfr r0 :: T) (CallK.mono (seq_s w0 (RC0 .busy none :: Blk b7 (.cells [Value.int .i64 ((i9 : Int) + 1)].toArray 3 (0, 0)) :: Own 48 2 (Value.slice (some ⟨gw, 0, none⟩) xs.length wc) xs.length (prW (pr xs)) :: Blk b3 (.cells [Value.pointer (some ⟨sb, 0, none⟩)].toArray 34 (0, 0)) :: Blk b4 (.cells [(Value.slice (some ⟨gw, 0, none⟩) xs.length wc)].toArray 46 (0, 0)) :: Blk b5 (.cells [Value.int .i64 other].toArray 3 (0, 0)) :: Blk b6 (.cells [Value.bool false].toArray 4 (0, 0)) :: Blk bm (.cells [Value.pointer (some ⟨sb, 0, none⟩)].toArray 34 (0, 0)) :: Dfr r0 :: T) (fun x : Int => [RC1 .ready none, Blk b11 (.cells [Value.int .i64 x].toArray 3 (0, 0)), Blk sb (.cells [Value.int .i64 room, .map (some m), .pointer (fstP (y) none), .pointer (lstP (y) none)].toArray 71 (0, 0)), Seg 75 none (y) none, MapI m lv, Blk bn (.cells [Value.pointer (some ⟨sb, 0, none⟩)].toArray 34 (0, 0))]) (fun i x => x = (i : Int)) (fun _ => False) l1 bn sb y hV2 (by omega) 0 rfl (fun w hw => by have h := hw.ok (Blk bn (.cells [Value.pointer (some ⟨sb, 0, none⟩)].toArray 34 (0, 0))) (by first | exact mem_getO 0 rfl | exact mem_getO 1 rfl | exact mem_getO 2 rfl | exact mem_getO 3 rfl | exact mem_getO 4 rfl | exact mem_getO 5 rfl | exact mem_getO 6 rfl | exact mem_getO 7 rfl | exact mem_getO 8 rfl | exact mem_getO 9 rfl | exact mem_getO 10 rfl | exact mem_getO 11 rfl | exact mem_getO 12 rfl | exact mem_getO 13 rfl | exact mem_getO 14 rfl | exact mem_getO 15 rfl | exact mem_getO 16 rfl | exact mem_getO 17 rfl); exact cell_of_has (c := [Value.pointer (some ⟨sb, 0, none⟩)]) (b := bn) (o := 0) h rfl) (fun w hw => by have h := hw.ok (Blk sb (.cells [Value.int .i64 room, .map (some m), .pointer (fstP (y) none), .pointer (lstP (y) none)].toArray 71 (0, 0))) (by first | exact mem_getO 0 rfl | exact mem_getO 1 rfl | exact mem_getO 2 rfl | exact mem_getO 3 rfl | exact mem_getO 4 rfl | exact mem_getO 5 rfl | exact mem_getO 6 rfl | exact mem_getO 7 rfl | exact mem_getO 8 rfl | exact mem_getO 9 rfl | exact mem_getO 10 rfl | exact mem_getO 11 rfl | exact mem_getO 12 rfl | exact mem_getO 13 rfl | exact mem_getO 14 rfl | exact mem_getO 15 rfl | exact mem_getO 16 rfl | exact mem_getO 17 rfl); exact cell_of_has (c := [Value.int .i64 room, .map (some m), .pointer (fstP (y) none), .pointer (lstP (y) none)]) (b := sb) (o := 2) h rfl) (fun j x l2 o v hd hv => by have h9 := drop_cons hd; exact seg_cell (T := 75) (l1 := y.take j) (x := x) (l2 := l2) (p := none) (n := none) (by rw [← h9.2.1]; first | exact mem_getO 0 rfl | exact mem_getO 1 rfl | exact mem_getO 2 rfl | exact mem_getO 3 rfl | exact mem_getO 4 rfl | exact mem_getO 5 rfl | exact mem_getO 6 rfl | exact mem_getO 7 rfl | exact mem_getO 8 rfl | exact mem_getO 9 rfl | exact mem_getO 10 rfl | exact mem_getO 11 rfl | exact mem_getO 12 rfl | exact mem_getO 13 rfl | exact mem_getO 14 rfl | exact mem_getO 15 rfl | exact mem_getO 16 rfl | exact mem_getO 17 rfl) hv) (fun i x T2 hi2 hx hT2 => ?_)) (fun en F2 hG => ?_)) (fun w hw => SPI.holds hw)
      · subst hx
        dsimp only [List.cons_append, List.nil_append]
        refine c_roundR hRC1 rfl rfl ?_
        dsimp only [putL]
        refine g_skip ?_
        refine g_beginR hRC1 ?_
        refine g_block ?_
        refine g_region ?_
        first | refine l_ld rfl Try.isAgg3 rfl rfl ?_ | refine l_ldw rfl Try.isAgg3 rfl (by omega) ?_
        first | refine l_add rfl rfl rfl (w_i64 (by omega) (by omega)) ?_ | refine l_addw rfl rfl rfl ?_
        first | refine l_st Try.sizeOf3 rfl rfl rfl rfl ?_ | refine l_stw Try.sizeOf3 rfl rfl (by omega) ?_
        refine l_nil ?_
        refine g_inBlock ?_
        refine g_roundE (p := none) (F := Blk b11 (.cells [Value.int .i64 ((i : Int) + 1)].toArray 3 (0, 0)) :: Blk sb (.cells [Value.int .i64 room, .map (some m), .pointer (fstP (y) none), .pointer (lstP (y) none)].toArray 71 (0, 0)) :: Seg 75 none (y) none :: MapI m lv :: Blk bn (.cells [Value.pointer (some ⟨sb, 0, none⟩)].toArray 34 (0, 0)) :: T2) hRC1 (fun w hw => SPI.holds hw) ?_
        exact ⟨_, rfl, true, rfl, fun _ => ⟨(i : Int) + 1, by omega, fun w hw => hw⟩, fun h => (by cases h)⟩
      obtain ⟨v9, F9, rfl, hR9, hF9⟩ := hG
      refine ⟨⟨_, rfl⟩, ?_⟩
      obtain ⟨x, hx, rfl⟩ := hR9.resolve_right (fun h => by obtain ⟨_, h, _⟩ := h; exact h)
      obtain rfl : x = (y.length : Int) := hx
      refine ⟨.ready, none, Blk b11 (.cells [Value.int .i64 (y.length : Int)].toArray 3 (0, 0)) :: Blk sb (.cells [Value.int .i64 room, .map (some m), .pointer (fstP (y) none), .pointer (lstP (y) none)].toArray 71 (0, 0)) :: Seg 75 none (y) none :: MapI m lv :: Blk bn (.cells [Value.pointer (some ⟨sb, 0, none⟩)].toArray 34 (0, 0)) :: RC0 .busy none :: Blk b7 (.cells [Value.int .i64 ((i9 : Int) + 1)].toArray 3 (0, 0)) :: Own 48 2 (Value.slice (some ⟨gw, 0, none⟩) xs.length wc) xs.length (prW (pr xs)) :: Blk b3 (.cells [Value.pointer (some ⟨sb, 0, none⟩)].toArray 34 (0, 0)) :: Blk b4 (.cells [(Value.slice (some ⟨gw, 0, none⟩) xs.length wc)].toArray 46 (0, 0)) :: Blk b5 (.cells [Value.int .i64 other].toArray 3 (0, 0)) :: Blk b6 (.cells [Value.bool false].toArray 4 (0, 0)) :: Blk bm (.cells [Value.pointer (some ⟨sb, 0, none⟩)].toArray 34 (0, 0)) :: Dfr r0 :: T, (by intro h; cases h), fun w hw => SPI.holds (show Holds w0 (RC1 .ready none :: Blk b11 (.cells [Value.int .i64 (y.length : Int)].toArray 3 (0, 0)) :: Blk sb (.cells [Value.int .i64 room, .map (some m), .pointer (fstP (y) none), .pointer (lstP (y) none)].toArray 71 (0, 0)) :: Seg 75 none (y) none :: MapI m lv :: Blk bn (.cells [Value.pointer (some ⟨sb, 0, none⟩)].toArray 34 (0, 0)) :: RC0 .busy none :: Blk b7 (.cells [Value.int .i64 ((i9 : Int) + 1)].toArray 3 (0, 0)) :: Own 48 2 (Value.slice (some ⟨gw, 0, none⟩) xs.length wc) xs.length (prW (pr xs)) :: Blk b3 (.cells [Value.pointer (some ⟨sb, 0, none⟩)].toArray 34 (0, 0)) :: Blk b4 (.cells [(Value.slice (some ⟨gw, 0, none⟩) xs.length wc)].toArray 46 (0, 0)) :: Blk b5 (.cells [Value.int .i64 other].toArray 3 (0, 0)) :: Blk b6 (.cells [Value.bool false].toArray 4 (0, 0)) :: Blk bm (.cells [Value.pointer (some ⟨sb, 0, none⟩)].toArray 34 (0, 0)) :: Dfr r0 :: T) w from hF9 w hw), ?_⟩
      dsimp only [jumpK]
      refine g_inBlock ?_
      refine g_seq ?_
      refine g_region ?_
      first | refine l_ld rfl Try.isAgg3 rfl rfl ?_ | refine l_ldw rfl Try.isAgg3 rfl (by omega) ?_
      refine l_move rfl rfl ?_
      refine l_neq rfl rfl rfl ?_
      refine l_nil ?_
      refine g_cond rfl ?_ ?_
      · intro hbr
        have hbr := of_decide_eq_true hbr
        (exfalso; first | omega | (simp at hbr; done))
      intro hbr
      have hbr := of_decide_eq_false hbr
      refine g_skip ?_
      refine g_inBlock ?_
      refine g_roundE (p := none) (F := Blk b7 (.cells [Value.int .i64 ((i9 : Int) + 1)].toArray 3 (0, 0)) :: Blk sb (.cells [Value.int .i64 room, .map (some m), .pointer (fstP (y) none), .pointer (lstP (y) none)].toArray 71 (0, 0)) :: Seg 75 none (y) none :: MapI m lv :: Own 48 2 (Value.slice (some ⟨gw, 0, none⟩) xs.length wc) xs.length (prW (pr xs)) :: Blk b3 (.cells [Value.pointer (some ⟨sb, 0, none⟩)].toArray 34 (0, 0)) :: Blk b4 (.cells [(Value.slice (some ⟨gw, 0, none⟩) xs.length wc)].toArray 46 (0, 0)) :: Blk b5 (.cells [Value.int .i64 other].toArray 3 (0, 0)) :: Blk b6 (.cells [Value.bool false].toArray 4 (0, 0)) :: Blk bm (.cells [Value.pointer (some ⟨sb, 0, none⟩)].toArray 34 (0, 0)) :: Dfr r0 :: T) hRC0 (fun w hw => SPI.holds hw) ?_
      exact ⟨_, rfl, true, rfl, fun _ => ⟨(i9 + 1, y, lv), ⟨rfl, hS2, hV2, hlY⟩, fun w hw => hw⟩, fun h => (by cases h)⟩
    intro hbr
    have hbr := of_decide_eq_false hbr
    refine g_seq ?_
    refine g_region ?_
    refine l_eql rfl rfl rfl ?_
    refine l_assign rfl rfl ?_
    refine l_nil ?_
    refine g_cond rfl ?_ ?_
    · intro hbr
      have hbr := of_decide_eq_true hbr
      refine g_region ?_
      refine l_ld rfl Try.isAgg34 rfl rfl ?_
      first | refine l_ld rfl Try.isAgg3 rfl rfl ?_ | refine l_ldw rfl Try.isAgg3 rfl (by omega) ?_
      refine gl_heap (F' := Blk sb (.cells [Value.int .i64 room, .map (some m), .pointer (fstP (x1) none), .pointer (lstP (x1) none)].toArray 71 (0, 0)) :: Seg 75 none (x1) none :: MapI m k1 :: RC0 .busy none :: Blk b7 (.cells [Value.int .i64 ((i9 : Int) + 1)].toArray 3 (0, 0)) :: Own 48 2 (Value.slice (some ⟨gw, 0, none⟩) xs.length wc) xs.length (prW (pr xs)) :: Blk b3 (.cells [Value.pointer (some ⟨sb, 0, none⟩)].toArray 34 (0, 0)) :: Blk b4 (.cells [(Value.slice (some ⟨gw, 0, none⟩) xs.length wc)].toArray 46 (0, 0)) :: Blk b5 (.cells [Value.int .i64 other].toArray 3 (0, 0)) :: Blk b6 (.cells [Value.bool false].toArray 4 (0, 0)) :: Blk bm (.cells [Value.pointer (some ⟨sb, 0, none⟩)].toArray 34 (0, 0)) :: Dfr r0 :: T) (fun w hw => SPI.holds hw) ?_
      refine l_call rfl Try.call30 rfl (drop_any _ _ sb m room k1 x1 hS1 hV1 other) ?_; rintro _ _ ⟨y, lv, rfl, hS2, hV2, hQ2, rfl⟩
      have hlY := drop_len hl1 hQ2
      refine l_nil ?_
      refine g_inBlock ?_
      refine g_seq ?_
      refine g_region ?_
      refine l_ld rfl Try.isAgg34 rfl rfl ?_
      refine gl_heap (F' := Blk sb (.cells [Value.int .i64 room, .map (some m), .pointer (fstP (y) none), .pointer (lstP (y) none)].toArray 71 (0, 0)) :: Seg 75 none (y) none :: MapI m lv :: RC0 .busy none :: Blk b7 (.cells [Value.int .i64 ((i9 : Int) + 1)].toArray 3 (0, 0)) :: Own 48 2 (Value.slice (some ⟨gw, 0, none⟩) xs.length wc) xs.length (prW (pr xs)) :: Blk b3 (.cells [Value.pointer (some ⟨sb, 0, none⟩)].toArray 34 (0, 0)) :: Blk b4 (.cells [(Value.slice (some ⟨gw, 0, none⟩) xs.length wc)].toArray 46 (0, 0)) :: Blk b5 (.cells [Value.int .i64 other].toArray 3 (0, 0)) :: Blk b6 (.cells [Value.bool false].toArray 4 (0, 0)) :: Blk bm (.cells [Value.pointer (some ⟨sb, 0, none⟩)].toArray 34 (0, 0)) :: Dfr r0 :: T) (fun w hw => SPI.holds hw) ?_
      refine l_call rfl Try.call19 rfl (len_ii _ _ sb m room lv y hS2) ?_; rintro _ _ ⟨rfl, rfl⟩
      refine l_assign rfl rfl ?_
      refine l_nil ?_
      refine g_seq ?_
      refine g_region ?_
      refine l_alloc rfl Try.zeroValue3 rfl ?_; intro b11
      first | refine l_st Try.sizeOf3 rfl rfl rfl rfl ?_ | refine l_stw Try.sizeOf3 rfl rfl (by omega) ?_
      refine l_nil ?_
      refine g_seq ?_
      refine g_seq ?_
      refine g_region ?_
      refine l_ld rfl Try.isAgg34 rfl rfl ?_
      refine l_call rfl Try.call18 rfl (all_ii _ _ _) ?_; rintro _ _ ⟨bn, rfl, rfl⟩
      refine l_nil ?_
      refine g_block ?_
      refine g_rangeN (st0 := .busy) (p0 := none) hRC0 rfl (by first | exact mem_getO 0 rfl | exact mem_getO 1 rfl | exact mem_getO 2 rfl | exact mem_getO 3 rfl | exact mem_getO 4 rfl | exact mem_getO 5 rfl | exact mem_getO 6 rfl | exact mem_getO 7 rfl | exact mem_getO 8 rfl | exact mem_getO 9 rfl | exact mem_getO 10 rfl | exact mem_getO 11 rfl | exact mem_getO 12 rfl | exact mem_getO 13 rfl | exact mem_getO 14 rfl | exact mem_getO 15 rfl) Try.call38 rfl ?_
      rintro l1 RC1 hRC1
      refine CallK.heap (F2 := RC1 .ready none :: Blk b11 (.cells [Value.int .i64 0].toArray 3 (0, 0)) :: Blk sb (.cells [Value.int .i64 room, .map (some m), .pointer (fstP (y) none), .pointer (lstP (y) none)].toArray 71 (0, 0)) :: Seg 75 none (y) none :: MapI m lv :: Blk bn (.cells [Value.pointer (some ⟨sb, 0, none⟩)].toArray 34 (0, 0)) :: RC0 .busy none :: Blk b7 (.cells [Value.int .i64 ((i9 : Int) + 1)].toArray 3 (0, 0)) :: Own 48 2 (Value.slice (some ⟨gw, 0, none⟩) xs.length wc) xs.length (prW (pr xs)) :: Blk b3 (.cells [Value.pointer (some ⟨sb, 0, none⟩)].toArray 34 (0, 0)) :: Blk b4 (.cells [(Value.slice (some ⟨gw, 0, none⟩) xs.length wc)].toArray 46 (0, 0)) :: Blk b5 (.cells [Value.int .i64 other].toArray 3 (0, 0)) :: Blk b6 (.cells [Value.bool false].toArray 4 (0, 0)) :: Blk bm (.cells [Value.pointer (some ⟨sb, 0, none⟩)].toArray 34 (0, 0)) :: Dfr r0 :: T) (CallK.mono (seq_s w0 (RC0 .busy none :: Blk b7 (.cells [Value.int .i64 ((i9 : Int) + 1)].toArray 3 (0, 0)) :: Own 48 2 (Value.slice (some ⟨gw, 0, none⟩) xs.length wc) xs.length (prW (pr xs)) :: Blk b3 (.cells [Value.pointer (some ⟨sb, 0, none⟩)].toArray 34 (0, 0)) :: Blk b4 (.cells [(Value.slice (some ⟨gw, 0, none⟩) xs.length wc)].toArray 46 (0, 0)) :: Blk b5 (.cells [Value.int .i64 other].toArray 3 (0, 0)) :: Blk b6 (.cells [Value.bool false].toArray 4 (0, 0)) :: Blk bm (.cells [Value.pointer (some ⟨sb, 0, none⟩)].toArray 34 (0, 0)) :: Dfr r0 :: T) (fun x : Int => [RC1 .ready none, Blk b11 (.cells [Value.int .i64 x].toArray 3 (0, 0)), Blk sb (.cells [Value.int .i64 room, .map (some m), .pointer (fstP (y) none), .pointer (lstP (y) none)].toArray 71 (0, 0)), Seg 75 none (y) none, MapI m lv, Blk bn (.cells [Value.pointer (some ⟨sb, 0, none⟩)].toArray 34 (0, 0))]) (fun i x => x = (i : Int)) (fun _ => False) l1 bn sb y hV2 (by omega) 0 rfl (fun w hw => by have h := hw.ok (Blk bn (.cells [Value.pointer (some ⟨sb, 0, none⟩)].toArray 34 (0, 0))) (by first | exact mem_getO 0 rfl | exact mem_getO 1 rfl | exact mem_getO 2 rfl | exact mem_getO 3 rfl | exact mem_getO 4 rfl | exact mem_getO 5 rfl | exact mem_getO 6 rfl | exact mem_getO 7 rfl | exact mem_getO 8 rfl | exact mem_getO 9 rfl | exact mem_getO 10 rfl | exact mem_getO 11 rfl | exact mem_getO 12 rfl | exact mem_getO 13 rfl | exact mem_getO 14 rfl | exact mem_getO 15 rfl | exact mem_getO 16 rfl | exact mem_getO 17 rfl); exact cell_of_has (c := [Value.pointer (some ⟨sb, 0, none⟩)]) (b := bn) (o := 0) h rfl) (fun w hw => by have h := hw.ok (Blk sb (.cells [Value.int .i64 room, .map (some m), .pointer (fstP (y) none), .pointer (lstP (y) none)].toArray 71 (0, 0))) (by first | exact mem_getO 0 rfl | exact mem_getO 1 rfl | exact mem_getO 2 rfl | exact mem_getO 3 rfl | exact mem_getO 4 rfl | exact mem_getO 5 rfl | exact mem_getO 6 rfl | exact mem_getO 7 rfl | exact mem_getO 8 rfl | exact mem_getO 9 rfl | exact mem_getO 10 rfl | exact mem_getO 11 rfl | exact mem_getO 12 rfl | exact mem_getO 13 rfl | exact mem_getO 14 rfl | exact mem_getO 15 rfl | exact mem_getO 16 rfl | exact mem_getO 17 rfl); exact cell_of_has (c := [Value.int .i64 room, .map (some m), .pointer (fstP (y) none), .pointer (lstP (y) none)]) (b := sb) (o := 2) h rfl) (fun j x l2 o v hd hv => by have h9 := drop_cons hd; exact seg_cell (T := 75) (l1 := y.take j) (x := x) (l2 := l2) (p := none) (n := none) (by rw [← h9.2.1]; first | exact mem_getO 0 rfl | exact mem_getO 1 rfl | exact mem_getO 2 rfl | exact mem_getO 3 rfl | exact mem_getO 4 rfl | exact mem_getO 5 rfl | exact mem_getO 6 rfl | exact mem_getO 7 rfl | exact mem_getO 8 rfl | exact mem_getO 9 rfl | exact mem_getO 10 rfl | exact mem_getO 11 rfl | exact mem_getO 12 rfl | exact mem_getO 13 rfl | exact mem_getO 14 rfl | exact mem_getO 15 rfl | exact mem_getO 16 rfl | exact mem_getO 17 rfl) hv) (fun i x T2 hi2 hx hT2 => ?_)) (fun en F2 hG => ?_)) (fun w hw => SPI.holds hw)
      · subst hx
        dsimp only [List.cons_append, List.nil_append]
        refine c_roundR hRC1 rfl rfl ?_
        dsimp only [putL]
        refine g_skip ?_
        refine g_beginR hRC1 ?_
        refine g_block ?_
        refine g_region ?_
        first | refine l_ld rfl Try.isAgg3 rfl rfl ?_ | refine l_ldw rfl Try.isAgg3 rfl (by omega) ?_
        first | refine l_add rfl rfl rfl (w_i64 (by omega) (by omega)) ?_ | refine l_addw rfl rfl rfl ?_
        first | refine l_st Try.sizeOf3 rfl rfl rfl rfl ?_ | refine l_stw Try.sizeOf3 rfl rfl (by omega) ?_
        refine l_nil ?_
        refine g_inBlock ?_
        refine g_roundE (p := none) (F := Blk b11 (.cells [Value.int .i64 ((i : Int) + 1)].toArray 3 (0, 0)) :: Blk sb (.cells [Value.int .i64 room, .map (some m), .pointer (fstP (y) none), .pointer (lstP (y) none)].toArray 71 (0, 0)) :: Seg 75 none (y) none :: MapI m lv :: Blk bn (.cells [Value.pointer (some ⟨sb, 0, none⟩)].toArray 34 (0, 0)) :: T2) hRC1 (fun w hw => SPI.holds hw) ?_
        exact ⟨_, rfl, true, rfl, fun _ => ⟨(i : Int) + 1, by omega, fun w hw => hw⟩, fun h => (by cases h)⟩
      obtain ⟨v9, F9, rfl, hR9, hF9⟩ := hG
      refine ⟨⟨_, rfl⟩, ?_⟩
      obtain ⟨x, hx, rfl⟩ := hR9.resolve_right (fun h => by obtain ⟨_, h, _⟩ := h; exact h)
      obtain rfl : x = (y.length : Int) := hx
      refine ⟨.ready, none, Blk b11 (.cells [Value.int .i64 (y.length : Int)].toArray 3 (0, 0)) :: Blk sb (.cells [Value.int .i64 room, .map (some m), .pointer (fstP (y) none), .pointer (lstP (y) none)].toArray 71 (0, 0)) :: Seg 75 none (y) none :: MapI m lv :: Blk bn (.cells [Value.pointer (some ⟨sb, 0, none⟩)].toArray 34 (0, 0)) :: RC0 .busy none :: Blk b7 (.cells [Value.int .i64 ((i9 : Int) + 1)].toArray 3 (0, 0)) :: Own 48 2 (Value.slice (some ⟨gw, 0, none⟩) xs.length wc) xs.length (prW (pr xs)) :: Blk b3 (.cells [Value.pointer (some ⟨sb, 0, none⟩)].toArray 34 (0, 0)) :: Blk b4 (.cells [(Value.slice (some ⟨gw, 0, none⟩) xs.length wc)].toArray 46 (0, 0)) :: Blk b5 (.cells [Value.int .i64 other].toArray 3 (0, 0)) :: Blk b6 (.cells [Value.bool false].toArray 4 (0, 0)) :: Blk bm (.cells [Value.pointer (some ⟨sb, 0, none⟩)].toArray 34 (0, 0)) :: Dfr r0 :: T, (by intro h; cases h), fun w hw => SPI.holds (show Holds w0 (RC1 .ready none :: Blk b11 (.cells [Value.int .i64 (y.length : Int)].toArray 3 (0, 0)) :: Blk sb (.cells [Value.int .i64 room, .map (some m), .pointer (fstP (y) none), .pointer (lstP (y) none)].toArray 71 (0, 0)) :: Seg 75 none (y) none :: MapI m lv :: Blk bn (.cells [Value.pointer (some ⟨sb, 0, none⟩)].toArray 34 (0, 0)) :: RC0 .busy none :: Blk b7 (.cells [Value.int .i64 ((i9 : Int) + 1)].toArray 3 (0, 0)) :: Own 48 2 (Value.slice (some ⟨gw, 0, none⟩) xs.length wc) xs.length (prW (pr xs)) :: Blk b3 (.cells [Value.pointer (some ⟨sb, 0, none⟩)].toArray 34 (0, 0)) :: Blk b4 (.cells [(Value.slice (some ⟨gw, 0, none⟩) xs.length wc)].toArray 46 (0, 0)) :: Blk b5 (.cells [Value.int .i64 other].toArray 3 (0, 0)) :: Blk b6 (.cells [Value.bool false].toArray 4 (0, 0)) :: Blk bm (.cells [Value.pointer (some ⟨sb, 0, none⟩)].toArray 34 (0, 0)) :: Dfr r0 :: T) w from hF9 w hw), ?_⟩
      dsimp only [jumpK]
      refine g_inBlock ?_
      refine g_seq ?_
      refine g_region ?_
      first | refine l_ld rfl Try.isAgg3 rfl rfl ?_ | refine l_ldw rfl Try.isAgg3 rfl (by omega) ?_
      refine l_move rfl rfl ?_
      refine l_neq rfl rfl rfl ?_
      refine l_nil ?_
      refine g_cond rfl ?_ ?_
      · intro hbr
        have hbr := of_decide_eq_true hbr
        (exfalso; first | omega | (simp at hbr; done))
      intro hbr
      have hbr := of_decide_eq_false hbr
      refine g_skip ?_
      refine g_inBlock ?_
      refine g_roundE (p := none) (F := Blk b7 (.cells [Value.int .i64 ((i9 : Int) + 1)].toArray 3 (0, 0)) :: Blk sb (.cells [Value.int .i64 room, .map (some m), .pointer (fstP (y) none), .pointer (lstP (y) none)].toArray 71 (0, 0)) :: Seg 75 none (y) none :: MapI m lv :: Own 48 2 (Value.slice (some ⟨gw, 0, none⟩) xs.length wc) xs.length (prW (pr xs)) :: Blk b3 (.cells [Value.pointer (some ⟨sb, 0, none⟩)].toArray 34 (0, 0)) :: Blk b4 (.cells [(Value.slice (some ⟨gw, 0, none⟩) xs.length wc)].toArray 46 (0, 0)) :: Blk b5 (.cells [Value.int .i64 other].toArray 3 (0, 0)) :: Blk b6 (.cells [Value.bool false].toArray 4 (0, 0)) :: Blk bm (.cells [Value.pointer (some ⟨sb, 0, none⟩)].toArray 34 (0, 0)) :: Dfr r0 :: T) hRC0 (fun w hw => SPI.holds hw) ?_
      exact ⟨_, rfl, true, rfl, fun _ => ⟨(i9 + 1, y, lv), ⟨rfl, hS2, hV2, hlY⟩, fun w hw => hw⟩, fun h => (by cases h)⟩
    intro hbr
    have hbr := of_decide_eq_false hbr
    refine g_seq ?_
    refine g_region ?_
    refine l_eql rfl rfl rfl ?_
    refine l_assign rfl rfl ?_
    refine l_nil ?_
    refine g_cond rfl ?_ ?_
    · intro hbr
      have hbr := of_decide_eq_true hbr
      refine gp_start mo (by kernel_rfl) (by kernel_rfl) ?_
      refine gp_quiet 0 rfl rfl rfl rfl rfl rfl (q_ld Try.isAgg34 rfl rfl) ?_
      refine gp_quiet 1 rfl rfl rfl rfl rfl rfl (q_ld Try.isAgg46 rfl rfl) ?_
      refine gp_quiet 2 rfl rfl rfl rfl rfl rfl (q_ixs Try.underlying46 Try.sizeOf48 rfl rfl (by omega) (by omega)) ?_
      refine gp_quiet 3 rfl rfl rfl rfl rfl rfl (q_fieldAddr fa_48_0 rfl) ?_
      refine gp_quiet 4 rfl rfl rfl rfl rfl rfl (q_loadc (v := .int .i64 ((xs.map Nd.k).getD 0 0)) Try.isAgg3 rfl (pw_cell (by omega))) ?_
      refine gp_take (MapI m k1) ?_
      refine gp_take (Seg 75 none (x1) none) ?_
      refine gp_take (Blk sb (.cells [Value.int .i64 room, .map (some m), .pointer (fstP (x1) none), .pointer (lstP (x1) none)].toArray 71 (0, 0))) ?_
      refine gp_effa 5 [0, 4] [3, 2, 1] rfl rfl rfl rfl rfl rfl rfl (does_call Try.call14 rfl (get_any _ _ sb m room k1 x1 hS1 hV1 ((xs.map Nd.k).getD 0 0))) ?_
      rintro _ _ ⟨r9, y, rfl, hS2, hV2, hQ2, rfl⟩
      have hlY := get_len hl1 hQ2
      obtain ⟨lv, rfl⟩ : ∃ l, l = k1 := ⟨_, rfl⟩
      refine ⟨?_, ?_⟩
      · refine .cons rfl rfl rfl rfl rfl (q_fieldAddr fa_48_0 rfl) ?_
        refine .cons rfl rfl rfl rfl rfl (q_ixs Try.underlying46 Try.sizeOf48 rfl rfl (by omega) (by omega)) ?_
        refine .cons rfl rfl rfl rfl rfl (q_ld Try.isAgg46 rfl rfl) ?_
        exact .nil
      refine gp_end rfl rfl ?_
      refine g_inBlock ?_
      refine g_seq ?_
      refine g_region ?_
      refine l_ld rfl Try.isAgg34 rfl rfl ?_
      refine gl_heap (F' := Blk sb (.cells [Value.int .i64 room, .map (some m), .pointer (fstP (y) none), .pointer (lstP (y) none)].toArray 71 (0, 0)) :: Seg 75 none (y) none :: MapI m lv :: RC0 .busy none :: Blk b7 (.cells [Value.int .i64 ((i9 : Int) + 1)].toArray 3 (0, 0)) :: Own 48 2 (Value.slice (some ⟨gw, 0, none⟩) xs.length wc) xs.length (prW (pr xs)) :: Blk b3 (.cells [Value.pointer (some ⟨sb, 0, none⟩)].toArray 34 (0, 0)) :: Blk b4 (.cells [(Value.slice (some ⟨gw, 0, none⟩) xs.length wc)].toArray 46 (0, 0)) :: Blk b5 (.cells [Value.int .i64 other].toArray 3 (0, 0)) :: Blk b6 (.cells [Value.bool false].toArray 4 (0, 0)) :: Blk bm (.cells [Value.pointer (some ⟨sb, 0, none⟩)].toArray 34 (0, 0)) :: Dfr r0 :: T) (fun w hw => SPI.holds hw) ?_
      refine l_call rfl Try.call19 rfl (len_ii _ _ sb m room lv y hS2) ?_; rintro _ _ ⟨rfl, rfl⟩
      refine l_assign rfl rfl ?_
      refine l_nil ?_
      refine g_seq ?_
      refine g_region ?_
      refine l_alloc rfl Try.zeroValue3 rfl ?_; intro b11
      first | refine l_st Try.sizeOf3 rfl rfl rfl rfl ?_ | refine l_stw Try.sizeOf3 rfl rfl (by omega) ?_
      refine l_nil ?_
      refine g_seq ?_
      refine g_seq ?_
      refine g_region ?_
      refine l_ld rfl Try.isAgg34 rfl rfl ?_
      refine l_call rfl Try.call18 rfl (all_ii _ _ _) ?_; rintro _ _ ⟨bn, rfl, rfl⟩
      refine l_nil ?_
      refine g_block ?_
      refine g_rangeN (st0 := .busy) (p0 := none) hRC0 rfl (by first | exact mem_getO 0 rfl | exact mem_getO 1 rfl | exact mem_getO 2 rfl | exact mem_getO 3 rfl | exact mem_getO 4 rfl | exact mem_getO 5 rfl | exact mem_getO 6 rfl | exact mem_getO 7 rfl | exact mem_getO 8 rfl | exact mem_getO 9 rfl | exact mem_getO 10 rfl | exact mem_getO 11 rfl | exact mem_getO 12 rfl | exact mem_getO 13 rfl | exact mem_getO 14 rfl | exact mem_getO 15 rfl) Try.call38 rfl ?_
      rintro l1 RC1 hRC1
      refine CallK.heap (F2 := RC1 .ready none :: Blk b11 (.cells [Value.int .i64 0].toArray 3 (0, 0)) :: Blk sb (.cells [Value.int .i64 room, .map (some m), .pointer (fstP (y) none), .pointer (lstP (y) none)].toArray 71 (0, 0)) :: Seg 75 none (y) none :: MapI m lv :: Blk bn (.cells [Value.pointer (some ⟨sb, 0, none⟩)].toArray 34 (0, 0)) :: RC0 .busy none :: Blk b7 (.cells [Value.int .i64 ((i9 : Int) + 1)].toArray 3 (0, 0)) :: Own 48 2 (Value.slice (some ⟨gw, 0, none⟩) xs.length wc) xs.length (prW (pr xs)) :: Blk b3 (.cells [Value.pointer (some ⟨sb, 0, none⟩)].toArray 34 (0, 0)) :: Blk b4 (.cells [(Value.slice (some ⟨gw, 0, none⟩) xs.length wc)].toArray 46 (0, 0)) :: Blk b5 (.cells [Value.int .i64 other].toArray 3 (0, 0)) :: Blk b6 (.cells [Value.bool false].toArray 4 (0, 0)) :: Blk bm (.cells [Value.pointer (some ⟨sb, 0, none⟩)].toArray 34 (0, 0)) :: Dfr r0 :: T) (CallK.mono (seq_s w0 (RC0 .busy none :: Blk b7 (.cells [Value.int .i64 ((i9 : Int) + 1)].toArray 3 (0, 0)) :: Own 48 2 (Value.slice (some ⟨gw, 0, none⟩) xs.length wc) xs.length (prW (pr xs)) :: Blk b3 (.cells [Value.pointer (some ⟨sb, 0, none⟩)].toArray 34 (0, 0)) :: Blk b4 (.cells [(Value.slice (some ⟨gw, 0, none⟩) xs.length wc)].toArray 46 (0, 0)) :: Blk b5 (.cells [Value.int .i64 other].toArray 3 (0, 0)) :: Blk b6 (.cells [Value.bool false].toArray 4 (0, 0)) :: Blk bm (.cells [Value.pointer (some ⟨sb, 0, none⟩)].toArray 34 (0, 0)) :: Dfr r0 :: T) (fun x : Int => [RC1 .ready none, Blk b11 (.cells [Value.int .i64 x].toArray 3 (0, 0)), Blk sb (.cells [Value.int .i64 room, .map (some m), .pointer (fstP (y) none), .pointer (lstP (y) none)].toArray 71 (0, 0)), Seg 75 none (y) none, MapI m lv, Blk bn (.cells [Value.pointer (some ⟨sb, 0, none⟩)].toArray 34 (0, 0))]) (fun i x => x = (i : Int)) (fun _ => False) l1 bn sb y hV2 (by omega) 0 rfl (fun w hw => by have h := hw.ok (Blk bn (.cells [Value.pointer (some ⟨sb, 0, none⟩)].toArray 34 (0, 0))) (by first | exact mem_getO 0 rfl | exact mem_getO 1 rfl | exact mem_getO 2 rfl | exact mem_getO 3 rfl | exact mem_getO 4 rfl | exact mem_getO 5 rfl | exact mem_getO 6 rfl | exact mem_getO 7 rfl | exact mem_getO 8 rfl | exact mem_getO 9 rfl | exact mem_getO 10 rfl | exact mem_getO 11 rfl | exact mem_getO 12 rfl | exact mem_getO 13 rfl | exact mem_getO 14 rfl | exact mem_getO 15 rfl | exact mem_getO 16 rfl | exact mem_getO 17 rfl); exact cell_of_has (c := [Value.pointer (some ⟨sb, 0, none⟩)]) (b := bn) (o := 0) h rfl) (fun w hw => by have h := hw.ok (Blk sb (.cells [Value.int .i64 room, .map (some m), .pointer (fstP (y) none), .pointer (lstP (y) none)].toArray 71 (0, 0))) (by first | exact mem_getO 0 rfl | exact mem_getO 1 rfl | exact mem_getO 2 rfl | exact mem_getO 3 rfl | exact mem_getO 4 rfl | exact mem_getO 5 rfl | exact mem_getO 6 rfl | exact mem_getO 7 rfl | exact mem_getO 8 rfl | exact mem_getO 9 rfl | exact mem_getO 10 rfl | exact mem_getO 11 rfl | exact mem_getO 12 rfl | exact mem_getO 13 rfl | exact mem_getO 14 rfl | exact mem_getO 15 rfl | exact mem_getO 16 rfl | exact mem_getO 17 rfl); exact cell_of_has (c := [Value.int .i64 room, .map (some m), .pointer (fstP (y) none), .pointer (lstP (y) none)]) (b := sb) (o := 2) h rfl) (fun j x l2 o v hd hv => by have h9 := drop_cons hd; exact seg_cell (T := 75) (l1 := y.take j) (x := x) (l2 := l2) (p := none) (n := none) (by rw [← h9.2.1]; first | exact mem_getO 0 rfl | exact mem_getO 1 rfl | exact mem_getO 2 rfl | exact mem_getO 3 rfl | exact mem_getO 4 rfl | exact mem_getO 5 rfl | exact mem_getO 6 rfl | exact mem_getO 7 rfl | exact mem_getO 8 rfl | exact mem_getO 9 rfl | exact mem_getO 10 rfl | exact mem_getO 11 rfl | exact mem_getO 12 rfl | exact mem_getO 13 rfl | exact mem_getO 14 rfl | exact mem_getO 15 rfl | exact mem_getO 16 rfl | exact mem_getO 17 rfl) hv) (fun i x T2 hi2 hx hT2 => ?_)) (fun en F2 hG => ?_)) (fun w hw => SPI.holds hw)
      · subst hx
        dsimp only [List.cons_append, List.nil_append]
        refine c_roundR hRC1 rfl rfl ?_
        dsimp only [putL]
        refine g_skip ?_
        refine g_beginR hRC1 ?_
        refine g_block ?_
        refine g_region ?_
        first | refine l_ld rfl Try.isAgg3 rfl rfl ?_ | refine l_ldw rfl Try.isAgg3 rfl (by omega) ?_
        first | refine l_add rfl rfl rfl (w_i64 (by omega) (by omega)) ?_ | refine l_addw rfl rfl rfl ?_
        first | refine l_st Try.sizeOf3 rfl rfl rfl rfl ?_ | refine l_stw Try.sizeOf3 rfl rfl (by omega) ?_
        refine l_nil ?_
        refine g_inBlock ?_
        refine g_roundE (p := none) (F := Blk b11 (.cells [Value.int .i64 ((i : Int) + 1)].toArray 3 (0, 0)) :: Blk sb (.cells [Value.int .i64 room, .map (some m), .pointer (fstP (y) none), .pointer (lstP (y) none)].toArray 71 (0, 0)) :: Seg 75 none (y) none :: MapI m lv :: Blk bn (.cells [Value.pointer (some ⟨sb, 0, none⟩)].toArray 34 (0, 0)) :: T2) hRC1 (fun w hw => SPI.holds hw) ?_
        exact ⟨_, rfl, true, rfl, fun _ => ⟨(i : Int) + 1, by omega, fun w hw => hw⟩, fun h => (by cases h)⟩
      obtain ⟨v9, F9, rfl, hR9, hF9⟩ := hG
      refine ⟨⟨_, rfl⟩, ?_⟩
      obtain ⟨x, hx, rfl⟩ := hR9.resolve_right (fun h => by obtain ⟨_, h, _⟩ := h; exact h)
      obtain rfl : x = (y.length : Int) := hx
      refine ⟨.ready, none, Blk b11 (.cells [Value.int .i64 (y.length : Int)].toArray 3 (0, 0)) :: Blk sb (.cells [Value.int .i64 room, .map (some m), .pointer (fstP (y) none), .pointer (lstP (y) none)].toArray 71 (0, 0)) :: Seg 75 none (y) none :: MapI m lv :: Blk bn (.cells [Value.pointer (some ⟨sb, 0, none⟩)].toArray 34 (0, 0)) :: RC0 .busy none :: Blk b7 (.cells [Value.int .i64 ((i9 : Int) + 1)].toArray 3 (0, 0)) :: Own 48 2 (Value.slice (some ⟨gw, 0, none⟩) xs.length wc) xs.length (prW (pr xs)) :: Blk b3 (.cells [Value.pointer (some ⟨sb, 0, none⟩)].toArray 34 (0, 0)) :: Blk b4 (.cells [(Value.slice (some ⟨gw, 0, none⟩) xs.length wc)].toArray 46 (0, 0)) :: Blk b5 (.cells [Value.int .i64 other].toArray 3 (0, 0)) :: Blk b6 (.cells [Value.bool false].toArray 4 (0, 0)) :: Blk bm (.cells [Value.pointer (some ⟨sb, 0, none⟩)].toArray 34 (0, 0)) :: Dfr r0 :: T, (by intro h; cases h), fun w hw => SPI.holds (show Holds w0 (RC1 .ready none :: Blk b11 (.cells [Value.int .i64 (y.length : Int)].toArray 3 (0, 0)) :: Blk sb (.cells [Value.int .i64 room, .map (some m), .pointer (fstP (y) none), .pointer (lstP (y) none)].toArray 71 (0, 0)) :: Seg 75 none (y) none :: MapI m lv :: Blk bn (.cells [Value.pointer (some ⟨sb, 0, none⟩)].toArray 34 (0, 0)) :: RC0 .busy none :: Blk b7 (.cells [Value.int .i64 ((i9 : Int) + 1)].toArray 3 (0, 0)) :: Own 48 2 (Value.slice (some ⟨gw, 0, none⟩) xs.length wc) xs.length (prW (pr xs)) :: Blk b3 (.cells [Value.pointer (some ⟨sb, 0, none⟩)].toArray 34 (0, 0)) :: Blk b4 (.cells [(Value.slice (some ⟨gw, 0, none⟩) xs.length wc)].toArray 46 (0, 0)) :: Blk b5 (.cells [Value.int .i64 other].toArray 3 (0, 0)) :: Blk b6 (.cells [Value.bool false].toArray 4 (0, 0)) :: Blk bm (.cells [Value.pointer (some ⟨sb, 0, none⟩)].toArray 34 (0, 0)) :: Dfr r0 :: T) w from hF9 w hw), ?_⟩
      dsimp only [jumpK]
      refine g_inBlock ?_
      refine g_seq ?_
      refine g_region ?_
      first | refine l_ld rfl Try.isAgg3 rfl rfl ?_ | refine l_ldw rfl Try.isAgg3 rfl (by omega) ?_
      refine l_move rfl rfl ?_
      refine l_neq rfl rfl rfl ?_
      refine l_nil ?_
      refine g_cond rfl ?_ ?_
      · intro hbr
        have hbr := of_decide_eq_true hbr
        (exfalso; first | omega | (simp at hbr; done))
      intro hbr
      have hbr := of_decide_eq_false hbr
      refine g_skip ?_
      refine g_inBlock ?_
      refine g_roundE (p := none) (F := Blk b7 (.cells [Value.int .i64 ((i9 : Int) + 1)].toArray 3 (0, 0)) :: Blk sb (.cells [Value.int .i64 room, .map (some m), .pointer (fstP (y) none), .pointer (lstP (y) none)].toArray 71 (0, 0)) :: Seg 75 none (y) none :: MapI m lv :: Own 48 2 (Value.slice (some ⟨gw, 0, none⟩) xs.length wc) xs.length (prW (pr xs)) :: Blk b3 (.cells [Value.pointer (some ⟨sb, 0, none⟩)].toArray 34 (0, 0)) :: Blk b4 (.cells [(Value.slice (some ⟨gw, 0, none⟩) xs.length wc)].toArray 46 (0, 0)) :: Blk b5 (.cells [Value.int .i64 other].toArray 3 (0, 0)) :: Blk b6 (.cells [Value.bool false].toArray 4 (0, 0)) :: Blk bm (.cells [Value.pointer (some ⟨sb, 0, none⟩)].toArray 34 (0, 0)) :: Dfr r0 :: T) hRC0 (fun w hw => SPI.holds hw) ?_
      exact ⟨_, rfl, true, rfl, fun _ => ⟨(i9 + 1, y, lv), ⟨rfl, hS2, hV2, hlY⟩, fun w hw => hw⟩, fun h => (by cases h)⟩
    · intro hbr
      have hbr := of_decide_eq_false hbr
      (exfalso; first | omega | (simp at hbr; done))
  obtain ⟨v9, F9, rfl, hR9, hF9⟩ := hG
  refine ⟨⟨_, rfl⟩, ?_⟩
  obtain ⟨⟨n9, y, lv⟩, ⟨hx, hS2, hV2, hl2⟩, rfl⟩ := hR9.resolve_right (fun h => by obtain ⟨_, h, _⟩ := h; exact h)
  obtain rfl : n9 = xs.length := hx
  simp only at hS2 hV2 hl2
  refine ⟨.ready, none, Blk b7 (.cells [Value.int .i64 (xs.length : Int)].toArray 3 (0, 0)) :: Blk sb (.cells [Value.int .i64 room, .map (some m), .pointer (fstP (y) none), .pointer (lstP (y) none)].toArray 71 (0, 0)) :: Seg 75 none (y) none :: MapI m lv :: Own 48 2 (Value.slice wa xs.length wc) xs.length (prW (pr xs)) :: Blk b3 (.cells [Value.pointer (some ⟨sb, 0, none⟩)].toArray 34 (0, 0)) :: Blk b4 (.cells [(Value.slice wa xs.length wc)].toArray 46 (0, 0)) :: Blk b5 (.cells [Value.int .i64 other].toArray 3 (0, 0)) :: Blk b6 (.cells [Value.bool false].toArray 4 (0, 0)) :: Blk bm (.cells [Value.pointer (some ⟨sb, 0, none⟩)].toArray 34 (0, 0)) :: Dfr r0 :: F, (by intro h; cases h), fun w hw => SPI.holds (show Holds w0 (RC0 .ready none :: Blk b7 (.cells [Value.int .i64 (xs.length : Int)].toArray 3 (0, 0)) :: Blk sb (.cells [Value.int .i64 room, .map (some m), .pointer (fstP (y) none), .pointer (lstP (y) none)].toArray 71 (0, 0)) :: Seg 75 none (y) none :: MapI m lv :: Own 48 2 (Value.slice wa xs.length wc) xs.length (prW (pr xs)) :: Blk b3 (.cells [Value.pointer (some ⟨sb, 0, none⟩)].toArray 34 (0, 0)) :: Blk b4 (.cells [(Value.slice wa xs.length wc)].toArray 46 (0, 0)) :: Blk b5 (.cells [Value.int .i64 other].toArray 3 (0, 0)) :: Blk b6 (.cells [Value.bool false].toArray 4 (0, 0)) :: Blk bm (.cells [Value.pointer (some ⟨sb, 0, none⟩)].toArray 34 (0, 0)) :: Dfr r0 :: F) w from hF9 w hw), ?_⟩
  dsimp only [jumpK]
  refine g_inBlock ?_
  refine g_seq ?_
  refine g_region ?_
  first | refine l_ld rfl Try.isAgg3 rfl rfl ?_ | refine l_ldw rfl Try.isAgg3 rfl (by omega) ?_
  refine l_ld rfl Try.isAgg46 rfl rfl ?_
  refine l_len rfl Try.underlying46 rfl ?_
  refine l_eql rfl rfl rfl ?_
  refine l_st Try.sizeOf4 rfl rfl rfl rfl ?_
  refine l_nil ?_
  refine g_heap (F' := Dfr r0 :: Blk b6 (.cells [Value.bool (decide ((xs.length : Int) = (xs.length : Int)))].toArray 4 (0, 0)) :: Blk sb (.cells [Value.int .i64 room, .map (some m), .pointer (fstP (y) none), .pointer (lstP (y) none)].toArray 71 (0, 0)) :: Seg 75 none (y) none :: MapI m lv :: Own 48 2 (Value.slice wa xs.length wc) xs.length (prW (pr xs)) :: F) (fun w hw => SPI.holds hw) ?_
  refine g_ret_m (F := Blk b6 (.cells [Value.bool (decide ((xs.length : Int) = (xs.length : Int)))].toArray 4 (0, 0)) :: Blk sb (.cells [Value.int .i64 room, .map (some m), .pointer (fstP (y) none), .pointer (lstP (y) none)].toArray 71 (0, 0)) :: Seg 75 none (y) none :: MapI m lv :: Own 48 2 (Value.slice wa xs.length wc) xs.length (prW (pr xs)) :: F) [r0] rfl Try.func20 (fun w hw => hw) rfl (.ci rfl Try.isAgg4 rfl .nil) ?_
  exact Gives.mki ⟨y, lv, congrArg Value.bool (decide_eq_true rfl), hS2, hV2, hl2, rfl⟩
end Go.Proofs.Ytjfibfbknfeflaa.Fw
