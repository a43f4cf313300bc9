import Derived.Test.YtjfibfbknfeflaaDoorDSeq
namespace Go.Proofs.YtjfibfbknfeflaaDoor.Fw
open Go Go.Proofs
set_option linter.unusedVariables false
set_option linter.unusedSimpArgs false
set_option maxRecDepth 10000
theorem fa_46_0 (a : Addr) (w : World) : (Instr.fieldAt 46 (.pointer (some a)) 0).run Tryd.prog w = .ok (.pointer (some (a.add 0))) w := by
  simp [Instr.fieldAt, Tryd.runUnderlying46, Instr.sureAddr, fieldPlace, Tryd.sizeOf42, Sem.run_bind, Sem.run_pure]
theorem fa_46_1 (a : Addr) (w : World) : (Instr.fieldAt 46 (.pointer (some a)) 1).run Tryd.prog w = .ok (.pointer (some (a.add 1))) w := by
  simp [Instr.fieldAt, Tryd.runUnderlying46, Instr.sureAddr, fieldPlace, Tryd.sizeOf32, Sem.run_bind, Sem.run_pure]
/-- The two shelves say the same. -/
def Both (room : Int) (kv : List (Int × Value)) (xs : List Nd) (L : List (ByteArray × ByteArray)) (ka va : Option Addr) : Prop :=
  ShOk kv xs ∧ VSt xs ∧ (xs.length : Int) ≤ room ∧ L = mp keyT (fun v => v) (prs xs) ∧ (L.length = 0 ∨ ∃ g, ka = some ⟨g, 0, none⟩) ∧ (L.length = 0 ∨ ∃ g, va = some ⟨g, 0, none⟩)
theorem both_len {xs : List Nd} {L : List (ByteArray × ByteArray)} (h : L = mp keyT (fun v => v) (prs xs)) : L.length = xs.length := by rw [h, mp_len, pg_len]
theorem both_at {xs : List Nd} {L : List (ByteArray × ByteArray)} (h : L = mp keyT (fun v => v) (prs xs)) {i : Nat} (hi : i < xs.length) : L[i]? = some (keyT ((xs.map Nd.k).getD i 0), (xs.map fun x : Nd => vstr x.v).getD i ⟨#[]⟩) := by
  subst h
  simp [mp, pg, hi]
theorem both_has {xs : List Nd} {L : List (ByteArray × ByteArray)} (h : L = mp keyT (fun v => v) (prs xs)) (k : Int) : hasG L (keyT k) = hasG (prs xs) k := by
  subst h
  exact hasG_mp keyT_inj _ _
theorem both_val {xs : List Nd} {L : List (ByteArray × ByteArray)} (h : L = mp keyT (fun v => v) (prs xs)) (k : Int) : valG ⟨#[]⟩ L (keyT k) = valG ⟨#[]⟩ (prs xs) k := by
  cases hc : hasG (prs xs) k with
  | true =>
    subst h
    exact valG_mp keyT_inj _ _ _ _ hc
  | false => rw [valG_none hc, valG_none (by rw [both_has h]; exact hc)]
theorem both_nodup {kv : List (Int × Value)} {xs : List Nd} {L : List (ByteArray × ByteArray)} (hS : ShOk kv xs) (h : L = mp keyT (fun v => v) (prs xs)) : (L.map (·.1)).Nodup := by
  subst h
  have h1 := hS.nd
  have e : (mp keyT (fun v => v) (prs xs)).map (·.1) = (xs.map Nd.k).map keyT := by simp [mp, pg, Function.comp_def]
  rw [e]
  exact (List.pairwise_map.2 (h1.imp fun hne e => hne (keyT_inj _ _ e)))
set_option maxHeartbeats 4000000 in
theorem all_ok (w0 : World) (F : List Atom) (sb m rb : Nat) (room : Int) (kv : List (Int × Value)) (xs : List Nd) (L : List (ByteArray × ByteArray)) (ka va : Option Addr) (kc vc : Nat) (hB : Both room kv xs L ka va) (hr2 : room ≤ 4096) (hkeys : ∀ j, I64 ((xs.map Nd.k).getD j 0)) (hT : Tab w0 F) :
    CallK Tryd.prog 16 [.agg #[.pointer (some ⟨sb, 0, none⟩), .pointer (some ⟨rb, 0, none⟩)]] w0 (Blk sb (.cells [Value.int .i64 room, .map (some m), .pointer (fstP (xs) none), .pointer (lstP (xs) none)].toArray 79 (0, 0)) :: Seg 106 none (xs) none :: MapI m kv :: Blk rb (.cells [Value.int .i64 room, .slice ka L.length kc, .slice va L.length vc].toArray 58 (0, 0)) :: Own 9 1 (.slice ka L.length kc) L.length (strs (k1 L)) :: Own 9 1 (.slice va L.length vc) L.length (strs (k2 L)) :: F) (Gives w0 fun v F2 => v = .bool true ∧ F2 = Blk sb (.cells [Value.int .i64 room, .map (some m), .pointer (fstP (xs) none), .pointer (lstP (xs) none)].toArray 79 (0, 0)) :: Seg 106 none (xs) none :: MapI m kv :: Blk rb (.cells [Value.int .i64 room, .slice ka L.length kc, .slice va L.length vc].toArray 58 (0, 0)) :: Own 9 1 (.slice ka L.length kc) L.length (strs (k1 L)) :: Own 9 1 (.slice va L.length vc) L.length (strs (k2 L)) :: F) := by
  obtain ⟨hS, hV, hl, hL, hk, hv⟩ := hB
  have hll := both_len hL
  refine c_enter Tryd.func16 rfl rfl rfl ?_
  refine g_seq ?_
  refine g_region ?_
  refine l_boxs rfl rfl ?_; intro b1
  refine l_alloc rfl Tryd.zeroValue4 rfl ?_; intro b2
  refine l_nil ?_
  refine g_seq ?_
  refine g_region ?_
  refine l_fieldAddr rfl fa_46_0 rfl ?_
  refine l_ld rfl Tryd.isAgg42 rfl rfl ?_
  refine l_call rfl Tryd.call44 rfl (all_is _ _ _) ?_; rintro _ _ ⟨bm, rfl, rfl⟩
  refine l_assign rfl rfl ?_
  refine l_nil ?_
  refine g_seq ?_
  refine g_seq ?_
  refine g_region ?_
  refine l_move rfl rfl ?_
  refine l_eqfn rfl Tryd.underlying84 rfl rfl ?_
  refine l_nil ?_
  refine g_cond_f rfl ?_
  refine g_skip ?_
  refine g_seq ?_
  refine g_region ?_
  refine l_alloc rfl Tryd.zeroValue3 rfl ?_; intro b4
  first | refine l_st Tryd.sizeOf3 rfl rfl rfl rfl ?_ | refine l_stw Tryd.sizeOf3 rfl rfl (by omega) ?_
  refine l_nil ?_
  refine g_seq ?_
  refine g_seq ?_
  refine g_region ?_
  refine l_move rfl rfl ?_
  refine l_nil ?_
  refine g_block ?_
  refine g_rangeR rfl Tryd.call58 rfl ?_
  rintro r0 l0 RC0 hRC0
  refine CallK.heap (F2 := RC0 .ready none :: Blk b4 (.cells [Value.int .i64 0].toArray 3 (0, 0)) :: Blk sb (.cells [Value.int .i64 room, .map (some m), .pointer (fstP (xs) none), .pointer (lstP (xs) none)].toArray 79 (0, 0)) :: Seg 106 none (xs) none :: MapI m kv :: Blk rb (.cells [Value.int .i64 room, .slice ka L.length kc, .slice va L.length vc].toArray 58 (0, 0)) :: Own 9 1 (.slice ka L.length kc) L.length (strs (k1 L)) :: Own 9 1 (.slice va L.length vc) L.length (strs (k2 L)) :: Blk b1 (.cells [Value.pointer (some ⟨sb, 0, none⟩), .pointer (some ⟨rb, 0, none⟩)].toArray 46 (0, 0)) :: Blk b2 (.cells [Value.bool false].toArray 4 (0, 0)) :: Blk bm (.cells [Value.pointer (some ⟨sb, 0, none⟩)].toArray 42 (0, 0)) :: Dfr r0 :: F) (CallK.mono (seq_s w0 F (fun x : Int => [RC0 .ready none, Blk b4 (.cells [Value.int .i64 x].toArray 3 (0, 0)), Blk sb (.cells [Value.int .i64 room, .map (some m), .pointer (fstP (xs) none), .pointer (lstP (xs) none)].toArray 79 (0, 0)), Seg 106 none (xs) none, MapI m kv, Blk rb (.cells [Value.int .i64 room, .slice ka L.length kc, .slice va L.length vc].toArray 58 (0, 0)), Own 9 1 (.slice ka L.length kc) L.length (strs (k1 L)), Own 9 1 (.slice va L.length vc) L.length (strs (k2 L)), Blk b1 (.cells [Value.pointer (some ⟨sb, 0, none⟩), .pointer (some ⟨rb, 0, none⟩)].toArray 46 (0, 0)), Blk b2 (.cells [Value.bool false].toArray 4 (0, 0)), Blk bm (.cells [Value.pointer (some ⟨sb, 0, none⟩)].toArray 42 (0, 0)), Dfr r0]) (fun i x => x = (i : Int)) (fun _ => False) l0 bm sb xs hV (by omega) 0 rfl (fun w hw => by have h := hw.ok (Blk bm (.cells [Value.pointer (some ⟨sb, 0, none⟩)].toArray 42 (0, 0))) (by first | exact mem_getO 0 rfl | exact mem_getO 1 rfl | exact mem_getO 2 rfl | exact mem_getO 3 rfl | exact mem_getO 4 rfl | exact mem_getO 5 rfl | exact mem_getO 6 rfl | exact mem_getO 7 rfl | exact mem_getO 8 rfl | exact mem_getO 9 rfl | exact mem_getO 10 rfl | exact mem_getO 11 rfl | exact mem_getO 12 rfl | exact mem_getO 13 rfl | exact mem_getO 14 rfl | exact mem_getO 15 rfl | exact mem_getO 16 rfl | exact mem_getO 17 rfl); exact cell_of_has (c := [Value.pointer (some ⟨sb, 0, none⟩)]) (b := bm) (o := 0) h rfl) (fun w hw => by have h := hw.ok (Blk sb (.cells [Value.int .i64 room, .map (some m), .pointer (fstP (xs) none), .pointer (lstP (xs) none)].toArray 79 (0, 0))) (by first | exact mem_getO 0 rfl | exact mem_getO 1 rfl | exact mem_getO 2 rfl | exact mem_getO 3 rfl | exact mem_getO 4 rfl | exact mem_getO 5 rfl | exact mem_getO 6 rfl | exact mem_getO 7 rfl | exact mem_getO 8 rfl | exact mem_getO 9 rfl | exact mem_getO 10 rfl | exact mem_getO 11 rfl | exact mem_getO 12 rfl | exact mem_getO 13 rfl | exact mem_getO 14 rfl | exact mem_getO 15 rfl | exact mem_getO 16 rfl | exact mem_getO 17 rfl); exact cell_of_has (c := [Value.int .i64 room, .map (some m), .pointer (fstP (xs) none), .pointer (lstP (xs) none)]) (b := sb) (o := 2) h rfl) (fun j x l2 o v hd hv => by have h9 := drop_cons hd; exact seg_cell (T := 106) (l1 := xs.take j) (x := x) (l2 := l2) (p := none) (n := none) (by rw [← h9.2.1]; first | exact mem_getO 0 rfl | exact mem_getO 1 rfl | exact mem_getO 2 rfl | exact mem_getO 3 rfl | exact mem_getO 4 rfl | exact mem_getO 5 rfl | exact mem_getO 6 rfl | exact mem_getO 7 rfl | exact mem_getO 8 rfl | exact mem_getO 9 rfl | exact mem_getO 10 rfl | exact mem_getO 11 rfl | exact mem_getO 12 rfl | exact mem_getO 13 rfl | exact mem_getO 14 rfl | exact mem_getO 15 rfl | exact mem_getO 16 rfl | exact mem_getO 17 rfl) hv) (fun i x T hi hx hT2 => ?_)) (fun en F2 hG => ?_)) (fun w hw => SPI.holds hw)
  · subst hx
    obtain ⟨gk, rfl⟩ := hk.resolve_left (by omega)
    obtain ⟨gv, rfl⟩ := hv.resolve_left (by omega)
    obtain ⟨hp1, hp2⟩ := k1_at (both_at hL hi)
    have hT3 := hT.to hT2
    have hki := hkeys i
    dsimp only [List.cons_append, List.nil_append]
    refine c_roundR hRC0 rfl rfl ?_
    dsimp only [putL]
    refine g_seq ?_
    refine g_region ?_
    refine l_assign rfl rfl ?_
    refine l_nil ?_
    refine g_region ?_
    refine l_assign rfl rfl ?_
    refine l_nil ?_
    refine g_beginR hRC0 ?_
    refine g_block ?_
    refine g_seq ?_
    refine g_seq ?_
    refine gp_start mo (by kernel_rfl) (by kernel_rfl) ?_
    first | refine gp_quiet 0 rfl rfl rfl rfl rfl rfl (q_ld Tryd.isAgg3 rfl rfl) ?_ | refine gp_quiet 0 rfl rfl rfl rfl rfl rfl (q_ldw Tryd.isAgg3 rfl (by omega)) ?_
    refine gp_quiet 1 rfl rfl rfl rfl rfl rfl (q_fieldAddr fa_46_1 rfl) ?_
    refine gp_quiet 2 rfl rfl rfl rfl rfl rfl (q_ld Tryd.isAgg32 rfl rfl) ?_
    refine gp_quiet 3 rfl rfl rfl rfl rfl rfl (q_nilCheck rfl) ?_
    refine gp_quiet 4 rfl rfl rfl rfl rfl rfl (q_fieldAddr fa_58_1 rfl) ?_
    refine gp_quiet 5 rfl rfl rfl rfl rfl rfl (q_ld Tryd.isAgg56 rfl rfl) ?_
    refine gp_quiet 6 rfl rfl rfl rfl rfl rfl (q_len Tryd.underlying56 rfl) ?_
    refine gp_quiet 7 rfl rfl rfl rfl rfl rfl (q_geq rfl rfl) ?_
    refine gp_quiet 8 rfl rfl rfl rfl rfl rfl (q_move rfl) ?_
    refine gp_split 23 rfl ?_ ?_
    · intro hbr
      have hbr := of_decide_eq_true hbr
      (exfalso; first | omega | (simp at hbr; done))
    intro hbr
    have hg23 := hbr
    have hbr := of_decide_eq_false hbr
    refine gp_quietg 9 rfl rfl rfl rfl rfl rfl (.yes rfl rfl (q_move rfl)) ?_
    refine gp_quietg 11 rfl rfl rfl rfl rfl rfl (.yes rfl rfl (q_fieldAddr fa_46_1 rfl)) ?_
    refine gp_quietg 12 rfl rfl rfl rfl rfl rfl (.yes rfl rfl (q_ld Tryd.isAgg32 rfl rfl)) ?_
    refine gp_quietg 13 rfl rfl rfl rfl rfl rfl (.yes rfl rfl (q_nilCheck rfl)) ?_
    refine gp_quietg 14 rfl rfl rfl rfl rfl rfl (.yes rfl rfl (q_fieldAddr fa_58_1 rfl)) ?_
    refine gp_quietg 15 rfl rfl rfl rfl rfl rfl (.yes rfl rfl (q_ld Tryd.isAgg56 rfl rfl)) ?_
    first | refine gp_quietg 16 rfl rfl rfl rfl rfl rfl (.yes rfl rfl (q_ld Tryd.isAgg3 rfl rfl)) ?_ | refine gp_quietg 16 rfl rfl rfl rfl rfl rfl (.yes rfl rfl (q_ldw Tryd.isAgg3 rfl (by omega))) ?_
    refine gp_quietg 17 rfl rfl rfl rfl rfl rfl (.yes rfl rfl (q_ixs Tryd.underlying56 Tryd.sizeOf9 rfl rfl (by omega) (by omega))) ?_
    refine gp_quietg 18 rfl rfl rfl rfl rfl rfl (.yes rfl rfl (q_loadc (v := .string (keyT ((xs.map Nd.k).getD i 0))) Tryd.isAgg9 rfl (str_cell hp1 (by omega)))) ?_
    refine gp_effg 10 rfl rfl rfl rfl rfl rfl (.yes rfl rfl rfl) (Does.guard (does_call Tryd.call24 rfl (key_ok _ _ _ hki hT3.ex))) ?_
    rintro _ _ ⟨rfl, rfl⟩
    refine ⟨?_, ?_⟩
    · refine .consG rfl rfl rfl rfl rfl (.yes rfl rfl (q_loadc (v := .string (keyT ((xs.map Nd.k).getD i 0))) Tryd.isAgg9 rfl (str_cell hp1 (by omega)))) ?_
      refine .consG rfl rfl rfl rfl rfl (.yes rfl rfl (q_ixs Tryd.underlying56 Tryd.sizeOf9 rfl rfl (by omega) (by omega))) ?_
      first | refine .consG rfl rfl rfl rfl rfl (.yes rfl rfl (q_ld Tryd.isAgg3 rfl rfl)) ?_ | refine .consG rfl rfl rfl rfl rfl (.yes rfl rfl (q_ldw Tryd.isAgg3 rfl (by omega))) ?_
      refine .consG rfl rfl rfl rfl rfl (.yes rfl rfl (q_ld Tryd.isAgg56 rfl rfl)) ?_
      refine .consG rfl rfl rfl rfl rfl (.yes rfl rfl (q_fieldAddr fa_58_1 rfl)) ?_
      refine .consG rfl rfl rfl rfl rfl (.yes rfl rfl (q_nilCheck rfl)) ?_
      refine .consG rfl rfl rfl rfl rfl (.yes rfl rfl (q_ld Tryd.isAgg32 rfl rfl)) ?_
      refine .consG rfl rfl rfl rfl rfl (.yes rfl rfl (q_fieldAddr fa_46_1 rfl)) ?_
      refine .consG rfl rfl rfl rfl rfl (.yes rfl rfl (q_move rfl)) ?_
      refine .cons rfl rfl rfl rfl rfl (QV.as (q_move rfl) (congrArg Value.bool hg23)) ?_
      refine .cons rfl rfl rfl rfl rfl (q_geq rfl rfl) ?_
      refine .cons rfl rfl rfl rfl rfl (q_len Tryd.underlying56 rfl) ?_
      refine .cons rfl rfl rfl rfl rfl (q_ld Tryd.isAgg56 rfl rfl) ?_
      refine .cons rfl rfl rfl rfl rfl (q_fieldAddr fa_58_1 rfl) ?_
      refine .cons rfl rfl rfl rfl rfl (q_nilCheck rfl) ?_
      refine .cons rfl rfl rfl rfl rfl (q_ld Tryd.isAgg32 rfl rfl) ?_
      refine .cons rfl rfl rfl rfl rfl (q_fieldAddr fa_46_1 rfl) ?_
      first | refine .cons rfl rfl rfl rfl rfl (q_ld Tryd.isAgg3 rfl rfl) ?_ | refine .cons rfl rfl rfl rfl rfl (q_ldw Tryd.isAgg3 rfl (by omega)) ?_
      exact .nil
    refine gp_quietg 19 rfl rfl rfl rfl rfl rfl (.yes rfl rfl (q_neqs rfl rfl)) ?_
    refine gp_quiet 20 rfl rfl rfl rfl rfl rfl (q_pick_f rfl rfl) ?_
    refine gp_quiet 21 rfl rfl rfl rfl rfl rfl (q_move rfl) ?_
    refine gp_split 36 rfl ?_ ?_
    · intro hbr
      first | (exfalso; simp at hbr; done) | (exfalso; simp at hbr; omega) | (exfalso; first | omega | (simp at hbr; done))
    intro hbr
    have hg36 := hbr
    have hb36 := hbr
    refine gp_quietg 22 rfl rfl rfl rfl rfl rfl (.yes rfl rfl (q_move rfl)) ?_
    refine gp_quietg 23 rfl rfl rfl rfl rfl rfl (.yes rfl rfl (q_fieldAddr fa_46_1 rfl)) ?_
    refine gp_quietg 24 rfl rfl rfl rfl rfl rfl (.yes rfl rfl (q_ld Tryd.isAgg32 rfl rfl)) ?_
    refine gp_quietg 25 rfl rfl rfl rfl rfl rfl (.yes rfl rfl (q_nilCheck rfl)) ?_
    refine gp_quietg 26 rfl rfl rfl rfl rfl rfl (.yes rfl rfl (q_fieldAddr fa_58_2 rfl)) ?_
    refine gp_quietg 27 rfl rfl rfl rfl rfl rfl (.yes rfl rfl (q_ld Tryd.isAgg56 rfl rfl)) ?_
    first | refine gp_quietg 28 rfl rfl rfl rfl rfl rfl (.yes rfl rfl (q_ld Tryd.isAgg3 rfl rfl)) ?_ | refine gp_quietg 28 rfl rfl rfl rfl rfl rfl (.yes rfl rfl (q_ldw Tryd.isAgg3 rfl (by omega))) ?_
    refine gp_quietg 29 rfl rfl rfl rfl rfl rfl (.yes rfl rfl (q_ixs Tryd.underlying56 Tryd.sizeOf9 rfl rfl (by omega) (by omega))) ?_
    refine gp_quietg 30 rfl rfl rfl rfl rfl rfl (.yes rfl rfl (q_loadc (v := .string ((xs.map fun x : Nd => vstr x.v).getD i ⟨#[]⟩)) Tryd.isAgg9 rfl (str_cell hp2 (by omega)))) ?_
    refine gp_quietg 31 rfl rfl rfl rfl rfl rfl (.yes rfl rfl (q_neqs rfl rfl)) ?_
    refine gp_quiet 32 rfl rfl rfl rfl rfl rfl (q_pick_f rfl rfl) ?_
    refine gp_end rfl rfl ?_
    refine g_cond rfl ?_ ?_
    · intro hbr
      first | (exfalso; simp at hbr; done) | (exfalso; simp at hbr; omega) | (exfalso; first | omega | (simp at hbr; done))
    intro hbr
    have hb47 := hbr
    refine g_skip ?_
    refine g_region ?_
    first | refine l_ld rfl Tryd.isAgg3 rfl rfl ?_ | refine l_ldw rfl Tryd.isAgg3 rfl (by omega) ?_
    first | refine l_add rfl rfl rfl (w_i64 (by omega) (by omega)) ?_ | refine l_addw rfl rfl rfl ?_
    first | refine l_st Tryd.sizeOf3 rfl rfl rfl rfl ?_ | refine l_stw Tryd.sizeOf3 rfl rfl (by omega) ?_
    refine l_nil ?_
    refine g_inBlock ?_
    refine g_roundE (p := none) (F := Blk b4 (.cells [Value.int .i64 ((i : Int) + 1)].toArray 3 (0, 0)) :: Blk sb (.cells [Value.int .i64 room, .map (some m), .pointer (fstP (xs) none), .pointer (lstP (xs) none)].toArray 79 (0, 0)) :: Seg 106 none (xs) none :: MapI m kv :: Blk rb (.cells [Value.int .i64 room, .slice (some ⟨gk, 0, none⟩) L.length kc, .slice (some ⟨gv, 0, none⟩) L.length vc].toArray 58 (0, 0)) :: Own 9 1 (.slice (some ⟨gk, 0, none⟩) L.length kc) L.length (strs (k1 L)) :: Own 9 1 (.slice (some ⟨gv, 0, none⟩) L.length vc) L.length (strs (k2 L)) :: Blk b1 (.cells [Value.pointer (some ⟨sb, 0, none⟩), .pointer (some ⟨rb, 0, none⟩)].toArray 46 (0, 0)) :: Blk b2 (.cells [Value.bool false].toArray 4 (0, 0)) :: Blk bm (.cells [Value.pointer (some ⟨sb, 0, none⟩)].toArray 42 (0, 0)) :: Dfr r0 :: T) hRC0 (fun w hw => SPI.holds hw) ?_
    exact ⟨_, rfl, true, rfl, fun _ => ⟨(i : Int) + 1, by omega, fun w hw => hw⟩, fun h => (by cases h)⟩
  obtain ⟨v9, F9, rfl, hR9, hF9⟩ := hG
  refine ⟨⟨_, rfl⟩, ?_⟩
  obtain ⟨x, hx, rfl⟩ := hR9.resolve_right (fun h => by obtain ⟨_, h, _⟩ := h; exact h)
  obtain rfl : x = (xs.length : Int) := hx
  refine ⟨.ready, none, Blk b4 (.cells [Value.int .i64 (xs.length : Int)].toArray 3 (0, 0)) :: Blk sb (.cells [Value.int .i64 room, .map (some m), .pointer (fstP (xs) none), .pointer (lstP (xs) none)].toArray 79 (0, 0)) :: Seg 106 none (xs) none :: MapI m kv :: Blk rb (.cells [Value.int .i64 room, .slice ka L.length kc, .slice va L.length vc].toArray 58 (0, 0)) :: Own 9 1 (.slice ka L.length kc) L.length (strs (k1 L)) :: Own 9 1 (.slice va L.length vc) L.length (strs (k2 L)) :: Blk b1 (.cells [Value.pointer (some ⟨sb, 0, none⟩), .pointer (some ⟨rb, 0, none⟩)].toArray 46 (0, 0)) :: Blk b2 (.cells [Value.bool false].toArray 4 (0, 0)) :: Blk bm (.cells [Value.pointer (some ⟨sb, 0, none⟩)].toArray 42 (0, 0)) :: Dfr r0 :: F, (by intro h; cases h), fun w hw => SPI.holds (show Holds w0 (RC0 .ready none :: Blk b4 (.cells [Value.int .i64 (xs.length : Int)].toArray 3 (0, 0)) :: Blk sb (.cells [Value.int .i64 room, .map (some m), .pointer (fstP (xs) none), .pointer (lstP (xs) none)].toArray 79 (0, 0)) :: Seg 106 none (xs) none :: MapI m kv :: Blk rb (.cells [Value.int .i64 room, .slice ka L.length kc, .slice va L.length vc].toArray 58 (0, 0)) :: Own 9 1 (.slice ka L.length kc) L.length (strs (k1 L)) :: Own 9 1 (.slice va L.length vc) L.length (strs (k2 L)) :: Blk b1 (.cells [Value.pointer (some ⟨sb, 0, none⟩), .pointer (some ⟨rb, 0, none⟩)].toArray 46 (0, 0)) :: Blk b2 (.cells [Value.bool false].toArray 4 (0, 0)) :: Blk bm (.cells [Value.pointer (some ⟨sb, 0, none⟩)].toArray 42 (0, 0)) :: Dfr r0 :: F) w from hF9 w hw), ?_⟩
  dsimp only [jumpK]
  refine g_inBlock ?_
  refine g_seq ?_
  refine gp_start mo (by kernel_rfl) (by kernel_rfl) ?_
  first | refine gp_quiet 0 rfl rfl rfl rfl rfl rfl (q_ld Tryd.isAgg3 rfl rfl) ?_ | refine gp_quiet 0 rfl rfl rfl rfl rfl rfl (q_ldw Tryd.isAgg3 rfl (by omega)) ?_
  refine gp_quiet 1 rfl rfl rfl rfl rfl rfl (q_fieldAddr fa_46_1 rfl) ?_
  refine gp_quiet 2 rfl rfl rfl rfl rfl rfl (q_ld Tryd.isAgg32 rfl rfl) ?_
  refine gp_quiet 3 rfl rfl rfl rfl rfl rfl (q_nilCheck rfl) ?_
  refine gp_quiet 4 rfl rfl rfl rfl rfl rfl (q_fieldAddr fa_58_1 rfl) ?_
  refine gp_quiet 5 rfl rfl rfl rfl rfl rfl (q_ld Tryd.isAgg56 rfl rfl) ?_
  refine gp_quiet 6 rfl rfl rfl rfl rfl rfl (q_len Tryd.underlying56 rfl) ?_
  refine gp_quiet 7 rfl rfl rfl rfl rfl rfl (q_eql rfl rfl) ?_
  refine gp_effa 8 [0, 1, 2, 3, 4, 5, 6, 7] [] rfl rfl rfl rfl rfl rfl rfl (does_st Tryd.sizeOf4 rfl rfl rfl rfl) ?_
  rintro _ _ ⟨rfl, rfl⟩
  refine ⟨?_, ?_⟩
  · exact .nil
  refine gp_end rfl rfl ?_
  refine g_heap (F' := Dfr r0 :: Blk b2 (.cells [Value.bool (decide ((xs.length : Int) = (L.length : Int)))].toArray 4 (0, 0)) :: Blk sb (.cells [Value.int .i64 room, .map (some m), .pointer (fstP (xs) none), .pointer (lstP (xs) none)].toArray 79 (0, 0)) :: Seg 106 none (xs) none :: MapI m kv :: Blk rb (.cells [Value.int .i64 room, .slice ka L.length kc, .slice va L.length vc].toArray 58 (0, 0)) :: Own 9 1 (.slice ka L.length kc) L.length (strs (k1 L)) :: Own 9 1 (.slice va L.length vc) L.length (strs (k2 L)) :: F) (fun w hw => SPI.holds hw) ?_
  refine g_ret_m (F := Blk b2 (.cells [Value.bool (decide ((xs.length : Int) = (L.length : Int)))].toArray 4 (0, 0)) :: Blk sb (.cells [Value.int .i64 room, .map (some m), .pointer (fstP (xs) none), .pointer (lstP (xs) none)].toArray 79 (0, 0)) :: Seg 106 none (xs) none :: MapI m kv :: Blk rb (.cells [Value.int .i64 room, .slice ka L.length kc, .slice va L.length vc].toArray 58 (0, 0)) :: Own 9 1 (.slice ka L.length kc) L.length (strs (k1 L)) :: Own 9 1 (.slice va L.length vc) L.length (strs (k2 L)) :: F) [r0] rfl Tryd.func16 (fun w hw => hw) rfl (.ci rfl Tryd.isAgg4 rfl .nil) ?_
  exact Gives.mki ⟨congrArg Value.bool (decide_eq_true (by omega)), rfl⟩
end Go.Proofs.YtjfibfbknfeflaaDoor.Fw
