import Derived.Test.YtecibldbnekgbaaQRows
namespace Go.Proofs.Ytecibldbnekgbaa.Fw
open Go Go.Proofs
set_option linter.unusedVariables false
set_option linter.unusedSimpArgs false
set_option maxRecDepth 10000
theorem bd_64_0_1_2 (a0_0 : Int) (a1_0 : Int) (a2_0 : Option Addr) (n2_0 c2_0 : Nat) (w : World) : (Instr.build 64 #[(0, .int .u32 a0_0), (1, .int .u32 a1_0), (2, .slice a2_0 n2_0 c2_0)]).run Try.prog w = .ok (.agg #[.int .u32 a0_0, .int .u32 a1_0, .slice a2_0 n2_0 c2_0]) w := by kernel_rfl
set_option maxHeartbeats 2000000 in
theorem port_ok (w0 : World) (F : List Atom) (wd dp : Nat) (w1 : 1 ≤ wd) (w2 : wd ≤ 16) (d1 : 1 ≤ dp) (d2 : dp ≤ 8) (b g n c : Nat) (W : List Int) (hW : W.length = n) (hc : n ≤ c) (hn : n ≤ 1073741824) (hU : W32s W) (at_ : Int) (hi : inR n at_ ((3 + dp * (1 + wd) : Nat) : Int)) :
    CallK Try.prog 28 [.agg #[.int .i64 (wd : Int), .int .i64 (dp : Int)], .pointer (some ⟨b, 0, none⟩), .int .i64 at_] w0 (Blk b (.cells [Value.slice (some ⟨g, 0, none⟩) n c].toArray 76 (0, 0)) :: Own 33 1 (.slice (some ⟨g, 0, none⟩) n c) n (ints .u32 W) :: F) (Gives w0 fun v F2 => ∃ ao co ms Ts ok, v = .tuple #[.agg #[.int .u32 (W.getD at_.toNat 0), .int .u32 (W.getD (at_.toNat + 2) 0), .slice ao ms.length co], .bool ok] ∧ F2 = Own 29 1 (.slice ao ms.length co) ms.length (ms.map lvV) :: BigF ms.length (fun j => Own 33 1 (.slice (lat ms j).a (lat ms j).n (lat ms j).c) (lat ms j).n (ints .u32 (tat Ts j))) :: Blk b (.cells [Value.slice (some ⟨g, 0, none⟩) n c].toArray 76 (0, 0)) :: Own 33 1 (.slice (some ⟨g, 0, none⟩) n c) n (ints .u32 W) :: F ∧ MsOk ms Ts ∧ (ms.length = 0 ∨ ∃ g, ao = some ⟨g, 0, none⟩) ∧ PrtR W at_ wd dp Ts ok) := by
  have hpw := pw_bd w1 w2 d1 d2
  have hi2 := hi
  unfold inR at hi2
  obtain ⟨fi, efi⟩ := Int.eq_ofNat_of_zero_le (hU (at_.toNat + 0)).1
  have bfi := (hU (at_.toNat + 0)).2
  rw [efi] at bfi
  have hfi : (stL W at_ (3 + dp * (1 + wd))).getD 0 0 = (fi : Int) := by rw [stL_getD (by omega)]; exact efi
  obtain ⟨mn, emn⟩ := Int.eq_ofNat_of_zero_le (hU (at_.toNat + 1)).1
  have bmn := (hU (at_.toNat + 1)).2
  rw [emn] at bmn
  have hmn : (stL W at_ (3 + dp * (1 + wd))).getD 1 0 = (mn : Int) := by rw [stL_getD (by omega)]; exact emn
  obtain ⟨ls, els⟩ := Int.eq_ofNat_of_zero_le (hU (at_.toNat + 2)).1
  have bls := (hU (at_.toNat + 2)).2
  rw [els] at bls
  have hls : (stL W at_ (3 + dp * (1 + wd))).getD 2 0 = (ls : Int) := by rw [stL_getD (by omega)]; exact els
  rw [Nat.add_zero] at efi
  refine c_enter Try.func28 rfl rfl rfl ?_
  refine g_seq ?_
  refine g_region ?_
  refine l_boxs rfl rfl ?_; intro b3
  refine l_allocs rfl Try.zeroValue64 ?_; intro b6
  refine l_assign rfl rfl ?_
  refine l_nil ?_
  refine g_seq ?_
  refine g_region ?_
  refine l_move rfl rfl ?_
  refine l_move rfl rfl ?_
  refine l_lds rfl Try.isAgg61 Try.sizeOf61 rfl rfl ?_
  refine l_call rfl Try.call46 rfl (all_ok _ _ wd dp 3 (by omega) (by omega) (by omega) (by omega) (by omega) (by omega)) ?_; rintro _ F9 ⟨rfl, hF9⟩; rw [hF9]; clear hF9 F9
  rw [show (3 : Int) + (dp : Int) * (1 + (wd : Int)) = ((3 + dp * (1 + wd) : Nat) : Int) from all_nat 3 wd dp]
  refine l_fronto g ?_
  refine l_frontb b ?_
  refine l_call rfl Try.call49 rfl (take_ok _ _ b g n c W hW hc hn at_ ((3 + dp * (1 + wd) : Nat) : Int) (by omega) (by omega) hi) ?_; rintro _ _ ⟨gk, rfl, rfl⟩
  rw [Int.toNat_natCast, show (W.drop at_.toNat).take (3 + dp * (1 + wd)) = stL W at_ (3 + dp * (1 + wd)) from rfl]
  have hsl := stL_len hW hi
  have hsU : W32s (stL W at_ (3 + dp * (1 + wd))) := hU.part _ _
  refine l_move rfl rfl ?_
  refine l_extract rfl rfl rfl ?_
  refine l_extract rfl rfl rfl ?_
  refine l_assign rfl rfl ?_
  refine l_assign rfl rfl ?_
  refine l_nil ?_
  refine g_seq ?_
  refine gp_start mo (by kernel_rfl) (by kernel_rfl) ?_
  refine gp_quiet 0 rfl rfl rfl rfl rfl rfl (q_lds Try.isAgg61 Try.sizeOf61 rfl rfl) ?_
  refine gp_quiet 1 rfl rfl rfl rfl rfl rfl (q_move rfl) ?_
  refine gp_quiet 2 rfl rfl rfl rfl rfl rfl (q_slice_lo Try.underlying29 Try.sizeOf33 rfl rfl (by omega) (by omega) (by omega)) ?_
  refine gp_quiet 3 rfl rfl rfl rfl rfl rfl (q_move rfl) ?_
  refine gp_quiet 4 rfl rfl rfl rfl rfl rfl (q_ixs Try.underlying29 Try.sizeOf33 rfl rfl (by omega) (by omega)) ?_
  refine gp_quiet 5 rfl rfl rfl rfl rfl rfl (q_loadc (v := .int .u32 ((fi : Nat) : Int)) Try.isAgg33 rfl (by rw [← show (stL W at_ (3 + dp * (1 + wd))).getD 0 0 = ((fi : Nat) : Int) from hfi]; exact word_at (show Own 33 1 (.slice (some ⟨gk, 0, none⟩) (3 + dp * (1 + wd)) (3 + dp * (1 + wd))) (3 + dp * (1 + wd)) (ints .u32 (stL W at_ (3 + dp * (1 + wd)))) ∈ _ from (by first | exact mem_getO 0 rfl | exact mem_getO 1 rfl | exact mem_getO 2 rfl | exact mem_getO 3 rfl | exact mem_getO 4 rfl | exact mem_getO 5 rfl | exact mem_getO 6 rfl | exact mem_getO 7 rfl | exact mem_getO 8 rfl)) (by rw [hsl]; omega))) ?_
  refine gp_quiet 6 rfl rfl rfl rfl rfl rfl (q_move rfl) ?_
  refine gp_quiet 7 rfl rfl rfl rfl rfl rfl (q_ixs Try.underlying29 Try.sizeOf33 rfl rfl (by omega) (by omega)) ?_
  refine gp_quiet 8 rfl rfl rfl rfl rfl rfl (q_loadc (v := .int .u32 ((mn : Nat) : Int)) Try.isAgg33 rfl (by rw [← show (stL W at_ (3 + dp * (1 + wd))).getD 1 0 = ((mn : Nat) : Int) from hmn]; exact word_at (show Own 33 1 (.slice (some ⟨gk, 0, none⟩) (3 + dp * (1 + wd)) (3 + dp * (1 + wd))) (3 + dp * (1 + wd)) (ints .u32 (stL W at_ (3 + dp * (1 + wd)))) ∈ _ from (by first | exact mem_getO 0 rfl | exact mem_getO 1 rfl | exact mem_getO 2 rfl | exact mem_getO 3 rfl | exact mem_getO 4 rfl | exact mem_getO 5 rfl | exact mem_getO 6 rfl | exact mem_getO 7 rfl | exact mem_getO 8 rfl)) (by rw [hsl]; omega))) ?_
  refine gp_fronto gk ?_
  have h9 := tk_row (w0 := w0) (F := [Own 33 1 (.slice (some ⟨gk, 0, none⟩) (3 + dp * (1 + wd)) (3 + dp * (1 + wd))) (3 + dp * (1 + wd)) (ints .u32 (stL W at_ (3 + dp * (1 + wd))))]) (h := 3) (o := sloff ((3 : Nat) : Int) (3 + dp * (1 + wd)) 0 1) (List.mem_cons_self ..) hsl rfl (by omega)
  refine gp_effa 9 [0, 2, 5, 8] [7, 6, 4, 3, 1] rfl rfl rfl rfl rfl rfl rfl (does_call Try.call50 rfl (read_ok _ _ wd dp w1 w2 d1 d2 gk (sloff ((3 : Nat) : Int) (3 + dp * (1 + wd)) 0 1) _ _ ((stL W at_ (3 + dp * (1 + wd))).drop 3) (by rw [List.length_drop, hsl]; rfl) (by show (3 + dp * (1 + wd)) - 3 = _; omega) (by omega) (h9.subl (List.Sublist.cons_cons _ (List.nil_sublist _))) (hsU.drop _) fi mn (by omega) (by omega))) ?_
  rintro _ _ ⟨ao, co, ms, Ts, ok, rfl, rfl, hMs, hao, hRow⟩
  refine ⟨?_, ?_⟩
  · refine .cons rfl rfl rfl rfl rfl (q_ixs Try.underlying29 Try.sizeOf33 rfl rfl (by omega) (by omega)) ?_
    refine .cons rfl rfl rfl rfl rfl (q_move rfl) ?_
    refine .cons rfl rfl rfl rfl rfl (q_ixs Try.underlying29 Try.sizeOf33 rfl rfl (by omega) (by omega)) ?_
    refine .cons rfl rfl rfl rfl rfl (q_move rfl) ?_
    refine .cons rfl rfl rfl rfl rfl (q_move rfl) ?_
    exact .nil
  refine gp_quiet 10 rfl rfl rfl rfl rfl rfl (q_move rfl) ?_
  refine gp_quiet 11 rfl rfl rfl rfl rfl rfl (q_extract rfl rfl) ?_
  refine gp_quiet 12 rfl rfl rfl rfl rfl rfl (q_extract rfl rfl) ?_
  refine gp_quiet 13 rfl rfl rfl rfl rfl rfl (q_assign rfl) ?_
  refine gp_quiet 14 rfl rfl rfl rfl rfl rfl (q_assign rfl) ?_
  refine gp_end rfl rfl ?_
  refine g_seq ?_
  refine gp_start mo (by kernel_rfl) (by kernel_rfl) ?_
  refine gp_quiet 0 rfl rfl rfl rfl rfl rfl (q_move rfl) ?_
  refine gp_quiet 1 rfl rfl rfl rfl rfl rfl (q_ixs Try.underlying29 Try.sizeOf33 rfl rfl (by omega) (by omega)) ?_
  refine gp_quiet 2 rfl rfl rfl rfl rfl rfl (q_loadc (v := .int .u32 ((fi : Nat) : Int)) Try.isAgg33 rfl (by rw [← show (stL W at_ (3 + dp * (1 + wd))).getD 0 0 = ((fi : Nat) : Int) from hfi]; exact word_at (show Own 33 1 (.slice (some ⟨gk, 0, none⟩) (3 + dp * (1 + wd)) (3 + dp * (1 + wd))) (3 + dp * (1 + wd)) (ints .u32 (stL W at_ (3 + dp * (1 + wd)))) ∈ _ from (by first | exact mem_getO 0 rfl | exact mem_getO 1 rfl | exact mem_getO 2 rfl | exact mem_getO 3 rfl | exact mem_getO 4 rfl | exact mem_getO 5 rfl | exact mem_getO 6 rfl | exact mem_getO 7 rfl | exact mem_getO 8 rfl)) (by rw [hsl]; omega))) ?_
  refine gp_quiet 3 rfl rfl rfl rfl rfl rfl (q_move rfl) ?_
  refine gp_quiet 4 rfl rfl rfl rfl rfl rfl (q_ixs Try.underlying29 Try.sizeOf33 rfl rfl (by omega) (by omega)) ?_
  refine gp_quiet 5 rfl rfl rfl rfl rfl rfl (q_loadc (v := .int .u32 ((ls : Nat) : Int)) Try.isAgg33 rfl (by rw [← show (stL W at_ (3 + dp * (1 + wd))).getD 2 0 = ((ls : Nat) : Int) from hls]; exact word_at (show Own 33 1 (.slice (some ⟨gk, 0, none⟩) (3 + dp * (1 + wd)) (3 + dp * (1 + wd))) (3 + dp * (1 + wd)) (ints .u32 (stL W at_ (3 + dp * (1 + wd)))) ∈ _ from (by first | exact mem_getO 0 rfl | exact mem_getO 1 rfl | exact mem_getO 2 rfl | exact mem_getO 3 rfl | exact mem_getO 4 rfl | exact mem_getO 5 rfl | exact mem_getO 6 rfl | exact mem_getO 7 rfl | exact mem_getO 8 rfl)) (by rw [hsl]; omega))) ?_
  refine gp_quiet 6 rfl rfl rfl rfl rfl rfl (q_move rfl) ?_
  refine gp_quiet 7 rfl rfl rfl rfl rfl rfl (q_build rfl (fun w => bd_64_0_1_2 _ _ _ _ _ w)) ?_
  refine gp_quiet 8 rfl rfl rfl rfl rfl rfl (q_move rfl) ?_
  refine gp_quiet 9 rfl rfl rfl rfl rfl rfl (q_move rfl) ?_
  refine gp_split 42 rfl ?_ ?_
  · intro hbr
    have hg42 := hbr
    have hb42 := hbr
    refine gp_quietg 10 rfl rfl rfl rfl rfl rfl (.yes rfl rfl (q_move rfl)) ?_
    refine gp_quietg 11 rfl rfl rfl rfl rfl rfl (.yes rfl rfl (q_ixs Try.underlying29 Try.sizeOf33 rfl rfl (by omega) (by omega))) ?_
    refine gp_quietg 12 rfl rfl rfl rfl rfl rfl (.yes rfl rfl (q_loadc (v := .int .u32 ((mn : Nat) : Int)) Try.isAgg33 rfl (by rw [← show (stL W at_ (3 + dp * (1 + wd))).getD 1 0 = ((mn : Nat) : Int) from hmn]; exact word_at (show Own 33 1 (.slice (some ⟨gk, 0, none⟩) (3 + dp * (1 + wd)) (3 + dp * (1 + wd))) (3 + dp * (1 + wd)) (ints .u32 (stL W at_ (3 + dp * (1 + wd)))) ∈ _ from (by first | exact mem_getO 0 rfl | exact mem_getO 1 rfl | exact mem_getO 2 rfl | exact mem_getO 3 rfl | exact mem_getO 4 rfl | exact mem_getO 5 rfl | exact mem_getO 6 rfl | exact mem_getO 7 rfl | exact mem_getO 8 rfl)) (by rw [hsl]; omega)))) ?_
    refine gp_quietg 13 rfl rfl rfl rfl rfl rfl (.yes rfl rfl (q_gtr rfl rfl)) ?_
    refine gp_quietg 14 rfl rfl rfl rfl rfl rfl (.yes rfl rfl (q_move rfl)) ?_
    refine gp_split 47 rfl ?_ ?_
    · intro hbr
      have hg47 := hbr
      have hbr := of_decide_eq_true hbr
      refine gp_quietg 15 rfl rfl rfl rfl rfl rfl (.no rfl rfl) ?_
      refine gp_quietg 16 rfl rfl rfl rfl rfl rfl (.no rfl rfl) ?_
      refine gp_quietg 17 rfl rfl rfl rfl rfl rfl (.no rfl rfl) ?_
      refine gp_quietg 18 rfl rfl rfl rfl rfl rfl (.no rfl rfl) ?_
      refine gp_quietg 19 rfl rfl rfl rfl rfl rfl (.yes rfl rfl (q_pick_t rfl rfl)) ?_
      refine gp_quiet 20 rfl rfl rfl rfl rfl rfl (q_pick_t rfl rfl) ?_
      refine gp_effa 21 [0, 1, 2, 3, 4, 5, 6, 7, 14] [20, 19, 18, 17, 16, 15, 13, 12, 11, 10, 9, 8] rfl rfl rfl rfl rfl rfl rfl (does_sts Try.sizeOf64 rfl rfl rfl rfl rfl) ?_
      rintro _ _ ⟨rfl, rfl⟩
      refine ⟨?_, ?_⟩
      · refine .cons rfl rfl rfl rfl rfl (q_pick_t rfl rfl) ?_
        refine .consG rfl rfl rfl rfl rfl (.yes rfl rfl (q_pick_t rfl rfl)) ?_
        refine .consG rfl rfl rfl rfl rfl (.no rfl rfl) ?_
        refine .consG rfl rfl rfl rfl rfl (.no rfl rfl) ?_
        refine .consG rfl rfl rfl rfl rfl (.no rfl rfl) ?_
        refine .consG rfl rfl rfl rfl rfl (.no rfl rfl) ?_
        refine .consG rfl rfl rfl rfl rfl (.yes rfl rfl (q_gtr rfl rfl)) ?_
        refine .consG rfl rfl rfl rfl rfl (.yes rfl rfl (q_loadc (v := .int .u32 ((mn : Nat) : Int)) Try.isAgg33 rfl (by rw [← show (stL W at_ (3 + dp * (1 + wd))).getD 1 0 = ((mn : Nat) : Int) from hmn]; exact word_at (show Own 33 1 (.slice (some ⟨gk, 0, none⟩) (3 + dp * (1 + wd)) (3 + dp * (1 + wd))) (3 + dp * (1 + wd)) (ints .u32 (stL W at_ (3 + dp * (1 + wd)))) ∈ _ from (by first | exact mem_getO 0 rfl | exact mem_getO 1 rfl | exact mem_getO 2 rfl | exact mem_getO 3 rfl | exact mem_getO 4 rfl | exact mem_getO 5 rfl | exact mem_getO 6 rfl | exact mem_getO 7 rfl | exact mem_getO 8 rfl)) (by rw [hsl]; omega)))) ?_
        refine .consG rfl rfl rfl rfl rfl (.yes rfl rfl (q_ixs Try.underlying29 Try.sizeOf33 rfl rfl (by omega) (by omega))) ?_
        refine .consG rfl rfl rfl rfl rfl (.yes rfl rfl (q_move rfl)) ?_
        refine .cons rfl rfl rfl rfl rfl (QV.as (q_move rfl) (congrArg Value.bool hg42)) ?_
        refine .cons rfl rfl rfl rfl rfl (q_move rfl) ?_
        exact .nil
      refine gp_quiet 22 rfl rfl rfl rfl rfl rfl (q_assign rfl) ?_
      refine gp_end rfl rfl ?_
      refine g_ret Try.func28 rfl (.cis rfl Try.isAgg64 Try.sizeOf64 rfl (.tmp rfl .nil)) ?_
      (first | exact Gives.mki ⟨ao, co, ms, Ts, _, by rw [efi, els]; rfl, rfl, hMs, hao, ok, by rw [efi, emn]; exact hRow, ⟨fun h => (by cases h), fun h => by have h8 : ok = false := (by assumption); rw [h8] at h; cases h.1⟩⟩ | exact Gives.mki ⟨ao, co, ms, Ts, _, by rw [efi, els]; rfl, rfl, hMs, hao, ok, by rw [efi, emn]; exact hRow, ⟨fun _ => ⟨by assumption, .inl (by rw [emn]; omega)⟩, fun _ => rfl⟩⟩ | exact Gives.mki ⟨ao, co, ms, Ts, decide ((fi : Int) = 0), by rw [efi, els]; rfl, rfl, hMs, hao, ok, by rw [efi, emn]; exact hRow, ⟨fun h => ⟨by assumption, .inr (by rw [efi]; exact of_decide_eq_true h)⟩, fun h => decide_eq_true (by rw [emn, efi] at h; omega)⟩⟩)
    intro hbr
    have hg47 := hbr
    have hbr := of_decide_eq_false hbr
    refine gp_quietg 15 rfl rfl rfl rfl rfl rfl (.yes rfl rfl (q_move rfl)) ?_
    refine gp_quietg 16 rfl rfl rfl rfl rfl rfl (.yes rfl rfl (q_ixs Try.underlying29 Try.sizeOf33 rfl rfl (by omega) (by omega))) ?_
    refine gp_quietg 17 rfl rfl rfl rfl rfl rfl (.yes rfl rfl (q_loadc (v := .int .u32 ((fi : Nat) : Int)) Try.isAgg33 rfl (by rw [← show (stL W at_ (3 + dp * (1 + wd))).getD 0 0 = ((fi : Nat) : Int) from hfi]; exact word_at (show Own 33 1 (.slice (some ⟨gk, 0, none⟩) (3 + dp * (1 + wd)) (3 + dp * (1 + wd))) (3 + dp * (1 + wd)) (ints .u32 (stL W at_ (3 + dp * (1 + wd)))) ∈ _ from (by first | exact mem_getO 0 rfl | exact mem_getO 1 rfl | exact mem_getO 2 rfl | exact mem_getO 3 rfl | exact mem_getO 4 rfl | exact mem_getO 5 rfl | exact mem_getO 6 rfl | exact mem_getO 7 rfl | exact mem_getO 8 rfl)) (by rw [hsl]; omega)))) ?_
    refine gp_quietg 18 rfl rfl rfl rfl rfl rfl (.yes rfl rfl (q_eql rfl rfl)) ?_
    refine gp_quietg 19 rfl rfl rfl rfl rfl rfl (.yes rfl rfl (q_pick_f rfl rfl)) ?_
    refine gp_quiet 20 rfl rfl rfl rfl rfl rfl (q_pick_t rfl rfl) ?_
    refine gp_effa 21 [0, 1, 2, 3, 4, 5, 6, 7, 14] [20, 19, 18, 17, 16, 15, 13, 12, 11, 10, 9, 8] rfl rfl rfl rfl rfl rfl rfl (does_sts Try.sizeOf64 rfl rfl rfl rfl rfl) ?_
    rintro _ _ ⟨rfl, rfl⟩
    refine ⟨?_, ?_⟩
    · refine .cons rfl rfl rfl rfl rfl (q_pick_t rfl rfl) ?_
      refine .consG rfl rfl rfl rfl rfl (.yes rfl rfl (q_pick_f rfl rfl)) ?_
      refine .consG rfl rfl rfl rfl rfl (.yes rfl rfl (q_eql rfl rfl)) ?_
      refine .consG rfl rfl rfl rfl rfl (.yes rfl rfl (q_loadc (v := .int .u32 ((fi : Nat) : Int)) Try.isAgg33 rfl (by rw [← show (stL W at_ (3 + dp * (1 + wd))).getD 0 0 = ((fi : Nat) : Int) from hfi]; exact word_at (show Own 33 1 (.slice (some ⟨gk, 0, none⟩) (3 + dp * (1 + wd)) (3 + dp * (1 + wd))) (3 + dp * (1 + wd)) (ints .u32 (stL W at_ (3 + dp * (1 + wd)))) ∈ _ from (by first | exact mem_getO 0 rfl | exact mem_getO 1 rfl | exact mem_getO 2 rfl | exact mem_getO 3 rfl | exact mem_getO 4 rfl | exact mem_getO 5 rfl | exact mem_getO 6 rfl | exact mem_getO 7 rfl | exact mem_getO 8 rfl)) (by rw [hsl]; omega)))) ?_
      refine .consG rfl rfl rfl rfl rfl (.yes rfl rfl (q_ixs Try.underlying29 Try.sizeOf33 rfl rfl (by omega) (by omega))) ?_
      refine .consG rfl rfl rfl rfl rfl (.yes rfl rfl (q_move rfl)) ?_
      refine .consG rfl rfl rfl rfl rfl (.yes rfl rfl (q_gtr rfl rfl)) ?_
      refine .consG rfl rfl rfl rfl rfl (.yes rfl rfl (q_loadc (v := .int .u32 ((mn : Nat) : Int)) Try.isAgg33 rfl (by rw [← show (stL W at_ (3 + dp * (1 + wd))).getD 1 0 = ((mn : Nat) : Int) from hmn]; exact word_at (show Own 33 1 (.slice (some ⟨gk, 0, none⟩) (3 + dp * (1 + wd)) (3 + dp * (1 + wd))) (3 + dp * (1 + wd)) (ints .u32 (stL W at_ (3 + dp * (1 + wd)))) ∈ _ from (by first | exact mem_getO 0 rfl | exact mem_getO 1 rfl | exact mem_getO 2 rfl | exact mem_getO 3 rfl | exact mem_getO 4 rfl | exact mem_getO 5 rfl | exact mem_getO 6 rfl | exact mem_getO 7 rfl | exact mem_getO 8 rfl)) (by rw [hsl]; omega)))) ?_
      refine .consG rfl rfl rfl rfl rfl (.yes rfl rfl (q_ixs Try.underlying29 Try.sizeOf33 rfl rfl (by omega) (by omega))) ?_
      refine .consG rfl rfl rfl rfl rfl (.yes rfl rfl (q_move rfl)) ?_
      refine .cons rfl rfl rfl rfl rfl (QV.as (q_move rfl) (congrArg Value.bool hg42)) ?_
      refine .cons rfl rfl rfl rfl rfl (q_move rfl) ?_
      exact .nil
    refine gp_quiet 22 rfl rfl rfl rfl rfl rfl (q_assign rfl) ?_
    refine gp_end rfl rfl ?_
    refine g_ret Try.func28 rfl (.cis rfl Try.isAgg64 Try.sizeOf64 rfl (.tmp rfl .nil)) ?_
    (first | exact Gives.mki ⟨ao, co, ms, Ts, _, by rw [efi, els]; rfl, rfl, hMs, hao, ok, by rw [efi, emn]; exact hRow, ⟨fun h => (by cases h), fun h => by have h8 : ok = false := (by assumption); rw [h8] at h; cases h.1⟩⟩ | exact Gives.mki ⟨ao, co, ms, Ts, _, by rw [efi, els]; rfl, rfl, hMs, hao, ok, by rw [efi, emn]; exact hRow, ⟨fun _ => ⟨by assumption, .inl (by rw [emn]; omega)⟩, fun _ => rfl⟩⟩ | exact Gives.mki ⟨ao, co, ms, Ts, decide ((fi : Int) = 0), by rw [efi, els]; rfl, rfl, hMs, hao, ok, by rw [efi, emn]; exact hRow, ⟨fun h => ⟨by assumption, .inr (by rw [efi]; exact of_decide_eq_true h)⟩, fun h => decide_eq_true (by rw [emn, efi] at h; omega)⟩⟩)
  intro hbr
  have hg42 := hbr
  have hb42 := hbr
  refine gp_quietg 10 rfl rfl rfl rfl rfl rfl (.no rfl rfl) ?_
  refine gp_quietg 11 rfl rfl rfl rfl rfl rfl (.no rfl rfl) ?_
  refine gp_quietg 12 rfl rfl rfl rfl rfl rfl (.no rfl rfl) ?_
  refine gp_quietg 13 rfl rfl rfl rfl rfl rfl (.no rfl rfl) ?_
  refine gp_quietg 14 rfl rfl rfl rfl rfl rfl (.no rfl rfl) ?_
  refine gp_quietg 15 rfl rfl rfl rfl rfl rfl (.nou rfl rfl) ?_
  refine gp_quietg 16 rfl rfl rfl rfl rfl rfl (.nou rfl rfl) ?_
  refine gp_quietg 17 rfl rfl rfl rfl rfl rfl (.nou rfl rfl) ?_
  refine gp_quietg 18 rfl rfl rfl rfl rfl rfl (.nou rfl rfl) ?_
  refine gp_quietg 19 rfl rfl rfl rfl rfl rfl (.no rfl rfl) ?_
  refine gp_quiet 20 rfl rfl rfl rfl rfl rfl (q_pick_f rfl rfl) ?_
  refine gp_effa 21 [0, 1, 2, 3, 4, 5, 6, 7, 14] [20, 19, 18, 17, 16, 15, 13, 12, 11, 10, 9, 8] rfl rfl rfl rfl rfl rfl rfl (does_sts Try.sizeOf64 rfl rfl rfl rfl rfl) ?_
  rintro _ _ ⟨rfl, rfl⟩
  refine ⟨?_, ?_⟩
  · refine .cons rfl rfl rfl rfl rfl (q_pick_f rfl rfl) ?_
    refine .consG rfl rfl rfl rfl rfl (.no rfl rfl) ?_
    refine .consG rfl rfl rfl rfl rfl (.nou rfl rfl) ?_
    refine .consG rfl rfl rfl rfl rfl (.nou rfl rfl) ?_
    refine .consG rfl rfl rfl rfl rfl (.nou rfl rfl) ?_
    refine .consG rfl rfl rfl rfl rfl (.nou rfl rfl) ?_
    refine .consG rfl rfl rfl rfl rfl (.no rfl rfl) ?_
    refine .consG rfl rfl rfl rfl rfl (.no rfl rfl) ?_
    refine .consG rfl rfl rfl rfl rfl (.no rfl rfl) ?_
    refine .consG rfl rfl rfl rfl rfl (.no rfl rfl) ?_
    refine .cons rfl rfl rfl rfl rfl (QV.as (q_move rfl) (congrArg Value.bool hg42)) ?_
    refine .cons rfl rfl rfl rfl rfl (q_move rfl) ?_
    exact .nil
  refine gp_quiet 22 rfl rfl rfl rfl rfl rfl (q_assign rfl) ?_
  refine gp_end rfl rfl ?_
  refine g_ret Try.func28 rfl (.cis rfl Try.isAgg64 Try.sizeOf64 rfl (.tmp rfl .nil)) ?_
  (first | exact Gives.mki ⟨ao, co, ms, Ts, _, by rw [efi, els]; rfl, rfl, hMs, hao, ok, by rw [efi, emn]; exact hRow, ⟨fun h => (by cases h), fun h => by have h8 : ok = false := (by assumption); rw [h8] at h; cases h.1⟩⟩ | exact Gives.mki ⟨ao, co, ms, Ts, _, by rw [efi, els]; rfl, rfl, hMs, hao, ok, by rw [efi, emn]; exact hRow, ⟨fun _ => ⟨by assumption, .inl (by rw [emn]; omega)⟩, fun _ => rfl⟩⟩ | exact Gives.mki ⟨ao, co, ms, Ts, decide ((fi : Int) = 0), by rw [efi, els]; rfl, rfl, hMs, hao, ok, by rw [efi, emn]; exact hRow, ⟨fun h => ⟨by assumption, .inr (by rw [efi]; exact of_decide_eq_true h)⟩, fun h => decide_eq_true (by rw [emn, efi] at h; omega)⟩⟩)
end Go.Proofs.Ytecibldbnekgbaa.Fw
