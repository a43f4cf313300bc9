import Derived.Test.YthngpcaljljlaaaRefB
import Derived.Test.YthngpcaljljlaaaLLast
namespace Go.Proofs.Ythngpcaljljlaaa.Fw
open Go Go.Proofs
set_option linter.unusedVariables false
set_option linter.unusedSimpArgs false
set_option maxRecDepth 10000
theorem bd_85_z  (w : World) : (Instr.build 85 #[]).run Try.prog w = .ok (.agg #[.bool false, .bool false, .slice none 0 0]) w := by kernel_rfl
theorem wdV_getD {fr : Bool} {T : List Int} {h : Nat} {wd : Int} (h1 : h = 2 ∨ h = 3) (hT : (T.length : Int) ≤ wd) (w1 : 1 ≤ wd) (i : Nat) : (wdV true fr T h wd).getD i 0 = if h ≤ i ∧ i < h + T.length then T.getD (i - h) 0 else if i = h - 1 then (T.length : Int) else if h = 3 ∧ fr = true ∧ i = 1 then 1 else if i = 0 then 1 else 0 := by
  unfold wdV
  rw [if_pos rfl, spl_getD (by rw [wdB_len]; omega)]
  split
  · rfl
  · unfold wdB
    split
    · rename_i hc
      rw [set_getD (by simp; omega), set_getD (by simp; omega), set_getD (by simp; omega), rep_getD]
      simp only [hc.1, hc.2, true_and, eq_comm]
    · rename_i hc
      rw [set_getD (by simp; omega), set_getD (by simp; omega), rep_getD]
      have : ¬ (h = 3 ∧ fr = true ∧ i = 1) := fun hx => hc ⟨hx.1, hx.2.1⟩
      rw [if_neg this]
      simp only [eq_comm]
theorem wd_eq {l T : List Int} {fr : Bool} {h m : Nat} {wd : Int} (h1 : h = 2 ∨ h = 3) (hl : l.length = ((h : Int) + wd).toNat) (w1 : 1 ≤ wd) (hm : l.getD (h - 1) 0 = (m : Int)) (m1 : 1 ≤ m) (m2 : (m : Int) ≤ wd) (hT : T = (l.drop h).take m) (hfr : fr = true ↔ h = 3 ∧ l.getD 1 0 = 1) (hU : W32s l) :
    (∀ i, i < l.length → (wdV true fr T h wd).getD i 0 = l.getD i 0) ↔ (l.getD 0 0 = 1 ∧ (h = 3 → l.getD 1 0 ≤ 1) ∧ MsgC l h) := by
  have hTl : T.length = m := by rw [hT, List.length_take, List.length_drop]; omega
  have hg := @wdV_getD fr T h wd h1 (by omega) w1
  have hmn : msgN l h = m := by unfold msgN; rw [hm]; rfl
  constructor
  · intro he
    refine ⟨?_, fun h3 => ?_, by rw [hmn]; exact m1, by rw [hmn]; omega, fun i hi hi2 => ?_⟩
    · rw [← he 0 (by omega), hg, if_neg (by omega), if_neg (by omega), if_neg (by omega), if_pos rfl]
    · subst h3
      rw [← he 1 (by omega), hg, if_neg (by omega), if_neg (by omega)]
      split
      · decide
      · rw [if_neg (by omega)]; decide
    · rw [hmn] at hi
      rw [← he i hi2, hg, if_neg (by omega), if_neg (by omega), if_neg (by omega), if_neg (by omega)]
  · rintro ⟨g0, g1, _, _, hz⟩ i hi
    rw [hg]
    rw [hmn] at hz
    split
    · rename_i hc
      rw [hT, getD_part, if_pos (by omega)]
      congr 1; omega
    · split
      · rename_i hc; subst hc; rw [hm, hTl]
      · split
        · rename_i hc; rw [hc.2.2, (hfr.1 hc.2.1).2]
        · rename_i hc
          split
          · rename_i h0; subst h0; exact g0.symm
          · by_cases hi1 : i = 1
            · subst hi1
              have h3 : h = 3 := by omega
              have hb := (hU 1).1
              have hne : ¬ l.getD 1 0 = 1 := fun hx => hc ⟨h3, hfr.2 ⟨h3, hx⟩, rfl⟩
              have := g1 h3
              omega
            · exact (hz i (by omega) hi).symm
def IRF (w0 : World) (g : Nat) (l : List Int) (a : Option Addr) (q : Nat) (T : List Int) : Prop := ∀ F0, RowAt w0 F0 g 0 (ints .u32 l) → IR w0 F0 .u32 a q T
theorem IRF.nil {w0 : World} {g : Nat} {l : List Int} : IRF w0 g l none 0 [] := fun _ _ => ⟨rfl, .inl rfl⟩
def HeldR (l : List Int) (h : Nat) (th fr : Bool) (T : List Int) (ok : Bool) : Prop := (ok = true ∧ heldV l h = some T ∧ th = decide (0 < T.length) ∧ (fr = true ↔ 0 < T.length ∧ h = 3 ∧ l.getD 1 0 = 1)) ∨ (ok = false ∧ T = [] ∧ th = false ∧ fr = false ∧ heldV l h = none)
set_option maxHeartbeats 4000000 in
theorem rread_zero (w0 : World) (F : List Atom) (g n c : Nat) (l : List Int) (hl : l.length = n) (hc : n ≤ c) (hr : RowAt w0 F g 0 (ints .u32 l)) (hU : W32s l) (h : Nat) (h1 : h = 2 ∨ h = 3) (wd : Int) (w1 : 1 ≤ wd) (w2 : wd ≤ 16) (hn : (n : Int) = h + wd) (hz0 : l.getD 0 0 = 0) :
    CallK Try.prog 49 [.slice (some ⟨g, 0, none⟩) n c, .int .i64 h] w0 (F) (Gives w0 fun v F2 => ∃ th fr a q c2 T ok, v = .tuple #[.agg #[.bool th, .bool fr, .slice a q c2], .bool ok] ∧ F2 = F ∧ IRF w0 g l a q T ∧ HeldR l h th fr T ok) := by
  refine c_enter Try.func49 rfl rfl rfl ?_
  refine g_seq ?_
  refine g_region ?_
  refine l_allocs rfl Try.zeroValue85 ?_; intro b4
  refine l_assign rfl rfl ?_
  refine l_nil ?_
  refine g_seq ?_
  refine g_region ?_
  refine l_allocs rfl Try.zeroValue85 ?_; intro b6
  refine l_nil ?_
  refine g_seq ?_
  refine g_seq ?_
  refine g_region ?_
  refine l_move rfl rfl ?_
  refine l_ixs rfl Try.underlying29 Try.sizeOf28 rfl rfl (by omega) (by omega) ?_
  refine l_loadc rfl Try.isAgg28 rfl (word_row hr.ex (j := 0) (by omega)) ?_
  refine l_neq rfl rfl rfl ?_
  refine l_nil ?_
  refine g_cond rfl ?_ ?_
  · intro hbr
    have hbr := of_decide_eq_true hbr
    (exfalso; omega)
  intro hbr
  have hbr := of_decide_eq_false hbr
  refine g_skip ?_
  refine g_seq ?_
  refine g_region ?_
  refine l_lds rfl Try.isAgg85 Try.sizeOf85 rfl rfl ?_
  refine l_move rfl rfl ?_
  refine l_move rfl rfl ?_
  refine l_len rfl Try.underlying29 rfl ?_
  refine l_move rfl rfl ?_
  first | refine l_sub_ rfl rfl rfl (w_i64 (by omega) (by omega)) ?_ | refine l_subw rfl rfl rfl ?_
  refine l_call rfl Try.call51 rfl (words_h _ _ false false none 0 0 [] ⟨rfl, .inl rfl⟩ (W32s.of (by simp)) h h1 ((n : Int) - h) (by omega) (by omega) (by omega)) ?_; rintro _ _ ⟨gw, rfl, rfl⟩
  have hwe : wdV false false [] h ((n : Int) - h) = List.replicate ((h : Int) + ((n : Int) - h)).toNat 0 := by unfold wdV; rw [if_neg (by simp)]
  have hwl : (wdV false false [] h ((n : Int) - h)).length = ((h : Int) + ((n : Int) - h)).toNat := by rw [hwe]; simp
  have hwz := fun i => (congrArg (fun z => z.getD i 0) hwe).trans (rep_getD _ i)
  refine l_assign rfl rfl ?_
  refine l_nil ?_
  refine g_seq ?_
  refine g_seq ?_
  refine g_region ?_
  refine l_move rfl rfl ?_
  refine l_len rfl Try.underlying29 rfl ?_
  refine l_move rfl rfl ?_
  refine l_nil ?_
  refine g_block ?_
  refine g_loopc (X := Int) [(0, _), (4, _), (6, _), (8, _), (56, _)] (.cons rfl (.cons rfl (.cons rfl (.cons rfl (.cons rfl (.nil)))))) (fun i => 0 ≤ i ∧ i ≤ n ∧ ∀ j : Nat, j < i → (wdV false false [] h ((n : Int) - h)).getD j 0 = l.getD j 0) (fun i => (n - i).toNat) (fun i => [(57, .int .i64 i)]) (0) (⟨by omega, by omega, fun j hj => by omega⟩) (.cons rfl .nil) ?_
  rintro i ⟨i0, i1, hz⟩ ih
  dsimp only [List.cons_append, List.nil_append] at ih ⊢
  refine g_seq ?_
  refine g_region ?_
  refine l_lss rfl rfl rfl ?_
  refine l_nil ?_
  refine g_seq ?_
  refine g_cond rfl ?_ ?_
  · intro hbr
    have hbr := of_decide_eq_true hbr
    refine g_skip ?_
    refine g_seq ?_
    refine g_block ?_
    refine g_seq ?_
    refine g_region ?_
    refine l_move rfl rfl ?_
    refine l_assign rfl rfl ?_
    refine l_nil ?_
    refine g_seq ?_
    refine gp_start mo (by kernel_rfl) (by kernel_rfl) ?_
    refine gp_quiet 0 rfl rfl rfl rfl rfl rfl (q_move rfl) ?_
    refine gp_quiet 1 rfl rfl rfl rfl rfl rfl (q_move rfl) ?_
    refine gp_quiet 2 rfl rfl rfl rfl rfl rfl (q_ixs Try.underlying29 Try.sizeOf28 rfl rfl (by omega) (by omega)) ?_
    refine gp_quiet 3 rfl rfl rfl rfl rfl rfl (q_loadc Try.isAgg28 rfl (word_at (mem_getO 0 rfl) (by rw [hwl]; omega))) ?_
    refine gp_quiet 4 rfl rfl rfl rfl rfl rfl (q_move rfl) ?_
    refine gp_quiet 5 rfl rfl rfl rfl rfl rfl (q_move rfl) ?_
    refine gp_quiet 6 rfl rfl rfl rfl rfl rfl (q_ixs Try.underlying29 Try.sizeOf28 rfl rfl (by omega) (by omega)) ?_
    refine gp_quiet 7 rfl rfl rfl rfl rfl rfl (q_loadc Try.isAgg28 rfl (word_row hr.ex (by omega))) ?_
    refine gp_quiet 8 rfl rfl rfl rfl rfl rfl (q_neq rfl rfl) ?_
    refine gp_end rfl rfl ?_
    refine g_cond rfl ?_ ?_
    · intro hbr
      have hbr := of_decide_eq_true hbr
      refine g_seq ?_
      refine g_region ?_
      refine l_build rfl rfl (fun w => bd_85_z w) ?_
      refine l_sts Try.sizeOf85 rfl rfl rfl rfl rfl ?_
      refine l_assign rfl rfl ?_
      refine l_nil ?_
      refine g_ret Try.func49 rfl (.cis rfl Try.isAgg85 Try.sizeOf85 rfl (.tmp rfl .nil)) ?_
      (first | exact Gives.mki ⟨false, false, none, 0, 0, [], true, rfl, rfl, .nil, .inl ⟨rfl, heldV_z fun j hj => by rw [← hz j (by omega)]; exact hwz j, rfl, by simp⟩⟩ | exact Gives.mki ⟨false, false, none, 0, 0, [], false, rfl, rfl, .nil, .inr ⟨rfl, rfl, rfl, rfl, heldV_no (fun hA => by have h5 := hA i.toNat (by omega); have h6 : (wdV false false [] h ((n : Int) - h)).getD i.toNat 0 = 0 := hwz i.toNat; omega) (fun hc => by have := hc.1; omega)⟩⟩)
    intro hbr
    have hbr := of_decide_eq_false hbr
    refine g_skip ?_
    refine g_inBlock ?_
    refine g_region ?_
    first | refine l_add rfl rfl rfl (w_i64 (by omega) (by omega)) ?_ | refine l_addw rfl rfl rfl ?_
    refine l_move rfl rfl ?_
    refine l_nil ?_
    exact g_againi (ih (i + 1) ⟨by omega, by omega, fun j hj => by rcases (show (j : Int) < i ∨ j = i.toNat by omega) with h | rfl; exact hz j h; omega⟩ (by omega)) (.cons rfl (.cons rfl (.cons rfl (.cons rfl (.cons rfl (.cons rfl (.nil)))))))
  intro hbr
  have hbr := of_decide_eq_false hbr
  refine g_exit rfl ?_
  obtain rfl : i = n := by omega
  refine g_seq ?_
  refine g_region ?_
  refine l_lds rfl Try.isAgg85 Try.sizeOf85 rfl rfl ?_
  refine l_sts Try.sizeOf85 rfl rfl rfl rfl rfl ?_
  refine l_assign rfl rfl ?_
  refine l_nil ?_
  refine g_ret Try.func49 rfl (.cis rfl Try.isAgg85 Try.sizeOf85 rfl (.tmp rfl .nil)) ?_
  (first | exact Gives.mki ⟨false, false, none, 0, 0, [], true, rfl, rfl, .nil, .inl ⟨rfl, heldV_z fun j hj => by rw [← hz j (by omega)]; exact hwz j, rfl, by simp⟩⟩ | exact Gives.mki ⟨false, false, none, 0, 0, [], false, rfl, rfl, .nil, .inr ⟨rfl, rfl, rfl, rfl, heldV_no (fun hA => by have h5 := hA i.toNat (by omega); have h6 : (wdV false false [] h ((n : Int) - h)).getD i.toNat 0 = 0 := hwz i.toNat; omega) (fun hc => by have := hc.1; omega)⟩⟩)
theorem rread_bad2 (w0 : World) (F : List Atom) (g n c : Nat) (l : List Int) (hl : l.length = n) (hc : n ≤ c) (hr : RowAt w0 F g 0 (ints .u32 l)) (hU : W32s l) (h : Nat) (h1 : h = 2 ∨ h = 3) (wd : Int) (w1 : 1 ≤ wd) (w2 : wd ≤ 16) (hn : (n : Int) = h + wd) (hz0 : ¬ l.getD 0 0 = 0) (hbad : l.getD (h - 1) 0 < 1 ∨ (n : Int) - h < l.getD (h - 1) 0) :
    CallK Try.prog 49 [.slice (some ⟨g, 0, none⟩) n c, .int .i64 h] w0 (F) (Gives w0 fun v F2 => ∃ th fr a q c2 T ok, v = .tuple #[.agg #[.bool th, .bool fr, .slice a q c2], .bool ok] ∧ F2 = F ∧ IRF w0 g l a q T ∧ HeldR l h th fr T ok) := by
  have hbh := hU (h - 1)
  refine c_enter Try.func49 rfl rfl rfl ?_
  refine g_seq ?_
  refine g_region ?_
  refine l_allocs rfl Try.zeroValue85 ?_; intro b4
  refine l_assign rfl rfl ?_
  refine l_nil ?_
  refine g_seq ?_
  refine g_region ?_
  refine l_allocs rfl Try.zeroValue85 ?_; intro b6
  refine l_nil ?_
  refine g_seq ?_
  refine g_seq ?_
  refine g_region ?_
  refine l_move rfl rfl ?_
  refine l_ixs rfl Try.underlying29 Try.sizeOf28 rfl rfl (by omega) (by omega) ?_
  refine l_loadc rfl Try.isAgg28 rfl (word_row hr.ex (j := 0) (by omega)) ?_
  refine l_neq rfl rfl rfl ?_
  refine l_nil ?_
  refine g_cond rfl ?_ ?_
  · intro hbr
    have hbr := of_decide_eq_true hbr
    refine g_seq ?_
    refine g_region ?_
    refine l_move rfl rfl ?_
    refine l_move rfl rfl ?_
    first | refine l_sub_ rfl rfl rfl (w_i64 (by omega) (by omega)) ?_ | refine l_subw rfl rfl rfl ?_
    refine l_ixs rfl Try.underlying29 Try.sizeOf28 rfl rfl (by omega) (by omega) ?_
    rw [show ((h : Int) - 1).toNat = h - 1 by omega]
    refine l_loadc rfl Try.isAgg28 rfl (word_row hr.ex (j := h - 1) (by omega)) ?_
    first | refine l_conv rfl Try.underlying28 Try.underlying3 rfl (w_i64 (by omega) (by omega)) ?_ | refine l_convw rfl Try.underlying28 Try.underlying3 rfl ?_
    refine l_assign rfl rfl ?_
    refine l_nil ?_
    refine g_seq ?_
    refine g_seq ?_
    refine g_region ?_
    refine l_move rfl rfl ?_
    refine l_lss rfl rfl rfl ?_
    refine l_move rfl rfl ?_
    refine l_split 22 rfl ?_ ?_
    · intro hbr
      have hbr := of_decide_eq_true hbr
      refine l_guard_no rfl rfl rfl ?_
      refine l_guard_no rfl rfl rfl ?_
      refine l_guard_no rfl rfl rfl ?_
      refine l_guard_no rfl rfl rfl ?_
      refine l_guard_no rfl rfl rfl ?_
      refine l_guard_no rfl rfl rfl ?_
      refine l_pick_t rfl rfl rfl ?_
      refine l_nil ?_
      refine g_cond_t rfl ?_
      refine g_seq ?_
      refine g_region ?_
      refine l_lds rfl Try.isAgg85 Try.sizeOf85 rfl rfl ?_
      refine l_sts Try.sizeOf85 rfl rfl rfl rfl rfl ?_
      refine l_assign rfl rfl ?_
      refine l_nil ?_
      refine g_ret Try.func49 rfl (.cis rfl Try.isAgg85 Try.sizeOf85 rfl (.tmp rfl .nil)) ?_
      exact Gives.mki ⟨false, false, none, 0, 0, [], false, rfl, rfl, .nil, .inr ⟨rfl, rfl, rfl, rfl, heldV_no (fun hA => hz0 (hA 0 (by omega))) (fun hc => by have h5 := hc.2.2.1; have h6 := hc.2.2.2.1; unfold msgN at h5 h6; omega)⟩⟩
    intro hbr
    have hbr := of_decide_eq_false hbr
    refine l_guard_yes rfl rfl ?_
    refine l_move rfl rfl ?_
    refine l_guard_yes rfl rfl ?_
    refine l_move rfl rfl ?_
    refine l_guard_yes rfl rfl ?_
    refine l_len rfl Try.underlying29 rfl ?_
    refine l_guard_yes rfl rfl ?_
    refine l_move rfl rfl ?_
    refine l_guard_yes rfl rfl ?_
    first | refine l_sub_ rfl rfl rfl (w_i64 (by omega) (by omega)) ?_ | refine l_subw rfl rfl rfl ?_
    refine l_guard_yes rfl rfl ?_
    refine l_gtr rfl rfl rfl ?_
    refine l_pick_f rfl rfl rfl ?_
    refine l_nil ?_
    refine g_cond rfl ?_ ?_
    · intro hbr
      have hbr := of_decide_eq_true hbr
      refine g_seq ?_
      refine g_region ?_
      refine l_lds rfl Try.isAgg85 Try.sizeOf85 rfl rfl ?_
      refine l_sts Try.sizeOf85 rfl rfl rfl rfl rfl ?_
      refine l_assign rfl rfl ?_
      refine l_nil ?_
      refine g_ret Try.func49 rfl (.cis rfl Try.isAgg85 Try.sizeOf85 rfl (.tmp rfl .nil)) ?_
      exact Gives.mki ⟨false, false, none, 0, 0, [], false, rfl, rfl, .nil, .inr ⟨rfl, rfl, rfl, rfl, heldV_no (fun hA => hz0 (hA 0 (by omega))) (fun hc => by have h5 := hc.2.2.1; have h6 := hc.2.2.2.1; unfold msgN at h5 h6; omega)⟩⟩
    · intro hbr
      have hbr := of_decide_eq_false hbr
      (exfalso; omega)
  · intro hbr
    have hbr := of_decide_eq_false hbr
    (exfalso; omega)
set_option maxHeartbeats 4000000 in
theorem rread_msg (w0 : World) (F : List Atom) (g n c : Nat) (l : List Int) (hl : l.length = n) (hc : n ≤ c) (hr : RowAt w0 F g 0 (ints .u32 l)) (hU : W32s l) (h : Nat) (h1 : h = 2 ∨ h = 3) (wd : Int) (w1 : 1 ≤ wd) (w2 : wd ≤ 16) (hn : (n : Int) = h + wd) (hz0 : ¬ l.getD 0 0 = 0) (m : Nat) (hm : l.getD (h - 1) 0 = (m : Int)) (m1 : 1 ≤ m) (m2 : (m : Int) ≤ (n : Int) - h) (fr : Bool) (hfr : fr = true ↔ h = 3 ∧ l.getD 1 0 = 1) (T : List Int) (hT : T = (l.drop h).take m) :
    CallK Try.prog 49 [.slice (some ⟨g, 0, none⟩) n c, .int .i64 h] w0 (F) (Gives w0 fun v F2 => ∃ th fr a q c2 T ok, v = .tuple #[.agg #[.bool th, .bool fr, .slice a q c2], .bool ok] ∧ F2 = F ∧ IRF w0 g l a q T ∧ HeldR l h th fr T ok) := by
  have hTl : T.length = m := by rw [hT, List.length_take, List.length_drop]; omega
  have hbh := hU (h - 1)
  rw [hm] at hbh
  have hwq := wd_eq (fr := fr) (T := T) (wd := (n : Int) - h) h1 (by omega) (by omega) hm m1 m2 hT hfr hU
  have hb0 := hU 0
  refine c_enter Try.func49 rfl rfl rfl ?_
  refine g_seq ?_
  refine g_region ?_
  refine l_allocs rfl Try.zeroValue85 ?_; intro b4
  refine l_assign rfl rfl ?_
  refine l_nil ?_
  refine g_seq ?_
  refine g_region ?_
  refine l_allocs rfl Try.zeroValue85 ?_; intro b6
  refine l_nil ?_
  refine g_seq ?_
  refine g_seq ?_
  refine g_region ?_
  refine l_move rfl rfl ?_
  refine l_ixs rfl Try.underlying29 Try.sizeOf28 rfl rfl (by omega) (by omega) ?_
  refine l_loadc rfl Try.isAgg28 rfl (word_row hr.ex (j := 0) (by omega)) ?_
  refine l_neq rfl rfl rfl ?_
  refine l_nil ?_
  refine g_cond rfl ?_ ?_
  · intro hbr
    have hbr := of_decide_eq_true hbr
    refine g_seq ?_
    refine g_region ?_
    refine l_move rfl rfl ?_
    refine l_move rfl rfl ?_
    first | refine l_sub_ rfl rfl rfl (w_i64 (by omega) (by omega)) ?_ | refine l_subw rfl rfl rfl ?_
    refine l_ixs rfl Try.underlying29 Try.sizeOf28 rfl rfl (by omega) (by omega) ?_
    rw [show ((h : Int) - 1).toNat = h - 1 by omega]
    refine l_loadc rfl Try.isAgg28 rfl (word_row hr.ex (j := h - 1) (by omega)) ?_
    rw [hm]
    first | refine l_conv rfl Try.underlying28 Try.underlying3 rfl (w_i64 (by omega) (by omega)) ?_ | refine l_convw rfl Try.underlying28 Try.underlying3 rfl ?_
    refine l_assign rfl rfl ?_
    refine l_nil ?_
    refine g_seq ?_
    refine g_seq ?_
    refine g_region ?_
    refine l_move rfl rfl ?_
    refine l_lss rfl rfl rfl ?_
    refine l_move rfl rfl ?_
    refine l_split 22 rfl ?_ ?_
    · intro hbr
      have hbr := of_decide_eq_true hbr
      (exfalso; omega)
    intro hbr
    have hbr := of_decide_eq_false hbr
    refine l_guard_yes rfl rfl ?_
    refine l_move rfl rfl ?_
    refine l_guard_yes rfl rfl ?_
    refine l_move rfl rfl ?_
    refine l_guard_yes rfl rfl ?_
    refine l_len rfl Try.underlying29 rfl ?_
    refine l_guard_yes rfl rfl ?_
    refine l_move rfl rfl ?_
    refine l_guard_yes rfl rfl ?_
    first | refine l_sub_ rfl rfl rfl (w_i64 (by omega) (by omega)) ?_ | refine l_subw rfl rfl rfl ?_
    refine l_guard_yes rfl rfl ?_
    refine l_gtr rfl rfl rfl ?_
    refine l_pick_f rfl rfl rfl ?_
    refine l_nil ?_
    refine g_cond rfl ?_ ?_
    · intro hbr
      have hbr := of_decide_eq_true hbr
      (exfalso; omega)
    intro hbr
    have hbr := of_decide_eq_false hbr
    refine g_skip ?_
    refine g_seq ?_
    refine g_region ?_
    refine l_fieldAddr rfl fa_85_0 rfl ?_
    refine l_st Try.sizeOf4 rfl rfl rfl rfl ?_
    refine l_nil ?_
    refine g_seq ?_
    refine g_region ?_
    refine l_move rfl rfl ?_
    refine l_eql rfl rfl rfl ?_
    refine l_move rfl rfl ?_
    refine l_split 34 rfl ?_ ?_
    · intro hbr
      have hbr := of_decide_eq_true hbr
      refine l_guard_yes rfl rfl ?_
      refine l_move rfl rfl ?_
      refine l_guard_yes rfl rfl ?_
      refine l_ixs rfl Try.underlying29 Try.sizeOf28 rfl rfl (by omega) (by omega) ?_
      refine l_guard_yes rfl rfl ?_
      refine l_loadc rfl Try.isAgg28 rfl (word_row hr.ex (j := 1) (by omega)) ?_
      refine l_guard_yes rfl rfl ?_
      refine l_eql rfl rfl rfl ?_
      refine l_pick_t rfl rfl rfl ?_
      refine l_fieldAddr rfl fa_85_1 rfl ?_
      refine l_st Try.sizeOf4 rfl rfl rfl rfl ?_
      refine l_nil ?_
      refine g_region ?_
      refine l_move rfl rfl ?_
      refine l_move rfl rfl ?_
      refine l_move rfl rfl ?_
      refine l_move rfl rfl ?_
      first | refine l_add rfl rfl rfl (w_i64 (by omega) (by omega)) ?_ | refine l_addw rfl rfl rfl ?_
      refine l_slice_lh rfl Try.underlying29 Try.sizeOf28 rfl rfl rfl (by omega) (by omega) (by omega) ?_; intro o46 ho46
      rw [show ((h : Int) + (m : Int)).toNat - ((h : Int)).toNat = m by omega, show c - ((h : Int)).toNat = c - h by omega]
      refine l_fieldAddr rfl fa_85_2 rfl ?_
      refine l_st Try.sizeOf29 rfl rfl rfl rfl ?_
      refine l_nil ?_
      refine g_seq ?_
      refine g_region ?_
      refine l_lds rfl Try.isAgg85 Try.sizeOf85 rfl rfl ?_
      refine l_move rfl rfl ?_
      refine l_move rfl rfl ?_
      refine l_len rfl Try.underlying29 rfl ?_
      refine l_move rfl rfl ?_
      first | refine l_sub_ rfl rfl rfl (w_i64 (by omega) (by omega)) ?_ | refine l_subw rfl rfl rfl ?_
      have hIT0 : IRF w0 g l (some ⟨g, o46, none⟩) m T := fun _ hr0 => ⟨hTl, .inr ⟨g, o46, rfl, by rw [hT]; have h5 := words_part (m := m) hr0 ho46 (by omega); rwa [Int.toNat_natCast] at h5⟩⟩
      have hIT := hIT0 _ hr
      have hTU : W32s T := by rw [hT]; exact hU.part _ _
      refine l_call rfl Try.call51 rfl (words_h _ _ true _ (some ⟨g, o46, none⟩) m (c - h) T hIT.ex hTU h h1 ((n : Int) - h) (by omega) (by omega) (by omega)) ?_; rintro _ _ ⟨gw, rfl, rfl⟩
      (first | ((have hfe : fr = decide (l.getD 1 0 = 1) := Bool.eq_iff_iff.2 (by rw [hfr, decide_eq_true_iff]; exact ⟨fun h => h.2, fun h => ⟨(by omega), h⟩⟩)); rw [← hfe]) | ((have hfe : fr = false := (by cases fr; rfl; exact absurd (hfr.1 rfl).1 (by omega))); rw [show wdV true false T h ((n : Int) - h) = wdV true fr T h ((n : Int) - h) by rw [hfe]]))
      have hwl : (wdV true fr T h ((n : Int) - h)).length = ((h : Int) + ((n : Int) - h)).toNat := by unfold wdV; rw [if_pos rfl, spl_length (by rw [wdB_len]; omega), wdB_len]
      refine l_assign rfl rfl ?_
      refine l_nil ?_
      refine g_seq ?_
      refine g_seq ?_
      refine g_region ?_
      refine l_move rfl rfl ?_
      refine l_len rfl Try.underlying29 rfl ?_
      refine l_move rfl rfl ?_
      refine l_nil ?_
      refine g_block ?_
      refine g_loopc (X := Int) [(0, _), (4, _), (6, _), (8, _), (56, _)] (.cons rfl (.cons rfl (.cons rfl (.cons rfl (.cons rfl (.nil)))))) (fun i => 0 ≤ i ∧ i ≤ n ∧ ∀ j : Nat, j < i → (wdV true fr T h ((n : Int) - h)).getD j 0 = l.getD j 0) (fun i => (n - i).toNat) (fun i => [(57, .int .i64 i)]) (0) (⟨by omega, by omega, fun j hj => by omega⟩) (.cons rfl .nil) ?_
      rintro i ⟨i0, i1, hz⟩ ih
      dsimp only [List.cons_append, List.nil_append] at ih ⊢
      refine g_seq ?_
      refine g_region ?_
      refine l_lss rfl rfl rfl ?_
      refine l_nil ?_
      refine g_seq ?_
      refine g_cond rfl ?_ ?_
      · intro hbr
        have hbr := of_decide_eq_true hbr
        refine g_skip ?_
        refine g_seq ?_
        refine g_block ?_
        refine g_seq ?_
        refine g_region ?_
        refine l_move rfl rfl ?_
        refine l_assign rfl rfl ?_
        refine l_nil ?_
        refine g_seq ?_
        refine gp_start mo (by kernel_rfl) (by kernel_rfl) ?_
        refine gp_quiet 0 rfl rfl rfl rfl rfl rfl (q_move rfl) ?_
        refine gp_quiet 1 rfl rfl rfl rfl rfl rfl (q_move rfl) ?_
        refine gp_quiet 2 rfl rfl rfl rfl rfl rfl (q_ixs Try.underlying29 Try.sizeOf28 rfl rfl (by omega) (by omega)) ?_
        refine gp_quiet 3 rfl rfl rfl rfl rfl rfl (q_loadc Try.isAgg28 rfl (word_at (mem_getO 0 rfl) (by rw [hwl]; omega))) ?_
        refine gp_quiet 4 rfl rfl rfl rfl rfl rfl (q_move rfl) ?_
        refine gp_quiet 5 rfl rfl rfl rfl rfl rfl (q_move rfl) ?_
        refine gp_quiet 6 rfl rfl rfl rfl rfl rfl (q_ixs Try.underlying29 Try.sizeOf28 rfl rfl (by omega) (by omega)) ?_
        refine gp_quiet 7 rfl rfl rfl rfl rfl rfl (q_loadc Try.isAgg28 rfl (word_row hr.ex (by omega))) ?_
        refine gp_quiet 8 rfl rfl rfl rfl rfl rfl (q_neq rfl rfl) ?_
        refine gp_end rfl rfl ?_
        refine g_cond rfl ?_ ?_
        · intro hbr
          have hbr := of_decide_eq_true hbr
          refine g_seq ?_
          refine g_region ?_
          refine l_build rfl rfl (fun w => bd_85_z w) ?_
          refine l_sts Try.sizeOf85 rfl rfl rfl rfl rfl ?_
          refine l_assign rfl rfl ?_
          refine l_nil ?_
          refine g_ret Try.func49 rfl (.cis rfl Try.isAgg85 Try.sizeOf85 rfl (.tmp rfl .nil)) ?_
          (first | exact Gives.mki ⟨true, _, some ⟨g, o46, none⟩, m, c - h, T, true, rfl, rfl, hIT0, .inl ⟨rfl, by have h5 := hwq.1 (fun j hj => hz j (by omega)); rw [heldV_msg (fun hA => hz0 (hA 0 (by omega))) h5.1 h5.2.1 h5.2.2, hT]; unfold msgN; rw [hm]; rfl, (decide_eq_true (by omega)).symm, by rw [← hfe, hfr]; exact ⟨fun h => ⟨by omega, h⟩, fun h => h.2⟩⟩⟩ | exact Gives.mki ⟨true, fr, some ⟨g, o46, none⟩, m, c - h, T, true, rfl, rfl, hIT0, .inl ⟨rfl, by have h5 := hwq.1 (fun j hj => hz j (by omega)); rw [heldV_msg (fun hA => hz0 (hA 0 (by omega))) h5.1 h5.2.1 h5.2.2, hT]; unfold msgN; rw [hm]; rfl, (decide_eq_true (by omega)).symm, by rw [hfr]; exact ⟨fun h => ⟨by omega, h⟩, fun h => h.2⟩⟩⟩ | exact Gives.mki ⟨false, false, none, 0, 0, [], false, rfl, rfl, .nil, .inr ⟨rfl, rfl, rfl, rfl, heldV_no (fun hA => hz0 (hA 0 (by omega))) (fun hc => by have h5 := hwq.2 hc i.toNat (by omega); omega)⟩⟩)
        intro hbr
        have hbr := of_decide_eq_false hbr
        refine g_skip ?_
        refine g_inBlock ?_
        refine g_region ?_
        first | refine l_add rfl rfl rfl (w_i64 (by omega) (by omega)) ?_ | refine l_addw rfl rfl rfl ?_
        refine l_move rfl rfl ?_
        refine l_nil ?_
        exact g_againi (ih (i + 1) ⟨by omega, by omega, fun j hj => by rcases (show (j : Int) < i ∨ j = i.toNat by omega) with h | rfl; exact hz j h; omega⟩ (by omega)) (.cons rfl (.cons rfl (.cons rfl (.cons rfl (.cons rfl (.cons rfl (.nil)))))))
      intro hbr
      have hbr := of_decide_eq_false hbr
      refine g_exit rfl ?_
      obtain rfl : i = n := by omega
      refine g_seq ?_
      refine g_region ?_
      refine l_lds rfl Try.isAgg85 Try.sizeOf85 rfl rfl ?_
      refine l_sts Try.sizeOf85 rfl rfl rfl rfl rfl ?_
      refine l_assign rfl rfl ?_
      refine l_nil ?_
      refine g_ret Try.func49 rfl (.cis rfl Try.isAgg85 Try.sizeOf85 rfl (.tmp rfl .nil)) ?_
      (first | exact Gives.mki ⟨true, _, some ⟨g, o46, none⟩, m, c - h, T, true, rfl, rfl, hIT0, .inl ⟨rfl, by have h5 := hwq.1 (fun j hj => hz j (by omega)); rw [heldV_msg (fun hA => hz0 (hA 0 (by omega))) h5.1 h5.2.1 h5.2.2, hT]; unfold msgN; rw [hm]; rfl, (decide_eq_true (by omega)).symm, by rw [← hfe, hfr]; exact ⟨fun h => ⟨by omega, h⟩, fun h => h.2⟩⟩⟩ | exact Gives.mki ⟨true, fr, some ⟨g, o46, none⟩, m, c - h, T, true, rfl, rfl, hIT0, .inl ⟨rfl, by have h5 := hwq.1 (fun j hj => hz j (by omega)); rw [heldV_msg (fun hA => hz0 (hA 0 (by omega))) h5.1 h5.2.1 h5.2.2, hT]; unfold msgN; rw [hm]; rfl, (decide_eq_true (by omega)).symm, by rw [hfr]; exact ⟨fun h => ⟨by omega, h⟩, fun h => h.2⟩⟩⟩ | exact Gives.mki ⟨false, false, none, 0, 0, [], false, rfl, rfl, .nil, .inr ⟨rfl, rfl, rfl, rfl, heldV_no (fun hA => hz0 (hA 0 (by omega))) (fun hc => by have h5 := hwq.2 hc i.toNat (by omega); omega)⟩⟩)
    intro hbr
    have hbr := of_decide_eq_false hbr
    refine l_guard_no rfl rfl rfl ?_
    refine l_guard_no rfl rfl rfl ?_
    refine l_guard_no rfl rfl rfl ?_
    refine l_guard_no rfl rfl rfl ?_
    refine l_pick_f rfl rfl rfl ?_
    refine l_fieldAddr rfl fa_85_1 rfl ?_
    refine l_st Try.sizeOf4 rfl rfl rfl rfl ?_
    refine l_nil ?_
    refine g_region ?_
    refine l_move rfl rfl ?_
    refine l_move rfl rfl ?_
    refine l_move rfl rfl ?_
    refine l_move rfl rfl ?_
    first | refine l_add rfl rfl rfl (w_i64 (by omega) (by omega)) ?_ | refine l_addw rfl rfl rfl ?_
    refine l_slice_lh rfl Try.underlying29 Try.sizeOf28 rfl rfl rfl (by omega) (by omega) (by omega) ?_; intro o46 ho46
    rw [show ((h : Int) + (m : Int)).toNat - ((h : Int)).toNat = m by omega, show c - ((h : Int)).toNat = c - h by omega]
    refine l_fieldAddr rfl fa_85_2 rfl ?_
    refine l_st Try.sizeOf29 rfl rfl rfl rfl ?_
    refine l_nil ?_
    refine g_seq ?_
    refine g_region ?_
    refine l_lds rfl Try.isAgg85 Try.sizeOf85 rfl rfl ?_
    refine l_move rfl rfl ?_
    refine l_move rfl rfl ?_
    refine l_len rfl Try.underlying29 rfl ?_
    refine l_move rfl rfl ?_
    first | refine l_sub_ rfl rfl rfl (w_i64 (by omega) (by omega)) ?_ | refine l_subw rfl rfl rfl ?_
    have hIT0 : IRF w0 g l (some ⟨g, o46, none⟩) m T := fun _ hr0 => ⟨hTl, .inr ⟨g, o46, rfl, by rw [hT]; have h5 := words_part (m := m) hr0 ho46 (by omega); rwa [Int.toNat_natCast] at h5⟩⟩
    have hIT := hIT0 _ hr
    have hTU : W32s T := by rw [hT]; exact hU.part _ _
    refine l_call rfl Try.call51 rfl (words_h _ _ true _ (some ⟨g, o46, none⟩) m (c - h) T hIT.ex hTU h h1 ((n : Int) - h) (by omega) (by omega) (by omega)) ?_; rintro _ _ ⟨gw, rfl, rfl⟩
    (first | ((have hfe : fr = decide (l.getD 1 0 = 1) := Bool.eq_iff_iff.2 (by rw [hfr, decide_eq_true_iff]; exact ⟨fun h => h.2, fun h => ⟨(by omega), h⟩⟩)); rw [← hfe]) | ((have hfe : fr = false := (by cases fr; rfl; exact absurd (hfr.1 rfl).1 (by omega))); rw [show wdV true false T h ((n : Int) - h) = wdV true fr T h ((n : Int) - h) by rw [hfe]]))
    have hwl : (wdV true fr T h ((n : Int) - h)).length = ((h : Int) + ((n : Int) - h)).toNat := by unfold wdV; rw [if_pos rfl, spl_length (by rw [wdB_len]; omega), wdB_len]
    refine l_assign rfl rfl ?_
    refine l_nil ?_
    refine g_seq ?_
    refine g_seq ?_
    refine g_region ?_
    refine l_move rfl rfl ?_
    refine l_len rfl Try.underlying29 rfl ?_
    refine l_move rfl rfl ?_
    refine l_nil ?_
    refine g_block ?_
    refine g_loopc (X := Int) [(0, _), (4, _), (6, _), (8, _), (56, _)] (.cons rfl (.cons rfl (.cons rfl (.cons rfl (.cons rfl (.nil)))))) (fun i => 0 ≤ i ∧ i ≤ n ∧ ∀ j : Nat, j < i → (wdV true fr T h ((n : Int) - h)).getD j 0 = l.getD j 0) (fun i => (n - i).toNat) (fun i => [(57, .int .i64 i)]) (0) (⟨by omega, by omega, fun j hj => by omega⟩) (.cons rfl .nil) ?_
    rintro i ⟨i0, i1, hz⟩ ih
    dsimp only [List.cons_append, List.nil_append] at ih ⊢
    refine g_seq ?_
    refine g_region ?_
    refine l_lss rfl rfl rfl ?_
    refine l_nil ?_
    refine g_seq ?_
    refine g_cond rfl ?_ ?_
    · intro hbr
      have hbr := of_decide_eq_true hbr
      refine g_skip ?_
      refine g_seq ?_
      refine g_block ?_
      refine g_seq ?_
      refine g_region ?_
      refine l_move rfl rfl ?_
      refine l_assign rfl rfl ?_
      refine l_nil ?_
      refine g_seq ?_
      refine gp_start mo (by kernel_rfl) (by kernel_rfl) ?_
      refine gp_quiet 0 rfl rfl rfl rfl rfl rfl (q_move rfl) ?_
      refine gp_quiet 1 rfl rfl rfl rfl rfl rfl (q_move rfl) ?_
      refine gp_quiet 2 rfl rfl rfl rfl rfl rfl (q_ixs Try.underlying29 Try.sizeOf28 rfl rfl (by omega) (by omega)) ?_
      refine gp_quiet 3 rfl rfl rfl rfl rfl rfl (q_loadc Try.isAgg28 rfl (word_at (mem_getO 0 rfl) (by rw [hwl]; omega))) ?_
      refine gp_quiet 4 rfl rfl rfl rfl rfl rfl (q_move rfl) ?_
      refine gp_quiet 5 rfl rfl rfl rfl rfl rfl (q_move rfl) ?_
      refine gp_quiet 6 rfl rfl rfl rfl rfl rfl (q_ixs Try.underlying29 Try.sizeOf28 rfl rfl (by omega) (by omega)) ?_
      refine gp_quiet 7 rfl rfl rfl rfl rfl rfl (q_loadc Try.isAgg28 rfl (word_row hr.ex (by omega))) ?_
      refine gp_quiet 8 rfl rfl rfl rfl rfl rfl (q_neq rfl rfl) ?_
      refine gp_end rfl rfl ?_
      refine g_cond rfl ?_ ?_
      · intro hbr
        have hbr := of_decide_eq_true hbr
        refine g_seq ?_
        refine g_region ?_
        refine l_build rfl rfl (fun w => bd_85_z w) ?_
        refine l_sts Try.sizeOf85 rfl rfl rfl rfl rfl ?_
        refine l_assign rfl rfl ?_
        refine l_nil ?_
        refine g_ret Try.func49 rfl (.cis rfl Try.isAgg85 Try.sizeOf85 rfl (.tmp rfl .nil)) ?_
        (first | exact Gives.mki ⟨true, _, some ⟨g, o46, none⟩, m, c - h, T, true, rfl, rfl, hIT0, .inl ⟨rfl, by have h5 := hwq.1 (fun j hj => hz j (by omega)); rw [heldV_msg (fun hA => hz0 (hA 0 (by omega))) h5.1 h5.2.1 h5.2.2, hT]; unfold msgN; rw [hm]; rfl, (decide_eq_true (by omega)).symm, by rw [← hfe, hfr]; exact ⟨fun h => ⟨by omega, h⟩, fun h => h.2⟩⟩⟩ | exact Gives.mki ⟨true, fr, some ⟨g, o46, none⟩, m, c - h, T, true, rfl, rfl, hIT0, .inl ⟨rfl, by have h5 := hwq.1 (fun j hj => hz j (by omega)); rw [heldV_msg (fun hA => hz0 (hA 0 (by omega))) h5.1 h5.2.1 h5.2.2, hT]; unfold msgN; rw [hm]; rfl, (decide_eq_true (by omega)).symm, by rw [hfr]; exact ⟨fun h => ⟨by omega, h⟩, fun h => h.2⟩⟩⟩ | exact Gives.mki ⟨false, false, none, 0, 0, [], false, rfl, rfl, .nil, .inr ⟨rfl, rfl, rfl, rfl, heldV_no (fun hA => hz0 (hA 0 (by omega))) (fun hc => by have h5 := hwq.2 hc i.toNat (by omega); omega)⟩⟩)
      intro hbr
      have hbr := of_decide_eq_false hbr
      refine g_skip ?_
      refine g_inBlock ?_
      refine g_region ?_
      first | refine l_add rfl rfl rfl (w_i64 (by omega) (by omega)) ?_ | refine l_addw rfl rfl rfl ?_
      refine l_move rfl rfl ?_
      refine l_nil ?_
      exact g_againi (ih (i + 1) ⟨by omega, by omega, fun j hj => by rcases (show (j : Int) < i ∨ j = i.toNat by omega) with h | rfl; exact hz j h; omega⟩ (by omega)) (.cons rfl (.cons rfl (.cons rfl (.cons rfl (.cons rfl (.cons rfl (.nil)))))))
    intro hbr
    have hbr := of_decide_eq_false hbr
    refine g_exit rfl ?_
    obtain rfl : i = n := by omega
    refine g_seq ?_
    refine g_region ?_
    refine l_lds rfl Try.isAgg85 Try.sizeOf85 rfl rfl ?_
    refine l_sts Try.sizeOf85 rfl rfl rfl rfl rfl ?_
    refine l_assign rfl rfl ?_
    refine l_nil ?_
    refine g_ret Try.func49 rfl (.cis rfl Try.isAgg85 Try.sizeOf85 rfl (.tmp rfl .nil)) ?_
    (first | exact Gives.mki ⟨true, _, some ⟨g, o46, none⟩, m, c - h, T, true, rfl, rfl, hIT0, .inl ⟨rfl, by have h5 := hwq.1 (fun j hj => hz j (by omega)); rw [heldV_msg (fun hA => hz0 (hA 0 (by omega))) h5.1 h5.2.1 h5.2.2, hT]; unfold msgN; rw [hm]; rfl, (decide_eq_true (by omega)).symm, by rw [← hfe, hfr]; exact ⟨fun h => ⟨by omega, h⟩, fun h => h.2⟩⟩⟩ | exact Gives.mki ⟨true, fr, some ⟨g, o46, none⟩, m, c - h, T, true, rfl, rfl, hIT0, .inl ⟨rfl, by have h5 := hwq.1 (fun j hj => hz j (by omega)); rw [heldV_msg (fun hA => hz0 (hA 0 (by omega))) h5.1 h5.2.1 h5.2.2, hT]; unfold msgN; rw [hm]; rfl, (decide_eq_true (by omega)).symm, by rw [hfr]; exact ⟨fun h => ⟨by omega, h⟩, fun h => h.2⟩⟩⟩ | exact Gives.mki ⟨false, false, none, 0, 0, [], false, rfl, rfl, .nil, .inr ⟨rfl, rfl, rfl, rfl, heldV_no (fun hA => hz0 (hA 0 (by omega))) (fun hc => by have h5 := hwq.2 hc i.toNat (by omega); omega)⟩⟩)
  · intro hbr
    have hbr := of_decide_eq_false hbr
    (exfalso; omega)
end Go.Proofs.Ythngpcaljljlaaa.Fw
