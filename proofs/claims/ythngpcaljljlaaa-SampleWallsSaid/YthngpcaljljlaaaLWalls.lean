import Derived.Test.YthngpcaljljlaaaLRuns
namespace Go.Proofs.Ythngpcaljljlaaa.Fw
open Go Go.Proofs
set_option linter.unusedVariables false
set_option linter.unusedSimpArgs false
set_option maxRecDepth 10000

theorem among_pos (w0 : World) (F : List Atom) (x p k : Int) (x0 : 0 ≤ x) (x1 : x ≤ 1073741824) (p0 : 0 ≤ p) (p1 : p ≤ 9223372036854775807) :
    CallK Try.prog 27 [.int .i64 x, .int .i64 p, .int .i64 k] w0 (F) (Gives w0 fun v F2 => ∃ t, v = .bool t ∧ F2 = F ∧ (p ≤ x → x - p < k → t = true)) := by
  refine c_enter Try.func27 rfl rfl rfl ?_
  refine g_seq ?_
  refine g_region ?_
  refine l_assign rfl rfl ?_
  refine l_nil ?_
  refine g_seq ?_
  refine g_region ?_
  refine l_move rfl rfl ?_
  refine l_move rfl rfl ?_
  refine l_geq rfl rfl rfl ?_
  refine l_move rfl rfl ?_
  refine l_split 10 rfl ?_ ?_
  · intro hbr
    have hbr := of_decide_eq_true hbr
    refine l_guard_yes rfl rfl ?_
    refine l_move rfl rfl ?_
    refine l_guard_yes rfl rfl ?_
    refine l_move rfl rfl ?_
    refine l_guard_yes rfl rfl ?_
    first | refine l_sub_ rfl rfl rfl (w_i64 (by omega) (by omega)) ?_ | refine l_subw rfl rfl rfl ?_
    refine l_guard_yes rfl rfl ?_
    refine l_move rfl rfl ?_
    refine l_guard_yes rfl rfl ?_
    refine l_lss rfl rfl rfl ?_
    refine l_pick_t rfl rfl rfl ?_
    refine l_assign rfl rfl ?_
    refine l_nil ?_
    refine g_ret Try.func27 rfl (.tmp rfl .nil) ?_
    (first | exact Gives.mki ⟨_, rfl, rfl, fun h1 h2 => by first | (exact decide_eq_true (by omega)) | omega⟩ | exact Gives.mki ⟨_, rfl, rfl, fun h1 h2 => by exfalso; omega⟩)
  intro hbr
  have hbr := of_decide_eq_false hbr
  refine l_guard_no rfl rfl rfl ?_
  refine l_guard_no rfl rfl rfl ?_
  refine l_guard_no rfl rfl rfl ?_
  refine l_guard_no rfl rfl rfl ?_
  refine l_guard_no rfl rfl rfl ?_
  refine l_pick_f rfl rfl rfl ?_
  refine l_assign rfl rfl ?_
  refine l_nil ?_
  refine g_ret Try.func27 rfl (.tmp rfl .nil) ?_
  (first | exact Gives.mki ⟨_, rfl, rfl, fun h1 h2 => by first | (exact decide_eq_true (by omega)) | omega⟩ | exact Gives.mki ⟨_, rfl, rfl, fun h1 h2 => by exfalso; omega⟩)
theorem among_g (w0 : World) (F : List Atom) (x p k : Int) (x0 : 0 ≤ x) (x1 : x ≤ 1073741824) (p0 : -9223372036854775808 ≤ p) (p1 : p ≤ 9223372036854775807) : CallK Try.prog 27 [.int .i64 x, .int .i64 p, .int .i64 k] w0 F (Gives w0 fun v F2 => ∃ t, v = .bool t ∧ F2 = F ∧ (0 ≤ p → p ≤ x → x - p < k → t = true)) := by
  by_cases h : 0 ≤ p
  · refine (among_pos w0 F x p k x0 x1 h p1).mono ?_
    rintro r F1 ⟨v, F2, rfl, ⟨t, rfl, rfl, ht⟩, hh⟩
    exact ⟨_, _, rfl, ⟨t, rfl, rfl, fun _ => ht⟩, hh⟩
  · refine (among_ok w0 F x p k x0 (by omega) p0 p1 x1).mono ?_
    rintro r F1 ⟨v, F2, rfl, ⟨t, rfl, rfl⟩, hh⟩
    exact ⟨_, _, rfl, ⟨t, rfl, rfl, fun h2 => absurd h2 h⟩, hh⟩
theorem w_wrap {a b : Int} (h0 : -9223372036854775808 ≤ a + b) (h1 : a + b ≤ 9223372036854775807) : IntKind.i64.wrap (a + b) = a + b := w_i64 h0 h1
def Wr (n : Nat) (W W2 : List Int) (kd at_ wd : Int) (nl : Bool) (P : List Int) (q : Nat) : Prop := ∀ i : Nat, W2.getD i 0 ≠ W.getD i 0 → nl = false ∧ WdOk wd ∧ ((kd = 0 ∧ inR n at_ (2 + wd) ∧ at_ ≤ i ∧ (i : Int) < at_ + (2 + wd)) ∨ (kd = 2 ∧ ((inR n at_ (2 + wd) ∧ at_ ≤ i ∧ (i : Int) < at_ + (2 + wd)) ∨ ∃ k, k < q ∧ inR n (pAt P k) (3 + wd) ∧ pAt P k ≤ i ∧ (i : Int) < pAt P k + (3 + wd))))
theorem walls_c0 {n : Nat} {W W2 P : List Int} {kd at_ wd i : Int} {nl t1 : Bool} {q : Nat} (h4 : Wr n W W2 kd at_ wd nl P q) (hk : kd = 0) (i0 : 0 ≤ i) (ht : 0 ≤ at_ → at_ ≤ i → i - at_ < IntKind.i64.wrap (2 + wd) → t1 = true) : W2.getD i.toNat 0 ≠ W.getD i.toNat 0 → nl = false ∧ t1 = true := fun h => by
  obtain ⟨a9, ⟨w1, w2⟩, h5⟩ := h4 _ h
  refine ⟨a9, ?_⟩
  rcases h5 with ⟨_, h6, h7, h8⟩ | ⟨h9, _⟩
  · unfold inR at h6
    exact ht (by omega) (by omega) (by rw [w_i64 (by omega) (by omega)]; omega)
  · omega
theorem walls_c2 {n : Nat} {W W2 P : List Int} {kd at_ wd i : Int} {nl m : Bool} {q : Nat} {j : Int} (h4 : Wr n W W2 kd at_ wd nl P q) (hk : kd = 2) (i0 : 0 ≤ i) (hS : 0 ≤ at_ → at_ ≤ i → i - at_ < IntKind.i64.wrap (2 + wd) → m = true)
    (hQ : ∀ k : Nat, k < j → 0 ≤ pAt P k → pAt P k ≤ i → i - pAt P k < IntKind.i64.wrap (3 + wd) → m = true) (hj : q ≤ j) : W2.getD i.toNat 0 ≠ W.getD i.toNat 0 → nl = false ∧ m = true := fun h => by
  obtain ⟨a9, ⟨w1, w2⟩, h5⟩ := h4 _ h
  refine ⟨a9, ?_⟩
  rcases h5 with ⟨h9, _⟩ | ⟨_, ⟨h6, h7, h8⟩ | ⟨k, k1, h6, h7, h8⟩⟩
  · omega
  · unfold inR at h6
    exact hS (by omega) (by omega) (by rw [w_i64 (by omega) (by omega)]; omega)
  · unfold inR at h6
    exact hQ k (by omega) (by omega) (by omega) (by rw [w_i64 (by omega) (by omega)]; omega)
theorem walls_c3 {n : Nat} {W W2 P : List Int} {kd at_ wd i : Int} {nl : Bool} {q : Nat} (h4 : Wr n W W2 kd at_ wd nl P q) (hk : kd ≠ 0) (hk2 : kd ≠ 2) : W2.getD i.toNat 0 ≠ W.getD i.toNat 0 → nl = false ∧ false = true := fun h => by
  obtain ⟨a9, ⟨w1, w2⟩, h5⟩ := h4 _ h
  rcases h5 with ⟨h9, _⟩ | ⟨h9, _⟩
  · exact absurd h9 hk
  · exact absurd h9 hk2
set_option maxHeartbeats 8000000 in
theorem walls_ok (w0 : World) (F : List Atom) (a0 : Option Addr) (n0 c0 : Nat) (B : List Int) (hB : IR w0 F .u32 a0 n0 B) (hBU : W32s B) (hn0 : n0 ≤ 9223372036854775807) (kd at_ wd : Int) (am : Option Addr) (nm cm : Nat) (M : List Int) (ap : Option Addr) (np cp : Nat) (P : List Int) (x : Int) (nl : Bool) (o1 : -9223372036854775808 ≤ at_ ∧ at_ ≤ 9223372036854775807) (o2 : -9223372036854775808 ≤ wd ∧ wd ≤ 9223372036854775807) (o3 : 0 ≤ x ∧ x ≤ 4294967295) (o4 : IR w0 F .u32 am nm M ∧ W32s M ∧ nm ≤ 9223372036854775807) (o5 : IR w0 F .i64 ap np P) (o6 : ∀ i, -9223372036854775808 ≤ P.getD i 0 ∧ P.getD i 0 ≤ 9223372036854775807) (o7 : np ≤ 9223372036854775807) (o8 : np ≤ cp) :
    CallK Try.prog 7 [.slice a0 n0 c0, .agg [Value.int .i64 kd, .int .i64 at_, .int .i64 wd, .slice am nm cm, .slice ap np cp, .int .u32 x, .bool nl].toArray] w0 (F) (Gives w0 fun v F2 => v = .bool true ∧ F2 = F) := by
  have hPl := o5.1
  refine c_enter Try.func7 rfl rfl rfl ?_
  refine g_seq ?_
  refine g_region ?_
  refine l_boxs rfl rfl ?_; intro b3
  refine l_assign rfl rfl ?_
  refine l_nil ?_
  refine g_seq ?_
  refine g_region ?_
  refine l_move rfl rfl ?_
  refine l_call rfl Try.call23 rfl (begun_ok _ _ a0 n0 c0 B hB.ex hBU (by omega)) ?_; rintro _ _ ⟨gw1, rfl, rfl⟩
  refine l_call rfl Try.call22 rfl (of_ok _ _ gw1 0 80 80 (begV B) (begV_len B) (by omega) (.own (mem_getO 0 rfl)) (by omega) (by omega) (by omega)) ?_; rintro _ _ ⟨b, g, c, rfl, hc, rfl⟩
  refine l_move rfl rfl ?_
  refine l_extract rfl rfl rfl ?_
  refine l_extract rfl rfl rfl ?_
  refine l_assign rfl rfl ?_
  refine l_assign rfl rfl ?_
  refine l_nil ?_
  refine g_seq ?_
  refine g_seq ?_
  refine g_region ?_
  refine l_move rfl rfl ?_
  refine l_neq rfl rfl rfl ?_
  refine l_move rfl rfl ?_
  refine l_split 22 rfl ?_ ?_
  · intro hbr
    have hbr := of_decide_eq_true hbr
    (exfalso; first | omega | (have h9 := hcond (by omega); simp [h9.1, h9.2] at hbr; done) | (have h9 := hcond (by omega); have h8 := h9.2; cases h8; done))
  intro hbr
  have hbr := of_decide_eq_false hbr
  refine l_guard_yes rfl rfl ?_
  refine l_fieldAddr rfl fa_55_0 rfl ?_
  refine l_guard_yes rfl rfl ?_
  first | refine l_ld rfl Try.isAgg3 rfl rfl ?_ | refine l_ldw rfl Try.isAgg3 rfl (by omega) ?_
  refine l_guard_yes rfl rfl ?_
  refine l_eql rfl rfl rfl ?_
  refine l_pick_f rfl rfl rfl ?_
  refine l_nil ?_
  refine g_cond rfl ?_ ?_
  · intro hbr
    have hbr := of_decide_eq_true hbr
    refine g_seq ?_
    refine g_region ?_
    refine l_move rfl rfl ?_
    refine l_eql rfl rfl rfl ?_
    refine l_assign rfl rfl ?_
    refine l_nil ?_
    refine g_ret Try.func7 rfl (.tmp rfl .nil) ?_
    (first | exact Gives.mki ⟨rfl, rfl⟩ | exact Gives.mki ⟨by simp [resVal], rfl⟩)
  intro hbr
  have hbr := of_decide_eq_false hbr
  refine g_skip ?_
  refine g_seq ?_
  refine g_region ?_
  refine l_move rfl rfl ?_
  refine l_call rfl Try.call26 rfl (words_ok _ _ b g 80 c (begV B) (begV_len B) hc (by omega)) ?_; rintro _ _ ⟨ga, ca, rfl, hca, rfl⟩
  refine l_assign rfl rfl ?_
  refine l_nil ?_
  refine g_seq ?_
  refine g_region ?_
  refine l_move rfl rfl ?_
  refine l_call rfl Try.call23 rfl (begun_ok _ _ a0 n0 c0 B hB.ex hBU (by omega)) ?_; rintro _ _ ⟨gw2, rfl, rfl⟩
  refine l_call rfl Try.call24 rfl (rof_ok _ _ gw2 0 80 80 (begV B) (begV_len B) (by omega) (.own (mem_getO 0 rfl)) (by omega) (by omega) (by omega)) ?_; rintro _ _ ⟨b2, g2, c2, rfl, hc2, rfl⟩
  refine l_move rfl rfl ?_
  refine l_extract rfl rfl rfl ?_
  refine l_extract rfl rfl rfl ?_
  refine l_assign rfl rfl ?_
  refine l_assign rfl rfl ?_
  refine l_nil ?_
  refine g_seq ?_
  refine g_seq ?_
  refine g_region ?_
  refine l_move rfl rfl ?_
  refine l_move rfl rfl ?_
  refine l_lds rfl Try.isAgg55 Try.sizeOf55 rfl rfl ?_
  have hk4 : ¬ kd = 4 := (by omega)
  refine l_fronto g2 ?_
  refine l_frontb b2 ?_
  refine l_fronto g ?_
  refine l_frontb b ?_
  refine l_call rfl Try.call25 rfl (one_any _ _ b g 80 c b2 g2 c2 (begV B) (begV_len B) hc hc2 (by omega) (begV_u hBU) (by omega) kd at_ o1.1 o1.2 wd o2.1 o2.2 x o3.1 o3.2 nl am nm cm M o4.1.ex o4.2.1 o4.2.2 ap np cp P o5.ex o6 o7 o8) ?_; rintro _ _ ⟨rfl, W2, rfl, hone⟩
  obtain ⟨hWl2, hWU2, hone3⟩ := hone
  have hone4 : Wr 80 (begV B) W2 kd at_ wd nl P np := hone3.resolve_left hk4
  clear hone3
  refine l_not rfl rfl ?_
  refine l_nil ?_
  refine g_cond_f rfl ?_
  refine g_skip ?_
  refine g_seq ?_
  refine g_region ?_
  refine l_move rfl rfl ?_
  refine l_fronto g ?_
  refine l_frontb b ?_
  refine l_call rfl Try.call26 rfl (words_ok _ _ b g 80 c W2 hWl2 hc (by omega)) ?_; rintro _ _ ⟨gb, cb, rfl, hcb, rfl⟩
  refine l_assign rfl rfl ?_
  refine l_nil ?_
  refine g_seq ?_
  refine g_seq ?_
  refine g_region ?_
  refine l_move rfl rfl ?_
  refine l_len rfl Try.underlying29 rfl ?_
  refine l_move rfl rfl ?_
  refine l_len rfl Try.underlying29 rfl ?_
  refine l_neq rfl rfl rfl ?_
  refine l_nil ?_
  refine g_cond rfl ?_ ?_
  · intro hbr
    have hbr := of_decide_eq_true hbr
    (exfalso; first | omega | (have h9 := hcond (by omega); simp [h9.1, h9.2] at hbr; done) | (have h9 := hcond (by omega); have h8 := h9.2; cases h8; done))
  intro hbr
  have hbr := of_decide_eq_false hbr
  refine g_skip ?_
  refine g_seq ?_
  refine g_seq ?_
  refine g_region ?_
  refine l_move rfl rfl ?_
  refine l_len rfl Try.underlying29 rfl ?_
  refine l_move rfl rfl ?_
  refine l_nil ?_
  refine g_block ?_
  refine g_loopk (X := Int) [(3, _), (7, _), (10, _), (50, _)] (.cons rfl (.cons rfl (.cons rfl (.cons rfl (.nil))))) (fun i => 0 ≤ i ∧ i ≤ 80) (fun i => (80 - i).toNat) (fun i => [(51, .int .i64 i)]) (fun i => Own 28 1 (.slice (some ⟨gb, 0, none⟩) 80 cb) 80 (ints .u32 W2) :: Own 28 1 (.slice (some ⟨ga, 0, none⟩) 80 ca) 80 (ints .u32 (begV B)) :: Blk b3 (.cells [Value.int .i64 kd, .int .i64 at_, .int .i64 wd, .slice am nm cm, .slice ap np cp, .int .u32 x, .bool nl].toArray 55 (0, 0)) :: F) (0) (⟨by omega, by omega⟩) (.cons rfl .nil) (fun w hw => SPI.holds hw) ?_
  rintro i ⟨i0, i1⟩ ih
  dsimp only [List.cons_append, List.nil_append] at ih ⊢
  refine g_seq ?_
  refine g_region ?_
  refine l_lss rfl rfl rfl ?_
  refine l_nil ?_
  refine g_seq ?_
  refine g_cond rfl ?_ ?_
  · intro hbr
    have hbr := of_decide_eq_true hbr
    refine g_skip ?_
    refine g_seq ?_
    refine g_block ?_
    refine g_seq ?_
    refine g_region ?_
    refine l_move rfl rfl ?_
    refine l_assign rfl rfl ?_
    refine l_nil ?_
    refine g_seq ?_
    refine g_region ?_
    refine l_fieldAddr rfl fa_55_0 rfl ?_
    first | refine l_ld rfl Try.isAgg3 rfl rfl ?_ | refine l_ldw rfl Try.isAgg3 rfl (by omega) ?_
    refine l_eql rfl rfl rfl ?_
    refine l_move rfl rfl ?_
    refine l_split 57 rfl ?_ ?_
    · intro hbr
      have hbr := of_decide_eq_true hbr
      refine l_guard_yes rfl rfl ?_
      refine l_move rfl rfl ?_
      refine l_guard_yes rfl rfl ?_
      refine l_fieldAddr rfl fa_55_1 rfl ?_
      refine l_guard_yes rfl rfl ?_
      first | refine l_ld rfl Try.isAgg3 rfl rfl ?_ | refine l_ldw rfl Try.isAgg3 rfl (by omega) ?_
      refine l_guard_yes rfl rfl ?_
      refine l_fieldAddr rfl fa_55_2 rfl ?_
      refine l_guard_yes rfl rfl ?_
      first | refine l_ld rfl Try.isAgg3 rfl rfl ?_ | refine l_ldw rfl Try.isAgg3 rfl (by omega) ?_
      refine l_guard_yes rfl rfl ?_
      first | refine l_add rfl rfl rfl (w_i64 (by omega) (by omega)) ?_ | refine l_addw rfl rfl rfl ?_
      refine l_guard_yes rfl rfl ?_
      refine l_call rfl Try.call27 rfl (among_g _ _ i at_ _ (by omega) (by omega) o1.1 o1.2) ?_; rintro _ F9 ⟨t1, rfl, hF9, ht1⟩; rw [hF9]; clear hF9 F9
      refine l_pick_t rfl rfl rfl ?_
      refine l_assign rfl rfl ?_
      refine l_nil ?_
      refine g_seq ?_
      refine g_seq ?_
      refine g_region ?_
      refine l_fieldAddr rfl fa_55_0 rfl ?_
      first | refine l_ld rfl Try.isAgg3 rfl rfl ?_ | refine l_ldw rfl Try.isAgg3 rfl (by omega) ?_
      refine l_eql rfl rfl rfl ?_
      refine l_nil ?_
      refine g_cond rfl ?_ ?_
      · intro hbr
        have hbr := of_decide_eq_true hbr
        (exfalso; first | omega | (have h9 := hcond (by omega); simp [h9.1, h9.2] at hbr; done) | (have h9 := hcond (by omega); have h8 := h9.2; cases h8; done))
      intro hbr
      have hbr := of_decide_eq_false hbr
      refine g_skip ?_
      refine g_seq ?_
      refine gp_start mo (by kernel_rfl) (by kernel_rfl) ?_
      (first | have hcond := walls_c0 hone4 (by omega) i0 ht1 | have hcond := walls_c2 hone4 (by omega) i0 hS hQ (by omega) | have hcond := walls_c3 (i := i) hone4 (by omega) (by omega))
      refine gp_quiet 0 rfl rfl rfl rfl rfl rfl (q_move rfl) ?_
      refine gp_quiet 1 rfl rfl rfl rfl rfl rfl (q_move rfl) ?_
      refine gp_quiet 2 rfl rfl rfl rfl rfl rfl (q_ixs Try.underlying29 Try.sizeOf28 rfl rfl (by omega) (by omega)) ?_
      refine gp_quiet 3 rfl rfl rfl rfl rfl rfl (q_ldw Try.isAgg28 rfl (by omega)) ?_
      refine gp_quiet 4 rfl rfl rfl rfl rfl rfl (q_move rfl) ?_
      refine gp_quiet 5 rfl rfl rfl rfl rfl rfl (q_move rfl) ?_
      refine gp_quiet 6 rfl rfl rfl rfl rfl rfl (q_ixs Try.underlying29 Try.sizeOf28 rfl rfl (by omega) (by omega)) ?_
      refine gp_quiet 7 rfl rfl rfl rfl rfl rfl (q_ldw Try.isAgg28 rfl (by rw [begV_len]; omega)) ?_
      refine gp_quiet 8 rfl rfl rfl rfl rfl rfl (q_neq rfl rfl) ?_
      refine gp_quiet 9 rfl rfl rfl rfl rfl rfl (q_move rfl) ?_
      refine gp_split 105 rfl ?_ ?_
      · intro hbr
        have hg105 := hbr
        have hbr := of_decide_eq_true hbr
        refine gp_quietg 10 rfl rfl rfl rfl rfl rfl (.yes rfl rfl (q_move rfl)) ?_
        refine gp_quietg 11 rfl rfl rfl rfl rfl rfl (.yes rfl rfl (q_not rfl)) ?_
        refine gp_quietg 12 rfl rfl rfl rfl rfl rfl (.yes rfl rfl (q_move rfl)) ?_
        refine gp_split 108 rfl ?_ ?_
        · intro hbr
          first | (exfalso; simp at hbr; done) | (exfalso; simp at hbr; omega) | (exfalso; first | omega | (have h9 := hcond (by omega); simp [h9.1, h9.2] at hbr; done) | (have h9 := hcond (by omega); have h8 := h9.2; cases h8; done))
        intro hbr
        have hg108 := hbr
        have hb108 := hbr
        refine gp_quietg 13 rfl rfl rfl rfl rfl rfl (.yes rfl rfl (q_fieldAddr fa_55_6 rfl)) ?_
        refine gp_quietg 14 rfl rfl rfl rfl rfl rfl (.yes rfl rfl (q_ld Try.isAgg4 rfl rfl)) ?_
        refine gp_quietg 15 rfl rfl rfl rfl rfl rfl (.yes rfl rfl (q_pick_f rfl rfl)) ?_
        refine gp_quiet 16 rfl rfl rfl rfl rfl rfl (q_pick_t rfl rfl) ?_
        refine gp_end rfl rfl ?_
        refine g_cond rfl ?_ ?_
        · intro hbr
          first | (exfalso; simp at hbr; done) | (exfalso; simp at hbr; omega) | (exfalso; first | omega | (have h9 := hcond (by omega); simp [h9.1, h9.2] at hbr; done) | (have h9 := hcond (by omega); have h8 := h9.2; cases h8; done))
        intro hbr
        have hb112 := hbr
        refine g_skip ?_
        refine g_inBlock ?_
        refine g_region ?_
        first | refine l_add rfl rfl rfl (w_i64 (by omega) (by omega)) ?_ | refine l_addw rfl rfl rfl ?_
        refine l_move rfl rfl ?_
        refine l_nil ?_
        exact g_againi (ih (i + 1) ⟨by omega, by omega⟩ (by omega)) (.cons rfl (.cons rfl (.cons rfl (.cons rfl (.cons rfl (.nil))))))
      intro hbr
      have hg105 := hbr
      have hbr := of_decide_eq_false hbr
      refine gp_quietg 10 rfl rfl rfl rfl rfl rfl (.no rfl rfl) ?_
      refine gp_quietg 11 rfl rfl rfl rfl rfl rfl (.no rfl rfl) ?_
      refine gp_quietg 12 rfl rfl rfl rfl rfl rfl (.no rfl rfl) ?_
      refine gp_quietg 13 rfl rfl rfl rfl rfl rfl (.nou rfl rfl) ?_
      refine gp_quietg 14 rfl rfl rfl rfl rfl rfl (.nou rfl rfl) ?_
      refine gp_quietg 15 rfl rfl rfl rfl rfl rfl (.no rfl rfl) ?_
      refine gp_quiet 16 rfl rfl rfl rfl rfl rfl (q_pick_f rfl rfl) ?_
      refine gp_end rfl rfl ?_
      refine g_cond_f rfl ?_
      refine g_skip ?_
      refine g_inBlock ?_
      refine g_region ?_
      first | refine l_add rfl rfl rfl (w_i64 (by omega) (by omega)) ?_ | refine l_addw rfl rfl rfl ?_
      refine l_move rfl rfl ?_
      refine l_nil ?_
      exact g_againi (ih (i + 1) ⟨by omega, by omega⟩ (by omega)) (.cons rfl (.cons rfl (.cons rfl (.cons rfl (.cons rfl (.nil))))))
    intro hbr
    have hbr := of_decide_eq_false hbr
    refine l_guard_no rfl rfl rfl ?_
    refine l_guard_no rfl rfl rfl ?_
    refine l_guard_no rfl rfl rfl ?_
    refine l_guard_no rfl rfl rfl ?_
    refine l_guard_no rfl rfl rfl ?_
    refine l_guard_no rfl rfl rfl ?_
    refine l_guard_no rfl rfl rfl ?_
    refine l_pick_f rfl rfl rfl ?_
    refine l_assign rfl rfl ?_
    refine l_nil ?_
    refine g_seq ?_
    refine g_seq ?_
    refine g_region ?_
    refine l_fieldAddr rfl fa_55_0 rfl ?_
    first | refine l_ld rfl Try.isAgg3 rfl rfl ?_ | refine l_ldw rfl Try.isAgg3 rfl (by omega) ?_
    refine l_eql rfl rfl rfl ?_
    refine l_nil ?_
    refine g_cond rfl ?_ ?_
    · intro hbr
      have hbr := of_decide_eq_true hbr
      refine g_seq ?_
      refine g_region ?_
      refine l_move rfl rfl ?_
      refine l_fieldAddr rfl fa_55_1 rfl ?_
      first | refine l_ld rfl Try.isAgg3 rfl rfl ?_ | refine l_ldw rfl Try.isAgg3 rfl (by omega) ?_
      refine l_fieldAddr rfl fa_55_2 rfl ?_
      first | refine l_ld rfl Try.isAgg3 rfl rfl ?_ | refine l_ldw rfl Try.isAgg3 rfl (by omega) ?_
      first | refine l_add rfl rfl rfl (w_i64 (by omega) (by omega)) ?_ | refine l_addw rfl rfl rfl ?_
      refine l_call rfl Try.call27 rfl (among_g _ _ i at_ _ (by omega) (by omega) o1.1 o1.2) ?_; rintro _ F9 ⟨t1, rfl, hF9, ht1⟩; rw [hF9]; clear hF9 F9
      refine l_assign rfl rfl ?_
      refine l_nil ?_
      refine g_seq ?_
      refine g_region ?_
      refine l_fieldAddr rfl fa_55_4 rfl ?_
      refine l_ld rfl Try.isAgg34 rfl rfl ?_
      refine l_len rfl Try.underlying34 rfl ?_
      refine l_move rfl rfl ?_
      refine l_nil ?_
      refine g_block ?_
      refine g_loopk (X := Int × Bool) [(3, _), (7, _), (10, _), (11, _), (50, _), (51, _), (52, _), (53, _), (54, _), (55, _), (56, _), (57, _), (65, _), (66, _), (67, _), (68, _), (69, _), (70, _), (71, _), (72, _), (73, _), (74, _), (75, _), (76, _), (77, _), (78, _)] (.cons rfl (.cons rfl (.cons rfl (.cons rfl (.cons rfl (.cons rfl (.cons rfl (.cons rfl (.cons rfl (.cons rfl (.cons rfl (.cons rfl (.cons rfl (.cons rfl (.cons rfl (.cons rfl (.cons rfl (.cons rfl (.cons rfl (.cons rfl (.cons rfl (.cons rfl (.cons rfl (.cons rfl (.cons rfl (.cons rfl (.nil))))))))))))))))))))))))))) (fun z => 0 ≤ z.1 ∧ z.1 ≤ np ∧ (0 ≤ at_ → at_ ≤ i → i - at_ < IntKind.i64.wrap (2 + wd) → z.2 = true) ∧ ∀ k : Nat, k < z.1 → 0 ≤ pAt P k → pAt P k ≤ i → i - pAt P k < IntKind.i64.wrap (3 + wd) → z.2 = true) (fun z => (np - z.1).toNat) (fun z => [(12, .bool z.2), (79, .int .i64 z.1)]) (fun z => Own 28 1 (.slice (some ⟨gb, 0, none⟩) 80 cb) 80 (ints .u32 W2) :: Own 28 1 (.slice (some ⟨ga, 0, none⟩) 80 ca) 80 (ints .u32 (begV B)) :: Blk b3 (.cells [Value.int .i64 kd, .int .i64 at_, .int .i64 wd, .slice am nm cm, .slice ap np cp, .int .u32 x, .bool nl].toArray 55 (0, 0)) :: F) ((0, t1)) (⟨by simp only; omega, by simp only; omega, ht1, fun k hk => by simp only at hk; omega⟩) (.cons rfl (.cons rfl .nil)) (fun w hw => SPI.holds hw) ?_
      rintro ⟨j, m⟩ ⟨j0, j1, hS, hQ⟩ ihj
      dsimp only [List.cons_append, List.nil_append] at ihj ⊢
      simp only at j0 j1 hS hQ
      refine g_seq ?_
      refine g_region ?_
      refine l_lss rfl rfl rfl ?_
      refine l_nil ?_
      refine g_seq ?_
      refine g_cond rfl ?_ ?_
      · intro hbr
        have hbr := of_decide_eq_true hbr
        refine g_skip ?_
        refine g_seq ?_
        refine g_block ?_
        refine g_seq ?_
        refine g_region ?_
        refine l_move rfl rfl ?_
        refine l_assign rfl rfl ?_
        refine l_nil ?_
        refine gp_start mo (by kernel_rfl) (by kernel_rfl) ?_
        refine gp_quiet 0 rfl rfl rfl rfl rfl rfl (q_move rfl) ?_
        refine gp_quiet 1 rfl rfl rfl rfl rfl rfl (q_move rfl) ?_
        refine gp_split 83 rfl ?_ ?_
        · intro hbr
          have hg83 := hbr
          refine gp_quietg 2 rfl rfl rfl rfl rfl rfl (.no rfl rfl) ?_
          refine gp_quietg 3 rfl rfl rfl rfl rfl rfl (.no rfl rfl) ?_
          refine gp_quietg 4 rfl rfl rfl rfl rfl rfl (.no rfl rfl) ?_
          refine gp_quietg 5 rfl rfl rfl rfl rfl rfl (.no rfl rfl) ?_
          refine gp_quietg 6 rfl rfl rfl rfl rfl rfl (.no rfl rfl) ?_
          refine gp_quietg 7 rfl rfl rfl rfl rfl rfl (.no rfl rfl) ?_
          refine gp_quietg 8 rfl rfl rfl rfl rfl rfl (.no rfl rfl) ?_
          refine gp_quietg 9 rfl rfl rfl rfl rfl rfl (.no rfl rfl) ?_
          refine gp_quietg 10 rfl rfl rfl rfl rfl rfl (.no rfl rfl) ?_
          refine gp_quietg 11 rfl rfl rfl rfl rfl rfl (.no rfl rfl) ?_
          refine gp_quiet 12 rfl rfl rfl rfl rfl rfl (q_pick_t rfl rfl) ?_
          refine gp_after 13 rfl rfl rfl rfl rfl rfl rfl rfl (q_assign rfl) ?_
          refine gp_end rfl rfl ?_
          refine g_inBlock ?_
          refine g_region ?_
          first | refine l_add rfl rfl rfl (w_i64 (by omega) (by omega)) ?_ | refine l_addw rfl rfl rfl ?_
          refine l_move rfl rfl ?_
          refine l_nil ?_
          (first | ((have hm : m = true := hg83); exact g_againi (ihj (j + 1, true) ⟨by simp only; omega, by simp only; omega, fun h1 h2 h3 => rfl, fun k hk h1 h2 h3 => rfl⟩ (by simp only; omega)) (.cons rfl (.cons rfl (.cons rfl (.cons rfl (.cons rfl (.cons rfl (.cons rfl (.cons rfl (.cons rfl (.cons rfl (.cons rfl (.cons rfl (.cons rfl (.cons rfl (.cons rfl (.cons rfl (.cons rfl (.cons rfl (.cons rfl (.cons rfl (.cons rfl (.cons rfl (.cons rfl (.cons rfl (.cons rfl (.cons rfl (.cons rfl (.cons rfl (.nil)))))))))))))))))))))))))))))) | exact g_againi (ihj (j + 1, t2) ⟨by simp only; omega, by simp only; omega, fun h1 h2 h3 => absurd (hS h1 h2 h3) (by simp [hg83]), fun k hk h1 h2 h3 => (by rcases (show (k : Int) < j ∨ k = j.toNat from (by (simp only at hk); omega)) with h | rfl; exact absurd (hQ k h h1 h2 h3) (by simp [hg83]); exact ht2 h1 h2 h3)⟩ (by simp only; omega)) (.cons rfl (.cons rfl (.cons rfl (.cons rfl (.cons rfl (.cons rfl (.cons rfl (.cons rfl (.cons rfl (.cons rfl (.cons rfl (.cons rfl (.cons rfl (.cons rfl (.cons rfl (.cons rfl (.cons rfl (.cons rfl (.cons rfl (.cons rfl (.cons rfl (.cons rfl (.cons rfl (.cons rfl (.cons rfl (.cons rfl (.cons rfl (.cons rfl (.nil))))))))))))))))))))))))))))))
        intro hbr
        have hg83 := hbr
        refine gp_quietg 2 rfl rfl rfl rfl rfl rfl (.yes rfl rfl (q_move rfl)) ?_
        refine gp_quietg 3 rfl rfl rfl rfl rfl rfl (.yes rfl rfl (q_fieldAddr fa_55_4 rfl)) ?_
        refine gp_quietg 4 rfl rfl rfl rfl rfl rfl (.yes rfl rfl (q_ld Try.isAgg34 rfl rfl)) ?_
        refine gp_quietg 5 rfl rfl rfl rfl rfl rfl (.yes rfl rfl (q_move rfl)) ?_
        obtain ⟨b9, o9, rfl, hr9⟩ := o5.some (i := j.toNat) (by omega)
        have hb9 := o6 j.toNat
        refine gp_quietg 6 rfl rfl rfl rfl rfl rfl (.yes rfl rfl (q_ixs Try.underlying34 Try.sizeOf3 rfl rfl (by omega) (by omega))) ?_
        refine gp_quietg 7 rfl rfl rfl rfl rfl rfl (.yes rfl rfl (q_loadc Try.isAgg3 rfl (word_any hr9 (by omega)))) ?_
        refine gp_quietg 8 rfl rfl rfl rfl rfl rfl (.yes rfl rfl (q_fieldAddr fa_55_2 rfl)) ?_
        first | refine gp_quietg 9 rfl rfl rfl rfl rfl rfl (.yes rfl rfl (q_ld Try.isAgg3 rfl rfl)) ?_ | refine gp_quietg 9 rfl rfl rfl rfl rfl rfl (.yes rfl rfl (q_ldw Try.isAgg3 rfl (by omega))) ?_
        first | refine gp_quietg 10 rfl rfl rfl rfl rfl rfl (.yes rfl rfl (q_add rfl rfl (w_i64 (by omega) (by omega)))) ?_ | refine gp_quietg 10 rfl rfl rfl rfl rfl rfl (.yes rfl rfl (q_addw rfl rfl)) ?_
        refine gp_effg 11 rfl rfl rfl rfl rfl rfl (.yes rfl rfl rfl) (Does.guard (does_call Try.call27 rfl (among_g _ _ i (P.getD j.toNat 0) _ (by omega) (by omega) hb9.1 hb9.2))) ?_
        rintro _ F9 ⟨t2, rfl, hF9, ht2⟩; rw [hF9]; clear hF9 F9
        refine ⟨?_, ?_⟩
        · first | refine .consG rfl rfl rfl rfl rfl (.yes rfl rfl (q_add rfl rfl (w_i64 (by omega) (by omega)))) ?_ | refine .consG rfl rfl rfl rfl rfl (.yes rfl rfl (q_addw rfl rfl)) ?_
          first | refine .consG rfl rfl rfl rfl rfl (.yes rfl rfl (q_ld Try.isAgg3 rfl rfl)) ?_ | refine .consG rfl rfl rfl rfl rfl (.yes rfl rfl (q_ldw Try.isAgg3 rfl (by omega))) ?_
          refine .consG rfl rfl rfl rfl rfl (.yes rfl rfl (q_fieldAddr fa_55_2 rfl)) ?_
          refine .consG rfl rfl rfl rfl rfl (.yes rfl rfl (q_loadc Try.isAgg3 rfl (word_any hr9 (by omega)))) ?_
          refine .consG rfl rfl rfl rfl rfl (.yes rfl rfl (q_ixs Try.underlying34 Try.sizeOf3 rfl rfl (by omega) (by omega))) ?_
          refine .consG rfl rfl rfl rfl rfl (.yes rfl rfl (q_move rfl)) ?_
          refine .consG rfl rfl rfl rfl rfl (.yes rfl rfl (q_ld Try.isAgg34 rfl rfl)) ?_
          refine .consG rfl rfl rfl rfl rfl (.yes rfl rfl (q_fieldAddr fa_55_4 rfl)) ?_
          refine .consG rfl rfl rfl rfl rfl (.yes rfl rfl (q_move rfl)) ?_
          refine .cons rfl rfl rfl rfl rfl (QV.as (q_move rfl) (congrArg Value.bool hg83)) ?_
          refine .cons rfl rfl rfl rfl rfl (q_move rfl) ?_
          exact .nil
        refine gp_quiet 12 rfl rfl rfl rfl rfl rfl (q_pick_f rfl rfl) ?_
        refine gp_after 13 rfl rfl rfl rfl rfl rfl rfl rfl (q_assign rfl) ?_
        refine gp_end rfl rfl ?_
        refine g_inBlock ?_
        refine g_region ?_
        first | refine l_add rfl rfl rfl (w_i64 (by omega) (by omega)) ?_ | refine l_addw rfl rfl rfl ?_
        refine l_move rfl rfl ?_
        refine l_nil ?_
        (first | ((have hm : m = true := hg83); exact g_againi (ihj (j + 1, true) ⟨by simp only; omega, by simp only; omega, fun h1 h2 h3 => rfl, fun k hk h1 h2 h3 => rfl⟩ (by simp only; omega)) (.cons rfl (.cons rfl (.cons rfl (.cons rfl (.cons rfl (.cons rfl (.cons rfl (.cons rfl (.cons rfl (.cons rfl (.cons rfl (.cons rfl (.cons rfl (.cons rfl (.cons rfl (.cons rfl (.cons rfl (.cons rfl (.cons rfl (.cons rfl (.cons rfl (.cons rfl (.cons rfl (.cons rfl (.cons rfl (.cons rfl (.cons rfl (.cons rfl (.nil)))))))))))))))))))))))))))))) | exact g_againi (ihj (j + 1, t2) ⟨by simp only; omega, by simp only; omega, fun h1 h2 h3 => absurd (hS h1 h2 h3) (by simp [hg83]), fun k hk h1 h2 h3 => (by rcases (show (k : Int) < j ∨ k = j.toNat from (by (simp only at hk); omega)) with h | rfl; exact absurd (hQ k h h1 h2 h3) (by simp [hg83]); exact ht2 h1 h2 h3)⟩ (by simp only; omega)) (.cons rfl (.cons rfl (.cons rfl (.cons rfl (.cons rfl (.cons rfl (.cons rfl (.cons rfl (.cons rfl (.cons rfl (.cons rfl (.cons rfl (.cons rfl (.cons rfl (.cons rfl (.cons rfl (.cons rfl (.cons rfl (.cons rfl (.cons rfl (.cons rfl (.cons rfl (.cons rfl (.cons rfl (.cons rfl (.cons rfl (.cons rfl (.cons rfl (.nil))))))))))))))))))))))))))))))
      intro hbr
      have hbr := of_decide_eq_false hbr
      refine g_exit rfl ?_
      refine g_seq ?_
      refine gp_start mo (by kernel_rfl) (by kernel_rfl) ?_
      (first | have hcond := walls_c0 hone4 (by omega) i0 ht1 | have hcond := walls_c2 hone4 (by omega) i0 hS hQ (by omega) | have hcond := walls_c3 (i := i) hone4 (by omega) (by omega))
      refine gp_quiet 0 rfl rfl rfl rfl rfl rfl (q_move rfl) ?_
      refine gp_quiet 1 rfl rfl rfl rfl rfl rfl (q_move rfl) ?_
      refine gp_quiet 2 rfl rfl rfl rfl rfl rfl (q_ixs Try.underlying29 Try.sizeOf28 rfl rfl (by omega) (by omega)) ?_
      refine gp_quiet 3 rfl rfl rfl rfl rfl rfl (q_ldw Try.isAgg28 rfl (by omega)) ?_
      refine gp_quiet 4 rfl rfl rfl rfl rfl rfl (q_move rfl) ?_
      refine gp_quiet 5 rfl rfl rfl rfl rfl rfl (q_move rfl) ?_
      refine gp_quiet 6 rfl rfl rfl rfl rfl rfl (q_ixs Try.underlying29 Try.sizeOf28 rfl rfl (by omega) (by omega)) ?_
      refine gp_quiet 7 rfl rfl rfl rfl rfl rfl (q_ldw Try.isAgg28 rfl (by rw [begV_len]; omega)) ?_
      refine gp_quiet 8 rfl rfl rfl rfl rfl rfl (q_neq rfl rfl) ?_
      refine gp_quiet 9 rfl rfl rfl rfl rfl rfl (q_move rfl) ?_
      refine gp_split 105 rfl ?_ ?_
      · intro hbr
        have hg105 := hbr
        have hbr := of_decide_eq_true hbr
        refine gp_quietg 10 rfl rfl rfl rfl rfl rfl (.yes rfl rfl (q_move rfl)) ?_
        refine gp_quietg 11 rfl rfl rfl rfl rfl rfl (.yes rfl rfl (q_not rfl)) ?_
        refine gp_quietg 12 rfl rfl rfl rfl rfl rfl (.yes rfl rfl (q_move rfl)) ?_
        refine gp_split 108 rfl ?_ ?_
        · intro hbr
          first | (exfalso; simp at hbr; done) | (exfalso; simp at hbr; omega) | (exfalso; first | omega | (have h9 := hcond (by omega); simp [h9.1, h9.2] at hbr; done) | (have h9 := hcond (by omega); have h8 := h9.2; cases h8; done))
        intro hbr
        have hg108 := hbr
        have hb108 := hbr
        refine gp_quietg 13 rfl rfl rfl rfl rfl rfl (.yes rfl rfl (q_fieldAddr fa_55_6 rfl)) ?_
        refine gp_quietg 14 rfl rfl rfl rfl rfl rfl (.yes rfl rfl (q_ld Try.isAgg4 rfl rfl)) ?_
        refine gp_quietg 15 rfl rfl rfl rfl rfl rfl (.yes rfl rfl (q_pick_f rfl rfl)) ?_
        refine gp_quiet 16 rfl rfl rfl rfl rfl rfl (q_pick_t rfl rfl) ?_
        refine gp_end rfl rfl ?_
        refine g_cond rfl ?_ ?_
        · intro hbr
          first | (exfalso; simp at hbr; done) | (exfalso; simp at hbr; omega) | (exfalso; first | omega | (have h9 := hcond (by omega); simp [h9.1, h9.2] at hbr; done) | (have h9 := hcond (by omega); have h8 := h9.2; cases h8; done))
        intro hbr
        have hb112 := hbr
        refine g_skip ?_
        refine g_inBlock ?_
        refine g_region ?_
        first | refine l_add rfl rfl rfl (w_i64 (by omega) (by omega)) ?_ | refine l_addw rfl rfl rfl ?_
        refine l_move rfl rfl ?_
        refine l_nil ?_
        exact g_againi (ih (i + 1) ⟨by omega, by omega⟩ (by omega)) (.cons rfl (.cons rfl (.cons rfl (.cons rfl (.cons rfl (.nil))))))
      intro hbr
      have hg105 := hbr
      have hbr := of_decide_eq_false hbr
      refine gp_quietg 10 rfl rfl rfl rfl rfl rfl (.no rfl rfl) ?_
      refine gp_quietg 11 rfl rfl rfl rfl rfl rfl (.no rfl rfl) ?_
      refine gp_quietg 12 rfl rfl rfl rfl rfl rfl (.no rfl rfl) ?_
      refine gp_quietg 13 rfl rfl rfl rfl rfl rfl (.nou rfl rfl) ?_
      refine gp_quietg 14 rfl rfl rfl rfl rfl rfl (.nou rfl rfl) ?_
      refine gp_quietg 15 rfl rfl rfl rfl rfl rfl (.no rfl rfl) ?_
      refine gp_quiet 16 rfl rfl rfl rfl rfl rfl (q_pick_f rfl rfl) ?_
      refine gp_end rfl rfl ?_
      refine g_cond_f rfl ?_
      refine g_skip ?_
      refine g_inBlock ?_
      refine g_region ?_
      first | refine l_add rfl rfl rfl (w_i64 (by omega) (by omega)) ?_ | refine l_addw rfl rfl rfl ?_
      refine l_move rfl rfl ?_
      refine l_nil ?_
      exact g_againi (ih (i + 1) ⟨by omega, by omega⟩ (by omega)) (.cons rfl (.cons rfl (.cons rfl (.cons rfl (.cons rfl (.nil))))))
    intro hbr
    have hbr := of_decide_eq_false hbr
    refine g_skip ?_
    refine g_seq ?_
    refine gp_start mo (by kernel_rfl) (by kernel_rfl) ?_
    (first | have hcond := walls_c0 hone4 (by omega) i0 ht1 | have hcond := walls_c2 hone4 (by omega) i0 hS hQ (by omega) | have hcond := walls_c3 (i := i) hone4 (by omega) (by omega))
    refine gp_quiet 0 rfl rfl rfl rfl rfl rfl (q_move rfl) ?_
    refine gp_quiet 1 rfl rfl rfl rfl rfl rfl (q_move rfl) ?_
    refine gp_quiet 2 rfl rfl rfl rfl rfl rfl (q_ixs Try.underlying29 Try.sizeOf28 rfl rfl (by omega) (by omega)) ?_
    refine gp_quiet 3 rfl rfl rfl rfl rfl rfl (q_ldw Try.isAgg28 rfl (by omega)) ?_
    refine gp_quiet 4 rfl rfl rfl rfl rfl rfl (q_move rfl) ?_
    refine gp_quiet 5 rfl rfl rfl rfl rfl rfl (q_move rfl) ?_
    refine gp_quiet 6 rfl rfl rfl rfl rfl rfl (q_ixs Try.underlying29 Try.sizeOf28 rfl rfl (by omega) (by omega)) ?_
    refine gp_quiet 7 rfl rfl rfl rfl rfl rfl (q_ldw Try.isAgg28 rfl (by rw [begV_len]; omega)) ?_
    refine gp_quiet 8 rfl rfl rfl rfl rfl rfl (q_neq rfl rfl) ?_
    refine gp_quiet 9 rfl rfl rfl rfl rfl rfl (q_move rfl) ?_
    refine gp_split 105 rfl ?_ ?_
    · intro hbr
      have hbr := of_decide_eq_true hbr
      (exfalso; first | omega | (have h9 := hcond (by omega); simp [h9.1, h9.2] at hbr; done) | (have h9 := hcond (by omega); have h8 := h9.2; cases h8; done))
    intro hbr
    have hg105 := hbr
    have hbr := of_decide_eq_false hbr
    refine gp_quietg 10 rfl rfl rfl rfl rfl rfl (.no rfl rfl) ?_
    refine gp_quietg 11 rfl rfl rfl rfl rfl rfl (.no rfl rfl) ?_
    refine gp_quietg 12 rfl rfl rfl rfl rfl rfl (.no rfl rfl) ?_
    refine gp_quietg 13 rfl rfl rfl rfl rfl rfl (.nou rfl rfl) ?_
    refine gp_quietg 14 rfl rfl rfl rfl rfl rfl (.nou rfl rfl) ?_
    refine gp_quietg 15 rfl rfl rfl rfl rfl rfl (.no rfl rfl) ?_
    refine gp_quiet 16 rfl rfl rfl rfl rfl rfl (q_pick_f rfl rfl) ?_
    refine gp_end rfl rfl ?_
    refine g_cond_f rfl ?_
    refine g_skip ?_
    refine g_inBlock ?_
    refine g_region ?_
    first | refine l_add rfl rfl rfl (w_i64 (by omega) (by omega)) ?_ | refine l_addw rfl rfl rfl ?_
    refine l_move rfl rfl ?_
    refine l_nil ?_
    exact g_againi (ih (i + 1) ⟨by omega, by omega⟩ (by omega)) (.cons rfl (.cons rfl (.cons rfl (.cons rfl (.cons rfl (.nil))))))
  intro hbr
  have hbr := of_decide_eq_false hbr
  refine g_exit rfl ?_
  refine g_seq ?_
  refine g_region ?_
  refine l_assign rfl rfl ?_
  refine l_nil ?_
  refine g_ret Try.func7 rfl (.tmp rfl .nil) ?_
  (first | exact Gives.mki ⟨rfl, rfl⟩ | exact Gives.mki ⟨by simp [resVal], rfl⟩)
theorem walls_all (W : World) (a0 : Option Addr) (n0 c0 : Nat) (X0 : List Int) (hc0 : n0 ≤ c0) (hm0 : c0 ≤ maxLen) (hl0 : X0.length = n0) (hwf0 : ∀ x ∈ X0, (Lit.int .u32 x).wf = true) (hx0 : (n0 = 0 ∧ (a0 = none → c0 = 0)) ∨ ∃ b o, a0 = some ⟨b, o, none⟩ ∧ ∀ (j : Nat) u, (ints .u32 X0)[j]? = some u → W.cell? ⟨b, o + j, none⟩ = some u)
    (l : List Value) (hv : Vis Try.prog W 55 l) : CallK Try.prog 7 [.slice a0 n0 c0, .agg l.toArray] W [Old W] (Gives W fun v F2 => v = .bool true ∧ F2 = [Old W]) := by
  simp only [maxLen] at hm0
  obtain ⟨⟨kd, at_, wd, am, nm, cm, M, ap, np, cp, P, x, nl⟩, rfl, o1, o2, o3, o4, o5, o6, o7, o8⟩ := vis_op hv
  exact walls_ok W [Old W] a0 n0 c0 X0 (ir_old hl0 hx0) (W32s.of fun x h => wf_u32 (hwf0 x h)) (by omega) kd at_ wd am nm cm M ap np cp P x nl o1 o2 o3 o4 o5 o6 o7 o8
end Go.Proofs.Ythngpcaljljlaaa.Fw
