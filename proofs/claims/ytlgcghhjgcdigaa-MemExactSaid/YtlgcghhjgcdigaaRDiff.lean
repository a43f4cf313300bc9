import Derived.Test.YtlgcghhjgcdigaaAlongX
namespace Go.Proofs.Ytlgcghhjgcdigaa.Fw
open Go Go.Proofs
set_option linter.unusedVariables false
set_option linter.unusedSimpArgs false
set_option maxRecDepth 10000
theorem fa_104_0 (a : Addr) (w : World) : (Instr.fieldAt 104 (.pointer (some a)) 0).run Try.prog w = .ok (.pointer (some (a.add 0))) w := by
  simp [Instr.fieldAt, Try.runUnderlying104, Instr.sureAddr, fieldPlace, Try.sizeOf23, Sem.run_bind, Sem.run_pure]
theorem samei_ok (w0 : World) (F : List Atom) (a1 a2 : Option Addr) (n c1 c2 : Nat) (W : List Int) (h1 : IR w0 F .i64 a1 n W) (h2 : IR w0 F .i64 a2 n W) (hn : n ≤ 9223372036854775807) :
    CallK Try.prog 47 [.slice a1 n c1, .slice a2 n c2] w0 (F) (Gives w0 fun v F2 => v = .bool true ∧ F2 = F) := by
  have hl := h1.1
  refine c_enter Try.func47 rfl rfl rfl ?_
  refine g_seq ?_
  refine g_region ?_
  refine l_assign rfl rfl ?_
  refine l_nil ?_
  refine g_seq ?_
  refine g_seq ?_
  refine g_region ?_
  refine l_move rfl rfl ?_
  refine l_len rfl Try.underlying36 rfl ?_
  refine l_move rfl rfl ?_
  refine l_len rfl Try.underlying36 rfl ?_
  refine l_neq rfl rfl rfl ?_
  refine l_nil ?_
  refine g_cond rfl ?_ ?_
  · intro hbr
    have hbr := of_decide_eq_true hbr
    (exfalso; omega)
  intro hbr
  have hbr := of_decide_eq_false hbr
  refine g_skip ?_
  refine g_seq ?_
  refine g_seq ?_
  refine g_region ?_
  refine l_assign rfl rfl ?_
  refine l_nil ?_
  refine g_block ?_
  refine g_loopc (X := Int) [(0, _), (1, _)] (.cons rfl (.cons rfl (.nil))) (fun i => 0 ≤ i ∧ i ≤ n) (fun i => (n - i).toNat) (fun i => [(5, .int .i64 i)]) (0) (by omega) (.cons rfl .nil) ?_
  rintro i ⟨i0, i1⟩ ih
  dsimp only [List.cons_append, List.nil_append] at ih ⊢
  refine g_seq ?_
  refine g_seq ?_
  refine g_region ?_
  refine l_move rfl rfl ?_
  refine l_move rfl rfl ?_
  refine l_len rfl Try.underlying36 rfl ?_
  refine l_lss rfl rfl rfl ?_
  refine l_nil ?_
  refine g_cond rfl ?_ ?_
  · intro hbr
    have hbr := of_decide_eq_true hbr
    refine g_skip ?_
    refine g_seq ?_
    refine g_block ?_
    refine g_seq ?_
    refine gp_start mo (by kernel_rfl) (by kernel_rfl) ?_
    refine gp_quiet 0 rfl rfl rfl rfl rfl rfl (q_move rfl) ?_
    refine gp_quiet 1 rfl rfl rfl rfl rfl rfl (q_move rfl) ?_
    obtain ⟨b1, o1, rfl, hr1⟩ := h1.some (i := i.toNat) (by omega)
    refine gp_quiet 2 rfl rfl rfl rfl rfl rfl (q_ixs Try.underlying36 Try.sizeOf3 rfl rfl (by omega) (by omega)) ?_
    refine gp_quiet 3 rfl rfl rfl rfl rfl rfl (q_loadc Try.isAgg3 rfl (word_any hr1 (by omega))) ?_
    refine gp_quiet 4 rfl rfl rfl rfl rfl rfl (q_move rfl) ?_
    refine gp_quiet 5 rfl rfl rfl rfl rfl rfl (q_move rfl) ?_
    obtain ⟨b2, o2, rfl, hr2⟩ := h2.some (i := i.toNat) (by omega)
    refine gp_quiet 6 rfl rfl rfl rfl rfl rfl (q_ixs Try.underlying36 Try.sizeOf3 rfl rfl (by omega) (by omega)) ?_
    refine gp_quiet 7 rfl rfl rfl rfl rfl rfl (q_loadc Try.isAgg3 rfl (word_any hr2 (by omega))) ?_
    refine gp_quiet 8 rfl rfl rfl rfl rfl rfl (q_neq rfl rfl) ?_
    refine gp_end rfl rfl ?_
    refine g_cond rfl ?_ ?_
    · intro hbr
      have hbr := of_decide_eq_true hbr
      (exfalso; omega)
    intro hbr
    have hbr := of_decide_eq_false hbr
    refine g_skip ?_
    refine g_inBlock ?_
    refine g_region ?_
    refine l_move rfl rfl ?_
    first | refine l_add rfl rfl rfl (w_i64 (by omega) (by omega)) ?_ | refine l_addw rfl rfl rfl ?_
    refine l_assign rfl rfl ?_
    refine l_nil ?_
    exact g_againi (ih (i + 1) (by omega) (by omega)) (.cons rfl (.cons rfl (.cons rfl (.nil))))
  intro hbr
  have hbr := of_decide_eq_false hbr
  refine g_exit rfl ?_
  refine g_seq ?_
  refine g_region ?_
  refine l_assign rfl rfl ?_
  refine l_nil ?_
  refine g_ret Try.func47 rfl (.tmp rfl .nil) ?_
  exact Gives.mki ⟨rfl, rfl⟩
theorem head_ok (w0 : World) (F : List Atom) (a : Option Addr) (n c : Nat) (hc : n ≤ c) (hn : n ≤ 9223372036854775807) (ha : n = 0 ∨ ∃ g, a = some ⟨g, 0, none⟩) (most : Int) (m0 : 0 ≤ most) :
    CallK Try.prog 48 [.slice a n c, .int .i64 most] w0 (F) (Gives w0 fun v F2 => v = .slice a (min n most.toNat) c ∧ F2 = F) := by
  refine c_enter Try.func48 rfl rfl rfl ?_
  refine g_seq ?_
  refine g_region ?_
  refine l_assign rfl rfl ?_
  refine l_nil ?_
  refine g_seq ?_
  refine g_seq ?_
  refine g_region ?_
  refine l_move rfl rfl ?_
  refine l_move rfl rfl ?_
  refine l_len rfl Try.underlying36 rfl ?_
  refine l_lss rfl rfl rfl ?_
  refine l_nil ?_
  refine g_cond rfl ?_ ?_
  · intro hbr
    have hbr := of_decide_eq_true hbr
    refine g_seq ?_
    refine g_region ?_
    refine l_move rfl rfl ?_
    refine l_move rfl rfl ?_
    obtain ⟨g, rfl⟩ := ha.resolve_left (by omega)
    refine l_slice_hi rfl Try.underlying36 Try.sizeOf3 rfl rfl (by omega) (by omega) ?_
    refine l_assign rfl rfl ?_
    refine l_nil ?_
    refine g_ret Try.func48 rfl (.tmp rfl .nil) ?_
    (first | exact Gives.mki ⟨by rw [Nat.min_eq_right (by omega)]; rfl, rfl⟩ | exact Gives.mki ⟨by rw [Nat.min_eq_left (by omega)]; rfl, rfl⟩)
  intro hbr
  have hbr := of_decide_eq_false hbr
  refine g_skip ?_
  refine g_seq ?_
  refine g_region ?_
  refine l_move rfl rfl ?_
  refine l_assign rfl rfl ?_
  refine l_nil ?_
  refine g_ret Try.func48 rfl (.tmp rfl .nil) ?_
  (first | exact Gives.mki ⟨by rw [Nat.min_eq_right (by omega)]; rfl, rfl⟩ | exact Gives.mki ⟨by rw [Nat.min_eq_left (by omega)]; rfl, rfl⟩)
set_option maxHeartbeats 8000000 in
theorem rdiffer_x (w0 : World) (F : List Atom) (b1 g1 n1 c1 b2 g2 n2 c2 n : Nat) (hn1 : n1 ≤ n) (hn2 : n2 ≤ n) (hnn : n = n1 ∨ n = n2) (hn : n ≤ 1073741824) (W W2 : List Int) (hM : MemRd w0 F b1 g1 n1 c1 W) (hW : W.length = n1) (hM2 : MemRd w0 F b2 g2 n2 c2 W2) (hW2 : W2.length = n2) :
    CallK Try.prog 45 [.pointer (some ⟨b1, 0, none⟩), .pointer (some ⟨b2, 0, none⟩)] w0 (F) (Gives w0 fun v F2 => ∃ a c T, v = .slice a T.length c ∧ T = difs W W2 n ∧ (T.length = 0 ∨ ∃ g, a = some ⟨g, 0, none⟩) ∧ T.length ≤ c ∧ F2 = Own 3 1 (.slice a T.length c) T.length (ints .i64 T) :: F) := by
  refine c_enter Try.func45 rfl rfl rfl ?_
  refine g_seq ?_
  refine g_region ?_
  refine l_assign rfl rfl ?_
  refine l_nil ?_
  refine g_seq ?_
  refine g_region ?_
  refine l_assign rfl rfl ?_
  refine l_nil ?_
  refine g_seq ?_
  refine g_seq ?_
  refine g_region ?_
  refine l_move rfl rfl ?_
  refine l_eqpn rfl Try.underlying87 rfl rfl ?_
  refine l_move rfl rfl ?_
  refine l_guard_yes rfl rfl ?_
  refine l_move rfl rfl ?_
  refine l_guard_yes rfl rfl ?_
  refine l_eqpn rfl Try.underlying87 rfl rfl ?_
  refine l_pick_f rfl rfl rfl ?_
  refine l_nil ?_
  first | refine g_cond_f rfl ?_ | refine g_cond_f (congrArg (fun b => some (Value.bool b)) (decide_eq_false hbr)) ?_
  refine g_skip ?_
  refine g_seq ?_
  refine g_seq ?_
  refine g_region ?_
  refine l_assign rfl rfl ?_
  refine l_nil ?_
  refine g_block ?_
  refine g_own_nil 3 1 ?_
  refine g_loopk (X := Int × Option Addr × Nat × List Int) [(0, _), (1, _), (4, _)] (.cons rfl (.cons rfl (.cons rfl (.nil)))) (fun z => 0 ≤ z.1 ∧ z.1 ≤ n ∧ z.2.2.2 = difs W W2 z.1.toNat ∧ (z.2.2.2.length = 0 ∨ ∃ g, z.2.1 = some ⟨g, 0, none⟩)) (fun z => ((n : Int) - z.1).toNat) (fun z => [(5, .slice z.2.1 z.2.2.2.length z.2.2.1), (6, .int .i64 z.1)]) (fun z => Own 3 1 (.slice z.2.1 z.2.2.2.length z.2.2.1) z.2.2.2.length (ints .i64 z.2.2.2) :: F) ((0, none, 0, [])) (⟨by simp only; omega, by simp only; omega, rfl, .inl rfl⟩) (.cons rfl (.cons rfl .nil)) (fun w hw => (hw : Holds w0 (Own 3 1 (.slice none 0 0) 0 [] :: F) w)) ?_
  rintro ⟨i, a, c, T⟩ ⟨i0, i1, hT, haT⟩ ih
  dsimp only [List.cons_append, List.nil_append] at ih ⊢
  simp only at i0 i1 hT haT
  have hTl := difs_len W W2 i.toNat
  rw [← hT] at hTl
  refine g_seq ?_
  refine g_seq ?_
  refine g_region ?_
  refine l_move rfl rfl ?_
  refine l_move rfl rfl ?_
  refine l_nilCheck rfl rfl ?_
  refine l_fieldAddr rfl fa_104_0 rfl ?_
  refine l_loadc (v := .slice (some ⟨g1, 0, none⟩) n1 c1) rfl Try.isAgg23 rfl (CellAt.to hM.1 (fun w hw => SPI.holds hw)) ?_
  refine l_len rfl Try.underlying23 rfl ?_
  refine l_lss rfl rfl rfl ?_
  refine l_move rfl rfl ?_
  refine l_split 21 rfl ?_ ?_
  · intro hbr
    have hbr := of_decide_eq_true hbr
    refine l_guard_no rfl rfl rfl ?_
    refine l_guard_no rfl rfl rfl ?_
    refine l_guard_no rfl rfl rfl ?_
    refine l_guard_no rfl rfl rfl ?_
    refine l_guard_no rfl rfl rfl ?_
    refine l_guard_no rfl rfl rfl ?_
    refine l_guard_no rfl rfl rfl ?_
    refine l_pick_t rfl rfl rfl ?_
    refine l_nil ?_
    first | refine g_cond_t rfl ?_ | refine g_cond_t (congrArg (fun b => some (Value.bool b)) (decide_eq_true hbr)) ?_
    refine g_skip ?_
    refine g_seq ?_
    refine g_block ?_
    refine g_seq ?_
    refine gp_start mo (by kernel_rfl) (by kernel_rfl) ?_
    refine gp_quiet 0 rfl rfl rfl rfl rfl rfl (q_move rfl) ?_
    refine gp_quiet 1 rfl rfl rfl rfl rfl rfl (q_move rfl) ?_
    refine gp_quiet 2 rfl rfl rfl rfl rfl rfl (q_nilCheck rfl) ?_
    refine gp_quiet 3 rfl rfl rfl rfl rfl rfl (q_fieldAddr fa_104_0 rfl) ?_
    refine gp_quiet 4 rfl rfl rfl rfl rfl rfl (q_loadc (v := .slice (some ⟨g1, 0, none⟩) n1 c1) Try.isAgg23 rfl (CellAt.to hM.1 (fun w hw => SPI.holds hw))) ?_
    refine gp_quiet 5 rfl rfl rfl rfl rfl rfl (q_len Try.underlying23 rfl) ?_
    refine gp_quiet 6 rfl rfl rfl rfl rfl rfl (q_geq rfl rfl) ?_
    refine gp_quiet 7 rfl rfl rfl rfl rfl rfl (q_move rfl) ?_
    refine gp_split 39 rfl ?_ ?_
    · intro hbr
      have hbr := of_decide_eq_true hbr
      (exfalso; first | omega | (simp at hbr; done))
    intro hbr
    have hg39 := hbr
    have hbr := of_decide_eq_false hbr
    refine gp_quietg 8 rfl rfl rfl rfl rfl rfl (.yes rfl rfl (q_move rfl)) ?_
    refine gp_quietg 9 rfl rfl rfl rfl rfl rfl (.yes rfl rfl (q_move rfl)) ?_
    refine gp_quietg 10 rfl rfl rfl rfl rfl rfl (.yes rfl rfl (q_nilCheck rfl)) ?_
    refine gp_quietg 11 rfl rfl rfl rfl rfl rfl (.yes rfl rfl (q_fieldAddr fa_104_0 rfl)) ?_
    refine gp_quietg 12 rfl rfl rfl rfl rfl rfl (.yes rfl rfl (q_loadc (v := .slice (some ⟨g2, 0, none⟩) n2 c2) Try.isAgg23 rfl (CellAt.to hM2.1 (fun w hw => SPI.holds hw)))) ?_
    refine gp_quietg 13 rfl rfl rfl rfl rfl rfl (.yes rfl rfl (q_len Try.underlying23 rfl)) ?_
    refine gp_quietg 14 rfl rfl rfl rfl rfl rfl (.yes rfl rfl (q_geq rfl rfl)) ?_
    refine gp_quiet 15 rfl rfl rfl rfl rfl rfl (q_pick_f rfl rfl) ?_
    refine gp_quiet 16 rfl rfl rfl rfl rfl rfl (q_move rfl) ?_
    refine gp_split 48 rfl ?_ ?_
    · intro hbr
      have hg48 := hbr
      have hbr := of_decide_eq_true hbr
      refine gp_quietg 17 rfl rfl rfl rfl rfl rfl (.no rfl rfl) ?_
      refine gp_quietg 18 rfl rfl rfl rfl rfl rfl (.no rfl rfl) ?_
      refine gp_quietg 19 rfl rfl rfl rfl rfl rfl (.no rfl rfl) ?_
      refine gp_quietg 20 rfl rfl rfl rfl rfl rfl (.no rfl rfl) ?_
      refine gp_quietg 21 rfl rfl rfl rfl rfl rfl (.no rfl rfl) ?_
      refine gp_quietg 22 rfl rfl rfl rfl rfl rfl (.no rfl rfl) ?_
      refine gp_quietg 23 rfl rfl rfl rfl rfl rfl (.no rfl rfl) ?_
      refine gp_quietg 24 rfl rfl rfl rfl rfl rfl (.no rfl rfl) ?_
      refine gp_quietg 25 rfl rfl rfl rfl rfl rfl (.no rfl rfl) ?_
      refine gp_quietg 26 rfl rfl rfl rfl rfl rfl (.no rfl rfl) ?_
      refine gp_quietg 27 rfl rfl rfl rfl rfl rfl (.no rfl rfl) ?_
      refine gp_quietg 28 rfl rfl rfl rfl rfl rfl (.no rfl rfl) ?_
      refine gp_quietg 29 rfl rfl rfl rfl rfl rfl (.no rfl rfl) ?_
      refine gp_quietg 30 rfl rfl rfl rfl rfl rfl (.no rfl rfl) ?_
      refine gp_quietg 31 rfl rfl rfl rfl rfl rfl (.no rfl rfl) ?_
      refine gp_quiet 32 rfl rfl rfl rfl rfl rfl (q_pick_t rfl rfl) ?_
      refine gp_end rfl rfl ?_
      first | refine g_cond_t rfl ?_ | refine g_cond_t (congrArg (fun b => some (Value.bool b)) (decide_eq_true hbr)) ?_
      refine g_region ?_
      have hun : Unl W W2 i.toNat := (unl_spec (by omega)).2 (by omega)
      refine l_move rfl rfl ?_
      refine l_move rfl rfl ?_
      refine l_buildSlice rfl Try.underlying36 Try.sizeOf3 Try.zeroValue3 rfl rfl rfl rfl rfl rfl ?_; intro b67
      refine l_fronto b67 ?_
      refine l_frontv (.slice a T.length c) ?_
      refine l_does rfl (does_apps 0 (by_ := 8) (kd := .i64) (V := T) (W := [i]) (m := T.length) (m2 := 1) (m3 := (T ++ [i]).length) (V3 := T ++ [i]) Try.underlying36 Try.type3 rfl rfl rfl rfl rfl rfl rfl ⟨rfl, .inl ⟨_, _, _, rfl, .own (mem_getO 1 rfl)⟩⟩ (by omega) (by simp only [maxLen]; omega) (by simp) rfl (fun _ _ => rfl)) ?_
      rintro _ _ ⟨a68, c68, ha68, hn68, rfl, rfl⟩
      refine l_assign rfl rfl ?_
      refine l_nil ?_
      refine g_inBlock ?_
      refine g_region ?_
      refine l_move rfl rfl ?_
      first | refine l_add rfl rfl rfl (w_i64 (by omega) (by omega)) ?_ | refine l_addw rfl rfl rfl ?_
      refine l_assign rfl rfl ?_
      refine l_nil ?_
      (first
        | exact g_againi (ih (i + 1, a68, c68, T ++ [i]) ⟨by simp only; omega, by simp only; omega, by simp only; rw [hT]; exact (difs_ne i0 hun).symm, ha68⟩ (by simp only; omega)) (.cons rfl (.cons rfl (.cons rfl (.cons rfl (.cons rfl (.nil))))))
        | exact g_againi (ih (i + 1, a, c, T) ⟨by simp only; omega, by simp only; omega, by simp only; rw [hT]; exact (difs_eq i0 (fun h => by have := (unl_spec (by omega)).1 h; omega)).symm, haT⟩ (by simp only; omega)) (.cons rfl (.cons rfl (.cons rfl (.cons rfl (.cons rfl (.nil)))))))
    intro hbr
    have hg48 := hbr
    have hbr := of_decide_eq_false hbr
    refine gp_quietg 17 rfl rfl rfl rfl rfl rfl (.yes rfl rfl (q_move rfl)) ?_
    refine gp_quietg 18 rfl rfl rfl rfl rfl rfl (.yes rfl rfl (q_nilCheck rfl)) ?_
    refine gp_quietg 19 rfl rfl rfl rfl rfl rfl (.yes rfl rfl (q_fieldAddr fa_104_0 rfl)) ?_
    refine gp_quietg 20 rfl rfl rfl rfl rfl rfl (.yes rfl rfl (q_loadc (v := .slice (some ⟨g1, 0, none⟩) n1 c1) Try.isAgg23 rfl (CellAt.to hM.1 (fun w hw => SPI.holds hw)))) ?_
    refine gp_quietg 21 rfl rfl rfl rfl rfl rfl (.yes rfl rfl (q_move rfl)) ?_
    refine gp_quietg 22 rfl rfl rfl rfl rfl rfl (.yes rfl rfl (q_ixs Try.underlying23 Try.sizeOf30 rfl rfl (by omega) (by omega))) ?_
    refine gp_quietg 23 rfl rfl rfl rfl rfl rfl (.yes rfl rfl (q_loadc (v := .int .u32 (W.getD i.toNat 0)) Try.isAgg30 rfl (word_any hM.2 (by omega)))) ?_
    refine gp_quietg 24 rfl rfl rfl rfl rfl rfl (.yes rfl rfl (q_move rfl)) ?_
    refine gp_quietg 25 rfl rfl rfl rfl rfl rfl (.yes rfl rfl (q_nilCheck rfl)) ?_
    refine gp_quietg 26 rfl rfl rfl rfl rfl rfl (.yes rfl rfl (q_fieldAddr fa_104_0 rfl)) ?_
    refine gp_quietg 27 rfl rfl rfl rfl rfl rfl (.yes rfl rfl (q_loadc (v := .slice (some ⟨g2, 0, none⟩) n2 c2) Try.isAgg23 rfl (CellAt.to hM2.1 (fun w hw => SPI.holds hw)))) ?_
    refine gp_quietg 28 rfl rfl rfl rfl rfl rfl (.yes rfl rfl (q_move rfl)) ?_
    refine gp_quietg 29 rfl rfl rfl rfl rfl rfl (.yes rfl rfl (q_ixs Try.underlying23 Try.sizeOf30 rfl rfl (by omega) (by omega))) ?_
    refine gp_quietg 30 rfl rfl rfl rfl rfl rfl (.yes rfl rfl (q_loadc (v := .int .u32 (W2.getD i.toNat 0)) Try.isAgg30 rfl (word_any hM2.2 (by omega)))) ?_
    refine gp_quietg 31 rfl rfl rfl rfl rfl rfl (.yes rfl rfl (q_neq rfl rfl)) ?_
    refine gp_quiet 32 rfl rfl rfl rfl rfl rfl (q_pick_f rfl rfl) ?_
    refine gp_end rfl rfl ?_
    refine g_cond rfl ?_ ?_
    · intro hbr
      have hbr := of_decide_eq_true hbr
      refine g_region ?_
      have hun : Unl W W2 i.toNat := (unl_spec (by omega)).2 (by omega)
      refine l_move rfl rfl ?_
      refine l_move rfl rfl ?_
      refine l_buildSlice rfl Try.underlying36 Try.sizeOf3 Try.zeroValue3 rfl rfl rfl rfl rfl rfl ?_; intro b67
      refine l_fronto b67 ?_
      refine l_frontv (.slice a T.length c) ?_
      refine l_does rfl (does_apps 0 (by_ := 8) (kd := .i64) (V := T) (W := [i]) (m := T.length) (m2 := 1) (m3 := (T ++ [i]).length) (V3 := T ++ [i]) Try.underlying36 Try.type3 rfl rfl rfl rfl rfl rfl rfl ⟨rfl, .inl ⟨_, _, _, rfl, .own (mem_getO 1 rfl)⟩⟩ (by omega) (by simp only [maxLen]; omega) (by simp) rfl (fun _ _ => rfl)) ?_
      rintro _ _ ⟨a68, c68, ha68, hn68, rfl, rfl⟩
      refine l_assign rfl rfl ?_
      refine l_nil ?_
      refine g_inBlock ?_
      refine g_region ?_
      refine l_move rfl rfl ?_
      first | refine l_add rfl rfl rfl (w_i64 (by omega) (by omega)) ?_ | refine l_addw rfl rfl rfl ?_
      refine l_assign rfl rfl ?_
      refine l_nil ?_
      (first
        | exact g_againi (ih (i + 1, a68, c68, T ++ [i]) ⟨by simp only; omega, by simp only; omega, by simp only; rw [hT]; exact (difs_ne i0 hun).symm, ha68⟩ (by simp only; omega)) (.cons rfl (.cons rfl (.cons rfl (.cons rfl (.cons rfl (.nil))))))
        | exact g_againi (ih (i + 1, a, c, T) ⟨by simp only; omega, by simp only; omega, by simp only; rw [hT]; exact (difs_eq i0 (fun h => by have := (unl_spec (by omega)).1 h; omega)).symm, haT⟩ (by simp only; omega)) (.cons rfl (.cons rfl (.cons rfl (.cons rfl (.cons rfl (.nil)))))))
    intro hbr
    have hbr := of_decide_eq_false hbr
    refine g_skip ?_
    refine g_inBlock ?_
    refine g_region ?_
    refine l_move rfl rfl ?_
    first | refine l_add rfl rfl rfl (w_i64 (by omega) (by omega)) ?_ | refine l_addw rfl rfl rfl ?_
    refine l_assign rfl rfl ?_
    refine l_nil ?_
    (first
      | exact g_againi (ih (i + 1, a68, c68, T ++ [i]) ⟨by simp only; omega, by simp only; omega, by simp only; rw [hT]; exact (difs_ne i0 hun).symm, ha68⟩ (by simp only; omega)) (.cons rfl (.cons rfl (.cons rfl (.cons rfl (.cons rfl (.nil))))))
      | exact g_againi (ih (i + 1, a, c, T) ⟨by simp only; omega, by simp only; omega, by simp only; rw [hT]; exact (difs_eq i0 (fun h => by have := (unl_spec (by omega)).1 h; omega)).symm, haT⟩ (by simp only; omega)) (.cons rfl (.cons rfl (.cons rfl (.cons rfl (.cons rfl (.nil)))))))
  intro hbr
  have hbr := of_decide_eq_false hbr
  refine l_guard_yes rfl rfl ?_
  refine l_move rfl rfl ?_
  refine l_guard_yes rfl rfl ?_
  refine l_move rfl rfl ?_
  refine l_guard_yes rfl rfl ?_
  refine l_nilCheck rfl rfl ?_
  refine l_guard_yes rfl rfl ?_
  refine l_fieldAddr rfl fa_104_0 rfl ?_
  refine l_guard_yes rfl rfl ?_
  refine l_loadc (v := .slice (some ⟨g2, 0, none⟩) n2 c2) rfl Try.isAgg23 rfl (CellAt.to hM2.1 (fun w hw => SPI.holds hw)) ?_
  refine l_guard_yes rfl rfl ?_
  refine l_len rfl Try.underlying23 rfl ?_
  refine l_guard_yes rfl rfl ?_
  refine l_lss rfl rfl rfl ?_
  refine l_pick_f rfl rfl rfl ?_
  refine l_nil ?_
  refine g_cond rfl ?_ ?_
  · intro hbr
    have hbr := of_decide_eq_true hbr
    refine g_skip ?_
    refine g_seq ?_
    refine g_block ?_
    refine g_seq ?_
    refine gp_start mo (by kernel_rfl) (by kernel_rfl) ?_
    refine gp_quiet 0 rfl rfl rfl rfl rfl rfl (q_move rfl) ?_
    refine gp_quiet 1 rfl rfl rfl rfl rfl rfl (q_move rfl) ?_
    refine gp_quiet 2 rfl rfl rfl rfl rfl rfl (q_nilCheck rfl) ?_
    refine gp_quiet 3 rfl rfl rfl rfl rfl rfl (q_fieldAddr fa_104_0 rfl) ?_
    refine gp_quiet 4 rfl rfl rfl rfl rfl rfl (q_loadc (v := .slice (some ⟨g1, 0, none⟩) n1 c1) Try.isAgg23 rfl (CellAt.to hM.1 (fun w hw => SPI.holds hw))) ?_
    refine gp_quiet 5 rfl rfl rfl rfl rfl rfl (q_len Try.underlying23 rfl) ?_
    refine gp_quiet 6 rfl rfl rfl rfl rfl rfl (q_geq rfl rfl) ?_
    refine gp_quiet 7 rfl rfl rfl rfl rfl rfl (q_move rfl) ?_
    refine gp_split 39 rfl ?_ ?_
    · intro hbr
      have hg39 := hbr
      have hbr := of_decide_eq_true hbr
      refine gp_quietg 8 rfl rfl rfl rfl rfl rfl (.no rfl rfl) ?_
      refine gp_quietg 9 rfl rfl rfl rfl rfl rfl (.no rfl rfl) ?_
      refine gp_quietg 10 rfl rfl rfl rfl rfl rfl (.no rfl rfl) ?_
      refine gp_quietg 11 rfl rfl rfl rfl rfl rfl (.no rfl rfl) ?_
      refine gp_quietg 12 rfl rfl rfl rfl rfl rfl (.no rfl rfl) ?_
      refine gp_quietg 13 rfl rfl rfl rfl rfl rfl (.no rfl rfl) ?_
      refine gp_quietg 14 rfl rfl rfl rfl rfl rfl (.no rfl rfl) ?_
      refine gp_quiet 15 rfl rfl rfl rfl rfl rfl (q_pick_t rfl rfl) ?_
      refine gp_quiet 16 rfl rfl rfl rfl rfl rfl (q_move rfl) ?_
      refine gp_quietg 17 rfl rfl rfl rfl rfl rfl (.no rfl rfl) ?_
      refine gp_quietg 18 rfl rfl rfl rfl rfl rfl (.no rfl rfl) ?_
      refine gp_quietg 19 rfl rfl rfl rfl rfl rfl (.no rfl rfl) ?_
      refine gp_quietg 20 rfl rfl rfl rfl rfl rfl (.no rfl rfl) ?_
      refine gp_quietg 21 rfl rfl rfl rfl rfl rfl (.no rfl rfl) ?_
      refine gp_quietg 22 rfl rfl rfl rfl rfl rfl (.no rfl rfl) ?_
      refine gp_quietg 23 rfl rfl rfl rfl rfl rfl (.no rfl rfl) ?_
      refine gp_quietg 24 rfl rfl rfl rfl rfl rfl (.no rfl rfl) ?_
      refine gp_quietg 25 rfl rfl rfl rfl rfl rfl (.no rfl rfl) ?_
      refine gp_quietg 26 rfl rfl rfl rfl rfl rfl (.no rfl rfl) ?_
      refine gp_quietg 27 rfl rfl rfl rfl rfl rfl (.no rfl rfl) ?_
      refine gp_quietg 28 rfl rfl rfl rfl rfl rfl (.no rfl rfl) ?_
      refine gp_quietg 29 rfl rfl rfl rfl rfl rfl (.no rfl rfl) ?_
      refine gp_quietg 30 rfl rfl rfl rfl rfl rfl (.no rfl rfl) ?_
      refine gp_quietg 31 rfl rfl rfl rfl rfl rfl (.no rfl rfl) ?_
      refine gp_quiet 32 rfl rfl rfl rfl rfl rfl (q_pick_t rfl rfl) ?_
      refine gp_end rfl rfl ?_
      first | refine g_cond_t rfl ?_ | refine g_cond_t (congrArg (fun b => some (Value.bool b)) (decide_eq_true hbr)) ?_
      refine g_region ?_
      have hun : Unl W W2 i.toNat := (unl_spec (by omega)).2 (by omega)
      refine l_move rfl rfl ?_
      refine l_move rfl rfl ?_
      refine l_buildSlice rfl Try.underlying36 Try.sizeOf3 Try.zeroValue3 rfl rfl rfl rfl rfl rfl ?_; intro b67
      refine l_fronto b67 ?_
      refine l_frontv (.slice a T.length c) ?_
      refine l_does rfl (does_apps 0 (by_ := 8) (kd := .i64) (V := T) (W := [i]) (m := T.length) (m2 := 1) (m3 := (T ++ [i]).length) (V3 := T ++ [i]) Try.underlying36 Try.type3 rfl rfl rfl rfl rfl rfl rfl ⟨rfl, .inl ⟨_, _, _, rfl, .own (mem_getO 1 rfl)⟩⟩ (by omega) (by simp only [maxLen]; omega) (by simp) rfl (fun _ _ => rfl)) ?_
      rintro _ _ ⟨a68, c68, ha68, hn68, rfl, rfl⟩
      refine l_assign rfl rfl ?_
      refine l_nil ?_
      refine g_inBlock ?_
      refine g_region ?_
      refine l_move rfl rfl ?_
      first | refine l_add rfl rfl rfl (w_i64 (by omega) (by omega)) ?_ | refine l_addw rfl rfl rfl ?_
      refine l_assign rfl rfl ?_
      refine l_nil ?_
      (first
        | exact g_againi (ih (i + 1, a68, c68, T ++ [i]) ⟨by simp only; omega, by simp only; omega, by simp only; rw [hT]; exact (difs_ne i0 hun).symm, ha68⟩ (by simp only; omega)) (.cons rfl (.cons rfl (.cons rfl (.cons rfl (.cons rfl (.nil))))))
        | exact g_againi (ih (i + 1, a, c, T) ⟨by simp only; omega, by simp only; omega, by simp only; rw [hT]; exact (difs_eq i0 (fun h => by have := (unl_spec (by omega)).1 h; omega)).symm, haT⟩ (by simp only; omega)) (.cons rfl (.cons rfl (.cons rfl (.cons rfl (.cons rfl (.nil)))))))
    · intro hbr
      have hbr := of_decide_eq_false hbr
      (exfalso; first | omega | (simp at hbr; done))
  intro hbr
  have hbr := of_decide_eq_false hbr
  refine g_exit rfl ?_
  obtain rfl : i = n := by omega
  rw [Int.toNat_natCast] at hT
  refine g_fact (own_cases (mem_getO 0 rfl)) ?_
  intro hown
  have hTc : T.length ≤ c := by
    rcases hown.2.2 with ⟨h, h2⟩ | ⟨g', cp, h, h2⟩
    · omega
    · injection h with _ _ h3
      omega
  clear hown
  refine g_seq ?_
  refine g_region ?_
  refine l_move rfl rfl ?_
  refine l_assign rfl rfl ?_
  refine l_nil ?_
  refine g_ret Try.func45 rfl (.tmp rfl .nil) ?_
  exact Gives.mki ⟨a, c, T, rfl, hT, haT, hTc, rfl⟩
end Go.Proofs.Ytlgcghhjgcdigaa.Fw
