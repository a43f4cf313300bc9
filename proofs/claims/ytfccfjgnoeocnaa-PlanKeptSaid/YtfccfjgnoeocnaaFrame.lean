import Derived.Test.YtfccfjgnoeocnaaBase
namespace Go.Proofs.Ytfccfjgnoeocnaa.Fw
open Go Go.Proofs
set_option linter.unusedVariables false
set_option linter.unusedSimpArgs false
set_option maxRecDepth 10000
theorem fa_40_1 (a : Addr) (w : World) : (Instr.fieldAt 40 (.pointer (some a)) 1).run Try.prog w = .ok (.pointer (some (a.add 1))) w := by
  simp [Instr.fieldAt, Try.runUnderlying40, Instr.sureAddr, fieldPlace, Try.sizeOf3, Sem.run_bind, Sem.run_pure]
theorem fa_40_2 (a : Addr) (w : World) : (Instr.fieldAt 40 (.pointer (some a)) 2).run Try.prog w = .ok (.pointer (some (a.add 2))) w := by
  simp [Instr.fieldAt, Try.runUnderlying40, Instr.sureAddr, fieldPlace, Try.sizeOf3, Sem.run_bind, Sem.run_pure]
theorem frame_ok (w0 : World) (F : List Atom) (a : Option Addr) (n c : Nat) (L : List Win) (hW : WR w0 F a n L) (hn : n ≤ 9223372036854775807) (hm : May L) :
    CallK Try.prog 37 [.slice a n c] w0 (F) (Gives w0 fun v F2 => ∃ g cg, v = .tuple #[.slice (some ⟨g, 0, none⟩) n cg, .int .i64 (bg L n), .bool true] ∧ n ≤ cg ∧ F2 = Own 3 1 (.slice (some ⟨g, 0, none⟩) n cg) n (ints .i64 (bgs L n)) :: F) := by
  have hL := hW.1
  have hI := hW.2.1
  unfold I64 at hI
  obtain ⟨m1, m2, _⟩ := id hm
  refine c_enter Try.func37 rfl rfl rfl ?_
  refine g_seq ?_
  refine g_region ?_
  refine l_assign rfl rfl ?_
  refine l_assign rfl rfl ?_
  refine l_assign rfl rfl ?_
  refine l_nil ?_
  refine g_seq ?_
  refine g_seq ?_
  refine g_region ?_
  refine l_move rfl rfl ?_
  refine l_len rfl Try.underlying38 rfl ?_
  refine l_lss rfl rfl rfl ?_
  refine l_move rfl rfl ?_
  refine l_split 12 rfl ?_ ?_
  · intro hbr
    have hbr := of_decide_eq_true hbr
    (exfalso; omega)
  intro hbr
  have hbr := of_decide_eq_false hbr
  refine l_guard_yes rfl rfl ?_
  refine l_move rfl rfl ?_
  refine l_guard_yes rfl rfl ?_
  refine l_len rfl Try.underlying38 rfl ?_
  refine l_guard_yes rfl rfl ?_
  refine l_gtr rfl rfl rfl ?_
  refine l_pick_f rfl rfl rfl ?_
  refine l_nil ?_
  refine g_cond rfl ?_ ?_
  · intro hbr
    have hbr := of_decide_eq_true hbr
    (exfalso; omega)
  intro hbr
  have hbr := of_decide_eq_false hbr
  refine g_skip ?_
  refine g_seq ?_
  refine g_region ?_
  refine l_assign rfl rfl ?_
  refine l_nil ?_
  refine g_seq ?_
  refine g_region ?_
  refine l_assign rfl rfl ?_
  refine l_nil ?_
  refine g_seq ?_
  refine g_seq ?_
  refine g_region ?_
  refine l_move rfl rfl ?_
  refine l_len rfl Try.underlying38 rfl ?_
  refine l_move rfl rfl ?_
  refine l_nil ?_
  refine g_block ?_
  refine g_own_nil 3 1 ?_
  refine g_loop (X := Int × Value) (fun z => 0 ≤ z.1 ∧ z.1 ≤ n) (fun z => (n - z.1).toNat) (fun z => [(5, z.2), (6, .int .i64 (bg L z.1.toNat)), (17, .slice a n c), (18, .int .i64 n), (19, .int .i64 z.1)]) (fun z => Own 3 1 z.2 z.1.toNat (ints .i64 (bgs L z.1.toNat)) :: F) (0, .slice none 0 0) ⟨by simp only; omega, by simp only; omega⟩ (.cons rfl (.cons rfl (.cons rfl (.cons rfl (.cons rfl (.nil)))))) (fun w hw => hw) ?_
  rintro ⟨i, v5⟩ ⟨i0, i1⟩ ih
  dsimp only
  simp only at i0 i1
  have hmi := fun h => hm.2.2 i.toNat h
  unfold okW at hmi
  have hb1 := bg_bound hm.2.2 i.toNat (by omega)
  refine g_seq ?_
  refine g_region ?_
  refine l_lss rfl rfl rfl ?_
  refine l_nil ?_
  refine g_seq ?_
  refine g_cond rfl ?_ ?_
  · intro hbr
    have hbr := of_decide_eq_true hbr
    refine g_skip ?_
    refine g_seq ?_
    refine g_block ?_
    refine g_seq ?_
    refine g_region ?_
    have hIi := hI i.toNat (by omega)
    obtain ⟨b9, o9, rfl, hr9⟩ := hW.some (i := i.toNat) (by omega)
    refine l_ixs rfl Try.underlying38 Try.sizeOf40 rfl rfl (by omega) (by omega) ?_
    refine l_loadr (l := winRow (wat L i.toNat)) rfl Try.isAgg40 Try.sizeOf40 rfl rfl (row_elem hr9.ex (win_len L) (win_at (i := i.toNat) (by omega))) ?_
    refine l_allocs rfl Try.zeroValue40 ?_; intro b8
    refine l_sts Try.sizeOf40 rfl rfl rfl rfl rfl ?_
    refine l_nil ?_
    refine g_seq ?_
    refine g_seq ?_
    refine g_region ?_
    refine l_fieldAddr rfl fa_40_1 rfl ?_
    first | refine l_ld rfl Try.isAgg3 rfl rfl ?_ | refine l_ldw rfl Try.isAgg3 rfl (by omega) ?_
    refine l_lss rfl rfl rfl ?_
    refine l_move rfl rfl ?_
    refine l_split 26 rfl ?_ ?_
    · intro hbr
      have hbr := of_decide_eq_true hbr
      (exfalso; omega)
    intro hbr
    have hbr := of_decide_eq_false hbr
    refine l_guard_yes rfl rfl ?_
    refine l_fieldAddr rfl fa_40_1 rfl ?_
    refine l_guard_yes rfl rfl ?_
    first | refine l_ld rfl Try.isAgg3 rfl rfl ?_ | refine l_ldw rfl Try.isAgg3 rfl (by omega) ?_
    refine l_guard_yes rfl rfl ?_
    refine l_gtr rfl rfl rfl ?_
    refine l_pick_f rfl rfl rfl ?_
    refine l_move rfl rfl ?_
    refine l_split 31 rfl ?_ ?_
    · intro hbr
      have hbr := of_decide_eq_true hbr
      (exfalso; omega)
    intro hbr
    have hbr := of_decide_eq_false hbr
    refine l_guard_yes rfl rfl ?_
    refine l_fieldAddr rfl fa_40_2 rfl ?_
    refine l_guard_yes rfl rfl ?_
    first | refine l_ld rfl Try.isAgg3 rfl rfl ?_ | refine l_ldw rfl Try.isAgg3 rfl (by omega) ?_
    refine l_guard_yes rfl rfl ?_
    refine l_lss rfl rfl rfl ?_
    refine l_pick_f rfl rfl rfl ?_
    refine l_move rfl rfl ?_
    refine l_split 36 rfl ?_ ?_
    · intro hbr
      have hbr := of_decide_eq_true hbr
      (exfalso; omega)
    intro hbr
    have hbr := of_decide_eq_false hbr
    refine l_guard_yes rfl rfl ?_
    refine l_fieldAddr rfl fa_40_2 rfl ?_
    refine l_guard_yes rfl rfl ?_
    first | refine l_ld rfl Try.isAgg3 rfl rfl ?_ | refine l_ldw rfl Try.isAgg3 rfl (by omega) ?_
    refine l_guard_yes rfl rfl ?_
    refine l_gtr rfl rfl rfl ?_
    refine l_pick_f rfl rfl rfl ?_
    refine l_nil ?_
    refine g_cond rfl ?_ ?_
    · intro hbr
      have hbr := of_decide_eq_true hbr
      (exfalso; omega)
    intro hbr
    have hbr := of_decide_eq_false hbr
    refine g_skip ?_
    refine g_seq ?_
    refine g_region ?_
    refine l_move rfl rfl ?_
    refine l_move rfl rfl ?_
    refine l_buildSlice rfl Try.underlying35 Try.sizeOf3 Try.zeroValue3 rfl rfl rfl rfl rfl rfl ?_; intro b43
    refine l_appendw 2 (by_ := 8) (W := [bg L i.toNat]) (V := bgs L i.toNat) (m3 := i.toNat + 1) (V3 := bgs L (i.toNat + 1)) rfl Try.underlying35 Try.type3 rfl rfl rfl rfl rfl rfl rfl ⟨rfl, .inl ⟨_, _, _, rfl, .own (mem_getO 0 rfl)⟩⟩ (by omega) (by simp only [maxLen]; omega) rfl (bgs_snoc _ _) (fun _ => rfl) ?_; intro v44 hv44
    refine l_assign rfl rfl ?_
    refine l_nil ?_
    refine g_region ?_
    refine l_move rfl rfl ?_
    refine l_fieldAddr rfl fa_40_1 rfl ?_
    first | refine l_ld rfl Try.isAgg3 rfl rfl ?_ | refine l_ldw rfl Try.isAgg3 rfl (by omega) ?_
    refine l_fieldAddr rfl fa_40_2 rfl ?_
    first | refine l_ld rfl Try.isAgg3 rfl rfl ?_ | refine l_ldw rfl Try.isAgg3 rfl (by omega) ?_
    first | refine l_add rfl rfl rfl (w_i64 (by omega) (by omega)) ?_ | refine l_addw rfl rfl rfl ?_
    first | refine l_add rfl rfl rfl (w_i64 (by omega) (by omega)) ?_ | refine l_addw rfl rfl rfl ?_
    refine l_assign rfl rfl ?_
    refine l_nil ?_
    refine g_inBlock ?_
    refine g_region ?_
    first | refine l_add rfl rfl rfl (w_i64 (by omega) (by omega)) ?_ | refine l_addw rfl rfl rfl ?_
    refine l_move rfl rfl ?_
    refine l_nil ?_
    have hbs := @bg_step L i.toNat
    rw [show i.toNat + 1 = (i + 1).toNat by omega] at hbs ⊢
    rw [show bg L i.toNat + ((wat L i.toNat).2.1 + (wat L i.toNat).2.2) = bg L (i + 1).toNat from hbs.symm]
    exact g_againi (ih (i + 1, v44) ⟨by simp only; omega, by simp only; omega⟩ (by simp only; omega)) (.cons rfl (.cons rfl (.cons rfl (.cons rfl (.cons rfl (.nil))))))
  intro hbr
  have hbr := of_decide_eq_false hbr
  refine g_exit rfl ?_
  obtain rfl : i = n := by omega
  simp only [Int.toNat_natCast]
  refine g_fact (own_cases (mem_getO 0 rfl)) ?_
  rintro ⟨_, _, hv | ⟨g9, c9, rfl, hc9⟩⟩
  · exact absurd hv.2 (by omega)
  refine g_seq ?_
  refine g_region ?_
  refine l_move rfl rfl ?_
  refine l_move rfl rfl ?_
  refine l_assign rfl rfl ?_
  refine l_assign rfl rfl ?_
  refine l_assign rfl rfl ?_
  refine l_nil ?_
  refine g_ret Try.func37 rfl (.tmp rfl (.tmp rfl (.tmp rfl .nil))) ?_
  exact Gives.mki ⟨g9, c9, rfl, hc9, rfl⟩
theorem bg_upto {L : List Win} {i : Int} (h : ∀ j : Nat, (j : Int) < i → okW (wat L j)) (h0 : 0 ≤ i) : 0 ≤ bg L i.toNat ∧ bg L i.toNat ≤ 32768 * i := by
  have key : ∀ m : Nat, (m : Int) ≤ i → 0 ≤ bg L m ∧ bg L m ≤ 32768 * m := by
    intro m
    induction m with
    | zero => intro _; simp [bg]
    | succ m ih =>
      intro hm
      have h1 := ih (by omega)
      have h2 := h m (by omega)
      unfold okW at h2
      rw [bg_step]
      omega
  have := key i.toNat (by omega)
  omega
theorem frame_bad (w0 : World) (F : List Atom) (a : Option Addr) (n c : Nat) (L : List Win) (hW : WR w0 F a n L) (hn : n ≤ 9223372036854775807) (hm : ¬ May L) :
    CallK Try.prog 37 [.slice a n c] w0 (F) (Gives w0 fun v F2 => v = .tuple #[.slice none 0 0, .int .i64 0, .bool false] ∧ F2 = F) := by
  have hL := hW.1
  have hI := hW.2.1
  unfold I64 at hI
  refine c_enter Try.func37 rfl rfl rfl ?_
  refine g_seq ?_
  refine g_region ?_
  refine l_assign rfl rfl ?_
  refine l_assign rfl rfl ?_
  refine l_assign rfl rfl ?_
  refine l_nil ?_
  refine g_seq ?_
  refine g_seq ?_
  refine g_region ?_
  refine l_move rfl rfl ?_
  refine l_len rfl Try.underlying38 rfl ?_
  refine l_lss rfl rfl rfl ?_
  refine l_move rfl rfl ?_
  refine l_split 12 rfl ?_ ?_
  · intro hbr
    have hbr := of_decide_eq_true hbr
    refine l_guard_no rfl rfl rfl ?_
    refine l_guard_no rfl rfl rfl ?_
    refine l_guard_no rfl rfl rfl ?_
    refine l_pick_t rfl rfl rfl ?_
    refine l_nil ?_
    first | refine g_cond_t rfl ?_ | refine g_cond_t (congrArg (fun b => some (Value.bool b)) (decide_eq_true hbr)) ?_
    refine g_seq ?_
    refine g_region ?_
    refine l_assign rfl rfl ?_
    refine l_assign rfl rfl ?_
    refine l_assign rfl rfl ?_
    refine l_nil ?_
    refine g_ret Try.func37 rfl (.tmp rfl (.tmp rfl (.tmp rfl .nil))) ?_
    (first | exact Gives.mki ⟨rfl, rfl⟩ | (exfalso; exact not_may hm (by omega) (by omega) (fun j hj => hok j (by omega))))
  intro hbr
  have hbr := of_decide_eq_false hbr
  refine l_guard_yes rfl rfl ?_
  refine l_move rfl rfl ?_
  refine l_guard_yes rfl rfl ?_
  refine l_len rfl Try.underlying38 rfl ?_
  refine l_guard_yes rfl rfl ?_
  refine l_gtr rfl rfl rfl ?_
  refine l_pick_f rfl rfl rfl ?_
  refine l_nil ?_
  refine g_cond rfl ?_ ?_
  · intro hbr
    have hbr := of_decide_eq_true hbr
    refine g_seq ?_
    refine g_region ?_
    refine l_assign rfl rfl ?_
    refine l_assign rfl rfl ?_
    refine l_assign rfl rfl ?_
    refine l_nil ?_
    refine g_ret Try.func37 rfl (.tmp rfl (.tmp rfl (.tmp rfl .nil))) ?_
    (first | exact Gives.mki ⟨rfl, rfl⟩ | (exfalso; exact not_may hm (by omega) (by omega) (fun j hj => hok j (by omega))))
  intro hbr
  have hbr := of_decide_eq_false hbr
  refine g_skip ?_
  refine g_seq ?_
  refine g_region ?_
  refine l_assign rfl rfl ?_
  refine l_nil ?_
  refine g_seq ?_
  refine g_region ?_
  refine l_assign rfl rfl ?_
  refine l_nil ?_
  refine g_seq ?_
  refine g_seq ?_
  refine g_region ?_
  refine l_move rfl rfl ?_
  refine l_len rfl Try.underlying38 rfl ?_
  refine l_move rfl rfl ?_
  refine l_nil ?_
  refine g_block ?_
  refine g_own_nil 3 1 ?_
  refine g_loop (X := Int × Value) (fun z => 0 ≤ z.1 ∧ z.1 ≤ n ∧ ∀ j : Nat, (j : Int) < z.1 → okW (wat L j)) (fun z => (n - z.1).toNat) (fun z => [(5, z.2), (6, .int .i64 (bg L z.1.toNat)), (17, .slice a n c), (18, .int .i64 n), (19, .int .i64 z.1)]) (fun z => Own 3 1 z.2 z.1.toNat (ints .i64 (bgs L z.1.toNat)) :: F) (0, .slice none 0 0) ⟨by simp only; omega, by simp only; omega, fun j hj => by simp only at hj; omega⟩ (.cons rfl (.cons rfl (.cons rfl (.cons rfl (.cons rfl (.nil)))))) (fun w hw => hw) ?_
  rintro ⟨i, v5⟩ ⟨i0, i1, hok⟩ ih
  dsimp only
  simp only at i0 i1 hok
  have hb1 : i ≤ n → i ≤ 16 → 0 ≤ bg L i.toNat ∧ bg L i.toNat ≤ 32768 * i := fun h _ => bg_upto hok i0
  refine g_seq ?_
  refine g_region ?_
  refine l_lss rfl rfl rfl ?_
  refine l_nil ?_
  refine g_seq ?_
  refine g_cond rfl ?_ ?_
  · intro hbr
    have hbr := of_decide_eq_true hbr
    refine g_skip ?_
    refine g_seq ?_
    refine g_block ?_
    refine g_seq ?_
    refine g_region ?_
    have hIi := hI i.toNat (by omega)
    obtain ⟨b9, o9, rfl, hr9⟩ := hW.some (i := i.toNat) (by omega)
    refine l_ixs rfl Try.underlying38 Try.sizeOf40 rfl rfl (by omega) (by omega) ?_
    refine l_loadr (l := winRow (wat L i.toNat)) rfl Try.isAgg40 Try.sizeOf40 rfl rfl (row_elem hr9.ex (win_len L) (win_at (i := i.toNat) (by omega))) ?_
    refine l_allocs rfl Try.zeroValue40 ?_; intro b8
    refine l_sts Try.sizeOf40 rfl rfl rfl rfl rfl ?_
    refine l_nil ?_
    refine g_seq ?_
    refine g_seq ?_
    refine g_region ?_
    refine l_fieldAddr rfl fa_40_1 rfl ?_
    first | refine l_ld rfl Try.isAgg3 rfl rfl ?_ | refine l_ldw rfl Try.isAgg3 rfl (by omega) ?_
    refine l_lss rfl rfl rfl ?_
    refine l_move rfl rfl ?_
    refine l_split 26 rfl ?_ ?_
    · intro hbr
      have hbr := of_decide_eq_true hbr
      refine l_guard_no rfl rfl rfl ?_
      refine l_guard_no rfl rfl rfl ?_
      refine l_guard_no rfl rfl rfl ?_
      refine l_pick_t rfl rfl rfl ?_
      refine l_move rfl rfl ?_
      refine l_guard_no rfl rfl rfl ?_
      refine l_guard_no rfl rfl rfl ?_
      refine l_guard_no rfl rfl rfl ?_
      refine l_pick_t rfl rfl rfl ?_
      refine l_move rfl rfl ?_
      refine l_guard_no rfl rfl rfl ?_
      refine l_guard_no rfl rfl rfl ?_
      refine l_guard_no rfl rfl rfl ?_
      refine l_pick_t rfl rfl rfl ?_
      refine l_nil ?_
      first | refine g_cond_t rfl ?_ | refine g_cond_t (congrArg (fun b => some (Value.bool b)) (decide_eq_true hbr)) ?_
      refine g_seq ?_
      refine g_region ?_
      refine l_assign rfl rfl ?_
      refine l_assign rfl rfl ?_
      refine l_assign rfl rfl ?_
      refine l_nil ?_
      refine g_ret Try.func37 rfl (.tmp rfl (.tmp rfl (.tmp rfl .nil))) ?_
      (first | exact Gives.mki ⟨rfl, rfl⟩ | (exfalso; exact not_may hm (by omega) (by omega) (fun j hj => hok j (by omega))))
    intro hbr
    have hbr := of_decide_eq_false hbr
    refine l_guard_yes rfl rfl ?_
    refine l_fieldAddr rfl fa_40_1 rfl ?_
    refine l_guard_yes rfl rfl ?_
    first | refine l_ld rfl Try.isAgg3 rfl rfl ?_ | refine l_ldw rfl Try.isAgg3 rfl (by omega) ?_
    refine l_guard_yes rfl rfl ?_
    refine l_gtr rfl rfl rfl ?_
    refine l_pick_f rfl rfl rfl ?_
    refine l_move rfl rfl ?_
    refine l_split 31 rfl ?_ ?_
    · intro hbr
      have hbr := of_decide_eq_true hbr
      refine l_guard_no rfl rfl rfl ?_
      refine l_guard_no rfl rfl rfl ?_
      refine l_guard_no rfl rfl rfl ?_
      refine l_pick_t rfl rfl rfl ?_
      refine l_move rfl rfl ?_
      refine l_guard_no rfl rfl rfl ?_
      refine l_guard_no rfl rfl rfl ?_
      refine l_guard_no rfl rfl rfl ?_
      refine l_pick_t rfl rfl rfl ?_
      refine l_nil ?_
      first | refine g_cond_t rfl ?_ | refine g_cond_t (congrArg (fun b => some (Value.bool b)) (decide_eq_true hbr)) ?_
      refine g_seq ?_
      refine g_region ?_
      refine l_assign rfl rfl ?_
      refine l_assign rfl rfl ?_
      refine l_assign rfl rfl ?_
      refine l_nil ?_
      refine g_ret Try.func37 rfl (.tmp rfl (.tmp rfl (.tmp rfl .nil))) ?_
      (first | exact Gives.mki ⟨rfl, rfl⟩ | (exfalso; exact not_may hm (by omega) (by omega) (fun j hj => hok j (by omega))))
    intro hbr
    have hbr := of_decide_eq_false hbr
    refine l_guard_yes rfl rfl ?_
    refine l_fieldAddr rfl fa_40_2 rfl ?_
    refine l_guard_yes rfl rfl ?_
    first | refine l_ld rfl Try.isAgg3 rfl rfl ?_ | refine l_ldw rfl Try.isAgg3 rfl (by omega) ?_
    refine l_guard_yes rfl rfl ?_
    refine l_lss rfl rfl rfl ?_
    refine l_pick_f rfl rfl rfl ?_
    refine l_move rfl rfl ?_
    refine l_split 36 rfl ?_ ?_
    · intro hbr
      have hbr := of_decide_eq_true hbr
      refine l_guard_no rfl rfl rfl ?_
      refine l_guard_no rfl rfl rfl ?_
      refine l_guard_no rfl rfl rfl ?_
      refine l_pick_t rfl rfl rfl ?_
      refine l_nil ?_
      first | refine g_cond_t rfl ?_ | refine g_cond_t (congrArg (fun b => some (Value.bool b)) (decide_eq_true hbr)) ?_
      refine g_seq ?_
      refine g_region ?_
      refine l_assign rfl rfl ?_
      refine l_assign rfl rfl ?_
      refine l_assign rfl rfl ?_
      refine l_nil ?_
      refine g_ret Try.func37 rfl (.tmp rfl (.tmp rfl (.tmp rfl .nil))) ?_
      (first | exact Gives.mki ⟨rfl, rfl⟩ | (exfalso; exact not_may hm (by omega) (by omega) (fun j hj => hok j (by omega))))
    intro hbr
    have hbr := of_decide_eq_false hbr
    refine l_guard_yes rfl rfl ?_
    refine l_fieldAddr rfl fa_40_2 rfl ?_
    refine l_guard_yes rfl rfl ?_
    first | refine l_ld rfl Try.isAgg3 rfl rfl ?_ | refine l_ldw rfl Try.isAgg3 rfl (by omega) ?_
    refine l_guard_yes rfl rfl ?_
    refine l_gtr rfl rfl rfl ?_
    refine l_pick_f rfl rfl rfl ?_
    refine l_nil ?_
    refine g_cond rfl ?_ ?_
    · intro hbr
      have hbr := of_decide_eq_true hbr
      refine g_seq ?_
      refine g_region ?_
      refine l_assign rfl rfl ?_
      refine l_assign rfl rfl ?_
      refine l_assign rfl rfl ?_
      refine l_nil ?_
      refine g_ret Try.func37 rfl (.tmp rfl (.tmp rfl (.tmp rfl .nil))) ?_
      (first | exact Gives.mki ⟨rfl, rfl⟩ | (exfalso; exact not_may hm (by omega) (by omega) (fun j hj => hok j (by omega))))
    intro hbr
    have hbr := of_decide_eq_false hbr
    refine g_skip ?_
    refine g_seq ?_
    refine g_region ?_
    refine l_move rfl rfl ?_
    refine l_move rfl rfl ?_
    refine l_buildSlice rfl Try.underlying35 Try.sizeOf3 Try.zeroValue3 rfl rfl rfl rfl rfl rfl ?_; intro b43
    refine l_appendw 2 (by_ := 8) (W := [bg L i.toNat]) (V := bgs L i.toNat) (m3 := i.toNat + 1) (V3 := bgs L (i.toNat + 1)) rfl Try.underlying35 Try.type3 rfl rfl rfl rfl rfl rfl rfl ⟨rfl, .inl ⟨_, _, _, rfl, .own (mem_getO 0 rfl)⟩⟩ (by omega) (by simp only [maxLen]; omega) rfl (bgs_snoc _ _) (fun _ => rfl) ?_; intro v44 hv44
    refine l_assign rfl rfl ?_
    refine l_nil ?_
    refine g_region ?_
    refine l_move rfl rfl ?_
    refine l_fieldAddr rfl fa_40_1 rfl ?_
    first | refine l_ld rfl Try.isAgg3 rfl rfl ?_ | refine l_ldw rfl Try.isAgg3 rfl (by omega) ?_
    refine l_fieldAddr rfl fa_40_2 rfl ?_
    first | refine l_ld rfl Try.isAgg3 rfl rfl ?_ | refine l_ldw rfl Try.isAgg3 rfl (by omega) ?_
    first | refine l_add rfl rfl rfl (w_i64 (by omega) (by omega)) ?_ | refine l_addw rfl rfl rfl ?_
    first | refine l_add rfl rfl rfl (w_i64 (by omega) (by omega)) ?_ | refine l_addw rfl rfl rfl ?_
    refine l_assign rfl rfl ?_
    refine l_nil ?_
    refine g_inBlock ?_
    refine g_region ?_
    first | refine l_add rfl rfl rfl (w_i64 (by omega) (by omega)) ?_ | refine l_addw rfl rfl rfl ?_
    refine l_move rfl rfl ?_
    refine l_nil ?_
    have hbs := @bg_step L i.toNat
    rw [show i.toNat + 1 = (i + 1).toNat by omega] at hbs ⊢
    rw [show bg L i.toNat + ((wat L i.toNat).2.1 + (wat L i.toNat).2.2) = bg L (i + 1).toNat from hbs.symm]
    exact g_againi (ih (i + 1, v44) ⟨by simp only; omega, by simp only; omega, ok_next i0 hok (by unfold okW; omega)⟩ (by simp only; omega)) (.cons rfl (.cons rfl (.cons rfl (.cons rfl (.cons rfl (.nil))))))
  intro hbr
  have hbr := of_decide_eq_false hbr
  refine g_exit rfl ?_
  refine g_seq ?_
  refine g_region ?_
  refine l_move rfl rfl ?_
  refine l_move rfl rfl ?_
  refine l_assign rfl rfl ?_
  refine l_assign rfl rfl ?_
  refine l_assign rfl rfl ?_
  refine l_nil ?_
  refine g_ret Try.func37 rfl (.tmp rfl (.tmp rfl (.tmp rfl .nil))) ?_
  (first | exact Gives.mki ⟨rfl, rfl⟩ | (exfalso; exact not_may hm (by omega) (by omega) (fun j hj => hok j (by omega))))
end Go.Proofs.Ytfccfjgnoeocnaa.Fw
