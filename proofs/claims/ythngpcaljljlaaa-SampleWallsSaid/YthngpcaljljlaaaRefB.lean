import Derived.Test.YthngpcaljljlaaaRefA
namespace Go.Proofs.Ythngpcaljljlaaa.Fw
open Go Go.Proofs
set_option linter.unusedVariables false
set_option linter.unusedSimpArgs false
set_option maxRecDepth 10000
theorem fa_85_0 (a : Addr) (w : World) : (Instr.fieldAt 85 (.pointer (some a)) 0).run Try.prog w = .ok (.pointer (some (a.add 0))) w := by
  simp [Instr.fieldAt, Try.runUnderlying85, Instr.sureAddr, fieldPlace, Try.sizeOf4, Sem.run_bind, Sem.run_pure]
theorem fa_85_1 (a : Addr) (w : World) : (Instr.fieldAt 85 (.pointer (some a)) 1).run Try.prog w = .ok (.pointer (some (a.add 1))) w := by
  simp [Instr.fieldAt, Try.runUnderlying85, Instr.sureAddr, fieldPlace, Try.sizeOf4, Sem.run_bind, Sem.run_pure]
theorem fa_85_2 (a : Addr) (w : World) : (Instr.fieldAt 85 (.pointer (some a)) 2).run Try.prog w = .ok (.pointer (some (a.add 2))) w := by
  simp [Instr.fieldAt, Try.runUnderlying85, Instr.sureAddr, fieldPlace, Try.sizeOf29, Sem.run_bind, Sem.run_pure]
def wdB (fr : Bool) (q : Nat) (h : Nat) (wd : Int) : List Int := (if h = 3 ∧ fr = true then ((List.replicate ((h : Int) + wd).toNat (0 : Int)).set 0 1).set 1 1 else (List.replicate ((h : Int) + wd).toNat (0 : Int)).set 0 1).set (h - 1) (q : Int)
def wdV (th fr : Bool) (T : List Int) (h : Nat) (wd : Int) : List Int := if th = true then spl h T (wdB fr T.length h wd) else List.replicate ((h : Int) + wd).toNat 0
theorem wdB_len (fr : Bool) (q h : Nat) (wd : Int) : (wdB fr q h wd).length = ((h : Int) + wd).toNat := by unfold wdB; split <;> simp
set_option maxHeartbeats 4000000 in
theorem words_h (w0 : World) (F : List Atom) (th fr : Bool) (a : Option Addr) (q c : Nat) (T : List Int) (hT : IR w0 F .u32 a q T) (hTU : W32s T) (h : Nat) (h1 : h = 2 ∨ h = 3) (wd : Int) (w1 : 1 ≤ wd) (w2 : wd ≤ 16) (hq : (q : Int) ≤ wd) :
    CallK Try.prog 51 [.agg #[.bool th, .bool fr, .slice a q c], .int .i64 h, .int .i64 wd] w0 (F) (Gives w0 fun v F2 => ∃ g, v = .slice (some ⟨g, 0, none⟩) ((h : Int) + wd).toNat ((h : Int) + wd).toNat ∧ F2 = Own 28 1 (.slice (some ⟨g, 0, none⟩) ((h : Int) + wd).toNat ((h : Int) + wd).toNat) ((h : Int) + wd).toNat (ints .u32 (wdV th fr T h wd)) :: F) := by
  have hTl := hT.1
  have hbl := wdB_len fr q h wd
  refine c_enter Try.func51 rfl rfl rfl ?_
  refine g_seq ?_
  refine g_region ?_
  refine l_boxs rfl rfl ?_; intro b3
  refine l_assign rfl rfl ?_
  refine l_nil ?_
  refine g_seq ?_
  refine g_region ?_
  refine l_move rfl rfl ?_
  refine l_move rfl rfl ?_
  first | refine l_add rfl rfl rfl (w_i64 (by omega) (by omega)) ?_ | refine l_addw rfl rfl rfl ?_
  refine l_makew rfl Try.underlying29 Try.type28 rfl rfl rfl rfl (by omega) (by show (4 : Int) * _ ≤ _; omega) (by omega) ?_; intro b12
  refine l_assign rfl rfl ?_
  refine l_nil ?_
  refine g_seq ?_
  refine g_seq ?_
  refine g_region ?_
  refine l_fieldAddr rfl fa_85_0 rfl ?_
  refine l_ld rfl Try.isAgg4 rfl rfl ?_
  refine l_not rfl rfl ?_
  refine l_nil ?_
  refine g_cond rfl ?_ ?_
  · intro hbr
    have hb15 := hbr
    refine g_seq ?_
    refine g_region ?_
    refine l_move rfl rfl ?_
    refine l_assign rfl rfl ?_
    refine l_nil ?_
    refine g_ret Try.func51 rfl (.tmp rfl .nil) ?_
    (first | exact Gives.mki ⟨b12, rfl, by rw [show wdV th fr T h wd = List.replicate ((h : Int) + wd).toNat 0 by unfold wdV; rw [if_neg (by simp_all)]]⟩ | exact Gives.mki ⟨b12, rfl, by rw [show wdV th fr T h wd = spl h T (wdB fr q h wd) by unfold wdV; rw [if_pos (by simp_all), hTl]]⟩)
  intro hbr
  have hb15 := hbr
  refine g_skip ?_
  refine g_seq ?_
  refine g_region ?_
  refine l_move rfl rfl ?_
  refine l_ixs rfl Try.underlying29 Try.sizeOf28 rfl rfl (by omega) (by omega) ?_
  refine l_storew 0 Try.sizeOf28 rfl rfl rfl (by simp; omega) rfl ?_
  refine l_nil ?_
  refine g_seq ?_
  refine g_seq ?_
  refine g_region ?_
  refine l_move rfl rfl ?_
  refine l_eql rfl rfl rfl ?_
  refine l_move rfl rfl ?_
  refine l_split 21 rfl ?_ ?_
  · intro hbr
    have hbr := of_decide_eq_true hbr
    refine l_guard_yes rfl rfl ?_
    refine l_fieldAddr rfl fa_85_1 rfl ?_
    refine l_guard_yes rfl rfl ?_
    refine l_ld rfl Try.isAgg4 rfl rfl ?_
    refine l_pick_t rfl rfl rfl ?_
    refine l_nil ?_
    refine g_cond rfl ?_ ?_
    · intro hbr
      have hb24 := hbr
      refine g_region ?_
      refine l_move rfl rfl ?_
      refine l_ixs rfl Try.underlying29 Try.sizeOf28 rfl rfl (by omega) (by omega) ?_
      refine l_storew 0 Try.sizeOf28 rfl rfl rfl (by simp; omega) rfl ?_
      refine l_nil ?_
      refine g_seq ?_
      refine g_region ?_
      refine l_move rfl rfl ?_
      refine l_move rfl rfl ?_
      first | refine l_sub_ rfl rfl rfl (w_i64 (by omega) (by omega)) ?_ | refine l_subw rfl rfl rfl ?_
      refine l_fieldAddr rfl fa_85_2 rfl ?_
      refine l_ld rfl Try.isAgg29 rfl rfl ?_
      refine l_len rfl Try.underlying29 rfl ?_
      first | refine l_conv rfl Try.underlying3 Try.underlying28 rfl (w_u32 (by omega) (by omega)) ?_ | refine l_convm (m := 4294967296) rfl wr_u32 Try.underlying3 Try.underlying28 rfl ?_
      refine l_ixs rfl Try.underlying29 Try.sizeOf28 rfl rfl (by omega) (by omega) ?_
      refine l_storew 0 Try.sizeOf28 rfl rfl rfl (by simp; omega) rfl ?_
      (first | rw [show ((List.replicate ((h : Int) + wd).toNat (0 : Int)).set (0 : Int).toNat 1).set ((h : Int) - 1).toNat (q : Int) = wdB fr q h wd by unfold wdB; rw [if_neg (by simp_all; try omega), show ((h : Int) - 1).toNat = h - 1 by omega]; rfl] | rw [show (((List.replicate ((h : Int) + wd).toNat (0 : Int)).set (0 : Int).toNat 1).set (1 : Int).toNat 1).set ((h : Int) - 1).toNat (q : Int) = wdB fr q h wd by unfold wdB; rw [if_pos ⟨by omega, by assumption⟩, show ((h : Int) - 1).toNat = h - 1 by omega]; rfl])
      refine l_nil ?_
      refine g_seq ?_
      refine g_seq ?_
      refine g_region ?_
      refine l_fieldAddr rfl fa_85_2 rfl ?_
      refine l_ld rfl Try.isAgg29 rfl rfl ?_
      refine l_len rfl Try.underlying29 rfl ?_
      refine l_move rfl rfl ?_
      refine l_nil ?_
      refine g_block ?_
      refine g_loopk (X := Int × List Int) [(1, _), (3, _), (6, _), (7, _), (37, _)] (.cons rfl (.cons rfl (.cons rfl (.cons rfl (.cons rfl (.nil)))))) (fun z => 0 ≤ z.1 ∧ z.1 ≤ q ∧ z.2 = spl h (T.take z.1.toNat) (wdB fr q h wd)) (fun z => ((q : Int) - z.1).toNat) (fun z => [(38, .int .i64 z.1)]) (fun z => Own 28 1 (.slice (some ⟨b12, 0, none⟩) ((h : Int) + wd).toNat ((h : Int) + wd).toNat) ((h : Int) + wd).toNat (ints .u32 z.2) :: Blk b3 (.cells [Value.bool th, Value.bool fr, Value.slice a q c].toArray 85 (0, 0)) :: F) ((0, wdB fr q h wd)) (⟨by simp only; omega, by simp only; omega, by simp [spl]⟩) (.cons rfl .nil) (fun w hw => SPI.holds hw) ?_
      rintro ⟨i, X⟩ ⟨i0, i1, hX⟩ ih
      dsimp only [List.cons_append, List.nil_append] at ih ⊢
      simp only at i0 i1 hX
      have hXl : X.length = ((h : Int) + wd).toNat := by rw [hX, spl_length (by rw [List.length_take, hbl]; omega)]; exact hbl
      refine g_seq ?_
      refine g_region ?_
      refine l_lss rfl rfl rfl ?_
      refine l_nil ?_
      refine g_seq ?_
      refine g_cond rfl ?_ ?_
      · intro hbr
        have hbr := of_decide_eq_true hbr
        refine g_skip ?_
        refine g_seq ?_
        refine g_block ?_
        refine g_seq ?_
        refine g_region ?_
        refine l_move rfl rfl ?_
        refine l_assign rfl rfl ?_
        refine l_nil ?_
        refine g_region ?_
        refine l_move rfl rfl ?_
        refine l_move rfl rfl ?_
        refine l_move rfl rfl ?_
        first | refine l_add rfl rfl rfl (w_i64 (by omega) (by omega)) ?_ | refine l_addw rfl rfl rfl ?_
        refine l_fieldAddr rfl fa_85_2 rfl ?_
        refine l_ld rfl Try.isAgg29 rfl rfl ?_
        refine l_move rfl rfl ?_
        obtain ⟨b9, o9, rfl, hr9⟩ := hT.some (i := i.toNat) (by omega)
        have hbi := hTU i.toNat
        refine l_ixs rfl Try.underlying29 Try.sizeOf28 rfl rfl (by omega) (by omega) ?_
        refine l_loadc rfl Try.isAgg28 rfl (word_any hr9 (by omega)) ?_
        refine l_ixs rfl Try.underlying29 Try.sizeOf28 rfl rfl (by omega) (by omega) ?_
        refine l_storew 0 Try.sizeOf28 rfl rfl rfl (by omega) rfl ?_
        refine l_nil ?_
        refine g_inBlock ?_
        refine g_region ?_
        first | refine l_add rfl rfl rfl (w_i64 (by omega) (by omega)) ?_ | refine l_addw rfl rfl rfl ?_
        refine l_move rfl rfl ?_
        refine l_nil ?_
        exact g_againi (ih (i + 1, X.set ((h : Int) + i).toNat (T.getD i.toNat 0)) ⟨by simp only; omega, by simp only; omega, by simp only; rw [hX, show (i + 1).toNat = i.toNat + 1 by omega, show ((h : Int) + i).toNat = h + i.toNat by omega]; exact spl_next (by omega) (by rw [hbl]; omega)⟩ (by simp only; omega)) (.cons rfl (.cons rfl (.cons rfl (.cons rfl (.cons rfl (.cons rfl (.nil)))))))
      intro hbr
      have hbr := of_decide_eq_false hbr
      refine g_exit rfl ?_
      obtain rfl : i = q := by omega
      rw [Int.toNat_natCast, List.take_of_length_le (by omega)] at hX
      subst hX
      refine g_seq ?_
      refine g_region ?_
      refine l_move rfl rfl ?_
      refine l_assign rfl rfl ?_
      refine l_nil ?_
      refine g_ret Try.func51 rfl (.tmp rfl .nil) ?_
      (first | exact Gives.mki ⟨b12, rfl, by rw [show wdV th fr T h wd = List.replicate ((h : Int) + wd).toNat 0 by unfold wdV; rw [if_neg (by simp_all)]]⟩ | exact Gives.mki ⟨b12, rfl, by rw [show wdV th fr T h wd = spl h T (wdB fr q h wd) by unfold wdV; rw [if_pos (by simp_all), hTl]]⟩)
    intro hbr
    have hb24 := hbr
    refine g_skip ?_
    refine g_seq ?_
    refine g_region ?_
    refine l_move rfl rfl ?_
    refine l_move rfl rfl ?_
    first | refine l_sub_ rfl rfl rfl (w_i64 (by omega) (by omega)) ?_ | refine l_subw rfl rfl rfl ?_
    refine l_fieldAddr rfl fa_85_2 rfl ?_
    refine l_ld rfl Try.isAgg29 rfl rfl ?_
    refine l_len rfl Try.underlying29 rfl ?_
    first | refine l_conv rfl Try.underlying3 Try.underlying28 rfl (w_u32 (by omega) (by omega)) ?_ | refine l_convm (m := 4294967296) rfl wr_u32 Try.underlying3 Try.underlying28 rfl ?_
    refine l_ixs rfl Try.underlying29 Try.sizeOf28 rfl rfl (by omega) (by omega) ?_
    refine l_storew 0 Try.sizeOf28 rfl rfl rfl (by simp; omega) rfl ?_
    (first | rw [show ((List.replicate ((h : Int) + wd).toNat (0 : Int)).set (0 : Int).toNat 1).set ((h : Int) - 1).toNat (q : Int) = wdB fr q h wd by unfold wdB; rw [if_neg (by simp_all; try omega), show ((h : Int) - 1).toNat = h - 1 by omega]; rfl] | rw [show (((List.replicate ((h : Int) + wd).toNat (0 : Int)).set (0 : Int).toNat 1).set (1 : Int).toNat 1).set ((h : Int) - 1).toNat (q : Int) = wdB fr q h wd by unfold wdB; rw [if_pos ⟨by omega, by assumption⟩, show ((h : Int) - 1).toNat = h - 1 by omega]; rfl])
    refine l_nil ?_
    refine g_seq ?_
    refine g_seq ?_
    refine g_region ?_
    refine l_fieldAddr rfl fa_85_2 rfl ?_
    refine l_ld rfl Try.isAgg29 rfl rfl ?_
    refine l_len rfl Try.underlying29 rfl ?_
    refine l_move rfl rfl ?_
    refine l_nil ?_
    refine g_block ?_
    refine g_loopk (X := Int × List Int) [(1, _), (3, _), (6, _), (7, _), (37, _)] (.cons rfl (.cons rfl (.cons rfl (.cons rfl (.cons rfl (.nil)))))) (fun z => 0 ≤ z.1 ∧ z.1 ≤ q ∧ z.2 = spl h (T.take z.1.toNat) (wdB fr q h wd)) (fun z => ((q : Int) - z.1).toNat) (fun z => [(38, .int .i64 z.1)]) (fun z => Own 28 1 (.slice (some ⟨b12, 0, none⟩) ((h : Int) + wd).toNat ((h : Int) + wd).toNat) ((h : Int) + wd).toNat (ints .u32 z.2) :: Blk b3 (.cells [Value.bool th, Value.bool fr, Value.slice a q c].toArray 85 (0, 0)) :: F) ((0, wdB fr q h wd)) (⟨by simp only; omega, by simp only; omega, by simp [spl]⟩) (.cons rfl .nil) (fun w hw => SPI.holds hw) ?_
    rintro ⟨i, X⟩ ⟨i0, i1, hX⟩ ih
    dsimp only [List.cons_append, List.nil_append] at ih ⊢
    simp only at i0 i1 hX
    have hXl : X.length = ((h : Int) + wd).toNat := by rw [hX, spl_length (by rw [List.length_take, hbl]; omega)]; exact hbl
    refine g_seq ?_
    refine g_region ?_
    refine l_lss rfl rfl rfl ?_
    refine l_nil ?_
    refine g_seq ?_
    refine g_cond rfl ?_ ?_
    · intro hbr
      have hbr := of_decide_eq_true hbr
      refine g_skip ?_
      refine g_seq ?_
      refine g_block ?_
      refine g_seq ?_
      refine g_region ?_
      refine l_move rfl rfl ?_
      refine l_assign rfl rfl ?_
      refine l_nil ?_
      refine g_region ?_
      refine l_move rfl rfl ?_
      refine l_move rfl rfl ?_
      refine l_move rfl rfl ?_
      first | refine l_add rfl rfl rfl (w_i64 (by omega) (by omega)) ?_ | refine l_addw rfl rfl rfl ?_
      refine l_fieldAddr rfl fa_85_2 rfl ?_
      refine l_ld rfl Try.isAgg29 rfl rfl ?_
      refine l_move rfl rfl ?_
      obtain ⟨b9, o9, rfl, hr9⟩ := hT.some (i := i.toNat) (by omega)
      have hbi := hTU i.toNat
      refine l_ixs rfl Try.underlying29 Try.sizeOf28 rfl rfl (by omega) (by omega) ?_
      refine l_loadc rfl Try.isAgg28 rfl (word_any hr9 (by omega)) ?_
      refine l_ixs rfl Try.underlying29 Try.sizeOf28 rfl rfl (by omega) (by omega) ?_
      refine l_storew 0 Try.sizeOf28 rfl rfl rfl (by omega) rfl ?_
      refine l_nil ?_
      refine g_inBlock ?_
      refine g_region ?_
      first | refine l_add rfl rfl rfl (w_i64 (by omega) (by omega)) ?_ | refine l_addw rfl rfl rfl ?_
      refine l_move rfl rfl ?_
      refine l_nil ?_
      exact g_againi (ih (i + 1, X.set ((h : Int) + i).toNat (T.getD i.toNat 0)) ⟨by simp only; omega, by simp only; omega, by simp only; rw [hX, show (i + 1).toNat = i.toNat + 1 by omega, show ((h : Int) + i).toNat = h + i.toNat by omega]; exact spl_next (by omega) (by rw [hbl]; omega)⟩ (by simp only; omega)) (.cons rfl (.cons rfl (.cons rfl (.cons rfl (.cons rfl (.cons rfl (.nil)))))))
    intro hbr
    have hbr := of_decide_eq_false hbr
    refine g_exit rfl ?_
    obtain rfl : i = q := by omega
    rw [Int.toNat_natCast, List.take_of_length_le (by omega)] at hX
    subst hX
    refine g_seq ?_
    refine g_region ?_
    refine l_move rfl rfl ?_
    refine l_assign rfl rfl ?_
    refine l_nil ?_
    refine g_ret Try.func51 rfl (.tmp rfl .nil) ?_
    (first | exact Gives.mki ⟨b12, rfl, by rw [show wdV th fr T h wd = List.replicate ((h : Int) + wd).toNat 0 by unfold wdV; rw [if_neg (by simp_all)]]⟩ | exact Gives.mki ⟨b12, rfl, by rw [show wdV th fr T h wd = spl h T (wdB fr q h wd) by unfold wdV; rw [if_pos (by simp_all), hTl]]⟩)
  intro hbr
  have hbr := of_decide_eq_false hbr
  refine l_guard_no rfl rfl rfl ?_
  refine l_guard_no rfl rfl rfl ?_
  refine l_pick_f rfl rfl rfl ?_
  refine l_nil ?_
  refine g_cond_f rfl ?_
  refine g_skip ?_
  refine g_seq ?_
  refine g_region ?_
  refine l_move rfl rfl ?_
  refine l_move rfl rfl ?_
  first | refine l_sub_ rfl rfl rfl (w_i64 (by omega) (by omega)) ?_ | refine l_subw rfl rfl rfl ?_
  refine l_fieldAddr rfl fa_85_2 rfl ?_
  refine l_ld rfl Try.isAgg29 rfl rfl ?_
  refine l_len rfl Try.underlying29 rfl ?_
  first | refine l_conv rfl Try.underlying3 Try.underlying28 rfl (w_u32 (by omega) (by omega)) ?_ | refine l_convm (m := 4294967296) rfl wr_u32 Try.underlying3 Try.underlying28 rfl ?_
  refine l_ixs rfl Try.underlying29 Try.sizeOf28 rfl rfl (by omega) (by omega) ?_
  refine l_storew 0 Try.sizeOf28 rfl rfl rfl (by simp; omega) rfl ?_
  (first | rw [show ((List.replicate ((h : Int) + wd).toNat (0 : Int)).set (0 : Int).toNat 1).set ((h : Int) - 1).toNat (q : Int) = wdB fr q h wd by unfold wdB; rw [if_neg (by simp_all; try omega), show ((h : Int) - 1).toNat = h - 1 by omega]; rfl] | rw [show (((List.replicate ((h : Int) + wd).toNat (0 : Int)).set (0 : Int).toNat 1).set (1 : Int).toNat 1).set ((h : Int) - 1).toNat (q : Int) = wdB fr q h wd by unfold wdB; rw [if_pos ⟨by omega, by assumption⟩, show ((h : Int) - 1).toNat = h - 1 by omega]; rfl])
  refine l_nil ?_
  refine g_seq ?_
  refine g_seq ?_
  refine g_region ?_
  refine l_fieldAddr rfl fa_85_2 rfl ?_
  refine l_ld rfl Try.isAgg29 rfl rfl ?_
  refine l_len rfl Try.underlying29 rfl ?_
  refine l_move rfl rfl ?_
  refine l_nil ?_
  refine g_block ?_
  refine g_loopk (X := Int × List Int) [(1, _), (3, _), (6, _), (7, _), (37, _)] (.cons rfl (.cons rfl (.cons rfl (.cons rfl (.cons rfl (.nil)))))) (fun z => 0 ≤ z.1 ∧ z.1 ≤ q ∧ z.2 = spl h (T.take z.1.toNat) (wdB fr q h wd)) (fun z => ((q : Int) - z.1).toNat) (fun z => [(38, .int .i64 z.1)]) (fun z => Own 28 1 (.slice (some ⟨b12, 0, none⟩) ((h : Int) + wd).toNat ((h : Int) + wd).toNat) ((h : Int) + wd).toNat (ints .u32 z.2) :: Blk b3 (.cells [Value.bool th, Value.bool fr, Value.slice a q c].toArray 85 (0, 0)) :: F) ((0, wdB fr q h wd)) (⟨by simp only; omega, by simp only; omega, by simp [spl]⟩) (.cons rfl .nil) (fun w hw => SPI.holds hw) ?_
  rintro ⟨i, X⟩ ⟨i0, i1, hX⟩ ih
  dsimp only [List.cons_append, List.nil_append] at ih ⊢
  simp only at i0 i1 hX
  have hXl : X.length = ((h : Int) + wd).toNat := by rw [hX, spl_length (by rw [List.length_take, hbl]; omega)]; exact hbl
  refine g_seq ?_
  refine g_region ?_
  refine l_lss rfl rfl rfl ?_
  refine l_nil ?_
  refine g_seq ?_
  refine g_cond rfl ?_ ?_
  · intro hbr
    have hbr := of_decide_eq_true hbr
    refine g_skip ?_
    refine g_seq ?_
    refine g_block ?_
    refine g_seq ?_
    refine g_region ?_
    refine l_move rfl rfl ?_
    refine l_assign rfl rfl ?_
    refine l_nil ?_
    refine g_region ?_
    refine l_move rfl rfl ?_
    refine l_move rfl rfl ?_
    refine l_move rfl rfl ?_
    first | refine l_add rfl rfl rfl (w_i64 (by omega) (by omega)) ?_ | refine l_addw rfl rfl rfl ?_
    refine l_fieldAddr rfl fa_85_2 rfl ?_
    refine l_ld rfl Try.isAgg29 rfl rfl ?_
    refine l_move rfl rfl ?_
    obtain ⟨b9, o9, rfl, hr9⟩ := hT.some (i := i.toNat) (by omega)
    have hbi := hTU i.toNat
    refine l_ixs rfl Try.underlying29 Try.sizeOf28 rfl rfl (by omega) (by omega) ?_
    refine l_loadc rfl Try.isAgg28 rfl (word_any hr9 (by omega)) ?_
    refine l_ixs rfl Try.underlying29 Try.sizeOf28 rfl rfl (by omega) (by omega) ?_
    refine l_storew 0 Try.sizeOf28 rfl rfl rfl (by omega) rfl ?_
    refine l_nil ?_
    refine g_inBlock ?_
    refine g_region ?_
    first | refine l_add rfl rfl rfl (w_i64 (by omega) (by omega)) ?_ | refine l_addw rfl rfl rfl ?_
    refine l_move rfl rfl ?_
    refine l_nil ?_
    exact g_againi (ih (i + 1, X.set ((h : Int) + i).toNat (T.getD i.toNat 0)) ⟨by simp only; omega, by simp only; omega, by simp only; rw [hX, show (i + 1).toNat = i.toNat + 1 by omega, show ((h : Int) + i).toNat = h + i.toNat by omega]; exact spl_next (by omega) (by rw [hbl]; omega)⟩ (by simp only; omega)) (.cons rfl (.cons rfl (.cons rfl (.cons rfl (.cons rfl (.cons rfl (.nil)))))))
  intro hbr
  have hbr := of_decide_eq_false hbr
  refine g_exit rfl ?_
  obtain rfl : i = q := by omega
  rw [Int.toNat_natCast, List.take_of_length_le (by omega)] at hX
  subst hX
  refine g_seq ?_
  refine g_region ?_
  refine l_move rfl rfl ?_
  refine l_assign rfl rfl ?_
  refine l_nil ?_
  refine g_ret Try.func51 rfl (.tmp rfl .nil) ?_
  (first | exact Gives.mki ⟨b12, rfl, by rw [show wdV th fr T h wd = List.replicate ((h : Int) + wd).toNat 0 by unfold wdV; rw [if_neg (by simp_all)]]⟩ | exact Gives.mki ⟨b12, rfl, by rw [show wdV th fr T h wd = spl h T (wdB fr q h wd) by unfold wdV; rw [if_pos (by simp_all), hTl]]⟩)
end Go.Proofs.Ythngpcaljljlaaa.Fw
