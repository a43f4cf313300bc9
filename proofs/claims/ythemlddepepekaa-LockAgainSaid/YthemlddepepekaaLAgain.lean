import Derived.Test.YthemlddepepekaaActs
namespace Go.Proofs.Ythemlddepepekaa.Fw
open Go Go.Proofs
set_option linter.unusedVariables false
set_option linter.unusedSimpArgs false
set_option maxRecDepth 10000
theorem fa_70_0 (a : Addr) (w : World) : (Instr.fieldAt 70 (.pointer (some a)) 0).run Try.prog w = .ok (.pointer (some (a.add 0))) w := by
  simp [Instr.fieldAt, Try.runUnderlying70, Instr.sureAddr, fieldPlace, Try.sizeOf23, Sem.run_bind, Sem.run_pure]
theorem fa_70_1 (a : Addr) (w : World) : (Instr.fieldAt 70 (.pointer (some a)) 1).run Try.prog w = .ok (.pointer (some (a.add 1))) w := by
  simp [Instr.fieldAt, Try.runUnderlying70, Instr.sureAddr, fieldPlace, Try.sizeOf23, Sem.run_bind, Sem.run_pure]
theorem fa_70_2 (a : Addr) (w : World) : (Instr.fieldAt 70 (.pointer (some a)) 2).run Try.prog w = .ok (.pointer (some (a.add 2))) w := by
  simp [Instr.fieldAt, Try.runUnderlying70, Instr.sureAddr, fieldPlace, Try.sizeOf23, Sem.run_bind, Sem.run_pure]
theorem fa_70_3 (a : Addr) (w : World) : (Instr.fieldAt 70 (.pointer (some a)) 3).run Try.prog w = .ok (.pointer (some (a.add 3))) w := by
  simp [Instr.fieldAt, Try.runUnderlying70, Instr.sureAddr, fieldPlace, Try.sizeOf23, Sem.run_bind, Sem.run_pure]
set_option maxHeartbeats 8000000 in
theorem again_ok (w0 : World) (F : List Atom) (aL : Option Addr) (nL cL : Nat) (XL : List Int) (hIL : IR w0 F .i64 aL nL XL) (hbL : I64s XL) (hnL : nL ≤ 9223372036854775807) (aF : Option Addr) (nF cF : Nat) (XF : List Int) (hIF : IR w0 F .i64 aF nF XF) (hbF : I64s XF) (hnF : nF ≤ 9223372036854775807) (aT : Option Addr) (nT cT : Nat) (XT : List Int) (hIT : IR w0 F .i64 aT nT XT) (hbT : I64s XT) (hnT : nT ≤ 9223372036854775807) (aO : Option Addr) (nO cO : Nat) (XO : List Int) (hIO : IR w0 F .i64 aO nO XO) (hbO : I64s XO) (hnO : nO ≤ 9223372036854775807) :
    CallK Try.prog 6 [.agg [Value.slice aL nL cL, Value.slice aF nF cF, Value.slice aT nT cT, Value.slice aO nO cO].toArray] w0 (F) (Gives w0 fun v F2 => v = .bool true ∧ F2 = F) := by
  have hlL := hIL.1
  have hlF := hIF.1
  have hlT := hIT.1
  have hlO := hIO.1
  refine c_enter Try.func6 rfl rfl rfl ?_
  refine g_seq ?_
  refine g_region ?_
  refine l_boxs rfl rfl ?_; intro b1
  refine l_assign rfl rfl ?_
  refine l_nil ?_
  refine g_seq ?_
  refine gp_start mo (by kernel_rfl) (by kernel_rfl) ?_
  refine gp_quiet 0 rfl rfl rfl rfl rfl rfl (q_fieldAddr fa_70_0 rfl) ?_
  refine gp_quiet 1 rfl rfl rfl rfl rfl rfl (q_ld Try.isAgg23 rfl rfl) ?_
  refine gp_quiet 2 rfl rfl rfl rfl rfl rfl (q_fieldAddr fa_70_1 rfl) ?_
  refine gp_quiet 3 rfl rfl rfl rfl rfl rfl (q_ld Try.isAgg23 rfl rfl) ?_
  refine gp_quiet 4 rfl rfl rfl rfl rfl rfl (q_fieldAddr fa_70_2 rfl) ?_
  refine gp_quiet 5 rfl rfl rfl rfl rfl rfl (q_ld Try.isAgg23 rfl rfl) ?_
  refine gp_quiet 6 rfl rfl rfl rfl rfl rfl (q_fieldAddr fa_70_3 rfl) ?_
  refine gp_quiet 7 rfl rfl rfl rfl rfl rfl (q_ld Try.isAgg23 rfl rfl) ?_
  refine gp_quiet 8 rfl rfl rfl rfl rfl rfl (q_assign rfl) ?_
  refine gp_quiet 9 rfl rfl rfl rfl rfl rfl (q_assign rfl) ?_
  refine gp_quiet 10 rfl rfl rfl rfl rfl rfl (q_assign rfl) ?_
  refine gp_quiet 11 rfl rfl rfl rfl rfl rfl (q_assign rfl) ?_
  refine gp_end rfl rfl ?_
  refine g_seq ?_
  refine g_region ?_
  refine l_call rfl Try.call7 rfl (new_ok _ _ 2 (by omega) (by omega)) ?_; rintro _ _ ⟨bm, g, c, rfl, hc, hF9⟩; rw [hF9]; clear hF9
  rw [show ((2 : Int) * 16).toNat = 32 from rfl] at *
  refine l_move rfl rfl ?_
  refine l_extract rfl rfl rfl ?_
  refine l_extract rfl rfl rfl ?_
  refine l_assign rfl rfl ?_
  refine l_assign rfl rfl ?_
  refine l_nil ?_
  refine g_seq ?_
  refine g_seq ?_
  refine g_region ?_
  refine l_move rfl rfl ?_
  refine l_eqpn rfl Try.underlying24 rfl rfl ?_
  refine l_move rfl rfl ?_
  refine l_split 40 rfl ?_ ?_
  · intro hbr
    first | (exfalso; simp at hbr; done) | (exfalso; simp at hbr; omega)
  intro hbr
  have hb40 := hbr
  refine l_guard_yes rfl rfl ?_
  refine l_move rfl rfl ?_
  refine l_guard_yes rfl rfl ?_
  refine l_neq rfl rfl rfl ?_
  refine l_pick_f rfl rfl rfl ?_
  refine l_nil ?_
  refine g_cond rfl ?_ ?_
  · intro hbr
    have hbr := of_decide_eq_true hbr
    (exfalso; omega)
  intro hbr
  have hbr := of_decide_eq_false hbr
  refine g_skip ?_
  refine g_seq ?_
  refine g_region ?_
  refine l_assign rfl rfl ?_
  refine l_nil ?_
  refine g_seq ?_
  refine g_seq ?_
  refine g_region ?_
  refine l_assign rfl rfl ?_
  refine l_nil ?_
  refine g_block ?_
  refine g_own_nil 3 1 ?_
  refine g_loopk (X := Int × Option Addr × Nat) [(2, _), (3, _), (4, _), (5, _), (6, _), (7, _)] (.cons rfl (.cons rfl (.cons rfl (.cons rfl (.cons rfl (.cons rfl (.nil))))))) (fun z => 0 ≤ z.1 ∧ z.1 ≤ nL ∧ z.1 ≤ 6 ∧ (z.1.toNat = 0 ∨ ∃ g, z.2.1 = some ⟨g, 0, none⟩)) (fun z => (nL - z.1).toNat) (fun z => [(9, .slice z.2.1 z.1.toNat z.2.2), (10, .int .i64 z.1)]) (fun z => Own 3 1 (.slice z.2.1 z.1.toNat z.2.2) z.1.toNat (ints .i64 (pkL XL z.1.toNat)) :: Blk bm (.cells [Value.slice (some ⟨g, 0, none⟩) 32 c].toArray 81 (0, 0)) :: Own 51 1 (.slice (some ⟨g, 0, none⟩) 32 c) 32 (ints .u32 (List.replicate 32 0)) :: Blk b1 (.cells [Value.slice aL nL cL, Value.slice aF nF cF, Value.slice aT nT cT, Value.slice aO nO cO].toArray 70 (0, 0)) :: F) ((0, none, 0)) (⟨by simp only; omega, by simp only; omega, by simp only; omega, .inl rfl⟩) (.cons rfl (.cons rfl .nil)) ((fun w hw => hw)) ?_
  rintro ⟨i, a1, c1⟩ ⟨i0, i1, i2, ha1⟩ ih
  dsimp only [List.cons_append, List.nil_append] at ih ⊢
  simp only at i0 i1 i2 ha1
  refine g_seq ?_
  refine g_seq ?_
  refine g_region ?_
  refine l_move rfl rfl ?_
  refine l_move rfl rfl ?_
  refine l_len rfl Try.underlying23 rfl ?_
  refine l_lss rfl rfl rfl ?_
  refine l_move rfl rfl ?_
  refine l_split 48 rfl ?_ ?_
  · intro hbr
    have hbr := of_decide_eq_true hbr
    refine l_guard_yes rfl rfl ?_
    refine l_move rfl rfl ?_
    refine l_guard_yes rfl rfl ?_
    refine l_lss rfl rfl rfl ?_
    refine l_pick_t rfl rfl rfl ?_
    refine l_nil ?_
    refine g_cond rfl ?_ ?_
    · intro hbr
      have hbr := of_decide_eq_true hbr
      refine g_skip ?_
      refine g_seq ?_
      refine g_block ?_
      refine g_region ?_
      refine l_move rfl rfl ?_
      refine l_move rfl rfl ?_
      refine l_move rfl rfl ?_
      obtain ⟨b9, o9, rfl, hr9⟩ := hIL.some (i := i.toNat) (by omega)
      have hb9 := hbL i.toNat
      refine l_ixs rfl Try.underlying23 Try.sizeOf3 rfl rfl (by omega) (by omega) ?_
      refine l_loadc rfl Try.isAgg3 rfl (word_any hr9 (by omega)) ?_
      refine l_call rfl Try.call12 rfl (pick_ok _ _ (XL.getD i.toNat 0) 34 (by omega) (by omega) (by omega) (by omega)) ?_; rintro _ F9 ⟨rfl, hF9⟩; rw [hF9]; clear hF9 F9
      have hp34 := pk_lt (XL.getD i.toNat 0) (show (0 : Int) < 34 by omega)
      refine l_buildSlice rfl Try.underlying23 Try.sizeOf3 Try.zeroValue3 rfl rfl rfl rfl rfl rfl ?_; intro b60
      refine l_does rfl (does_apps 1 (by_ := 8) (kd := .i64) (V := pkL XL i.toNat) (W := [pk (XL.getD i.toNat 0) 34]) (m := i.toNat) (m2 := 1) (m3 := (i + 1).toNat) (V3 := pkL XL (i + 1).toNat) Try.underlying23 Try.type3 rfl rfl rfl rfl rfl rfl rfl ⟨rfl, .inl ⟨_, _, _, rfl, .own (mem_getO 0 rfl)⟩⟩ (by omega) (by simp only [maxLen]; omega) (by omega) (by rw [show (i + 1).toNat = i.toNat + 1 by omega]; exact pkL_succ XL _) (fun _ _ => rfl)) ?_
      rintro _ _ ⟨a61, c61, ha61, hn61, rfl, rfl⟩
      refine l_assign rfl rfl ?_
      refine l_nil ?_
      refine g_inBlock ?_
      refine g_region ?_
      refine l_move rfl rfl ?_
      first | refine l_add rfl rfl rfl (w_i64 (by omega) (by omega)) ?_ | refine l_addw rfl rfl rfl ?_
      refine l_assign rfl rfl ?_
      refine l_nil ?_
      exact g_againi (ih (i + 1, a61, c61) ⟨by simp only; omega, by simp only; omega, by simp only; omega, ha61⟩ (by simp only; omega)) (.cons rfl (.cons rfl (.cons rfl (.cons rfl (.cons rfl (.cons rfl (.cons rfl (.cons rfl (.nil)))))))))
    intro hbr
    have hbr := of_decide_eq_false hbr
    refine g_exit rfl ?_
    have hlen := pkL_len XL i.toNat
    have hLb := pkL_bd XL i.toNat
    generalize hL9 : pkL XL i.toNat = L at hlen hLb ⊢
    clear hL9
    have hL6 : L.length ≤ 6 := by omega
    rw [← hlen] at ha1 ⊢
    refine g_seq ?_
    refine g_region ?_
    refine l_move rfl rfl ?_
    refine l_frontv (.slice a1 L.length c1) ?_
    refine l_call rfl Try.call8 rfl (lnew_ok _ _ a1 c1 L (by omega)) ?_; rintro _ _ ⟨b, al, cl, rfl, hal, rfl⟩
    refine l_assign rfl rfl ?_
    refine l_nil ?_
    refine g_seq ?_
    refine g_region ?_
    refine l_call rfl Try.call8 rfl (lnew_nil _ _) ?_; rintro _ _ ⟨be, rfl, rfl⟩
    refine l_assign rfl rfl ?_
    refine l_nil ?_
    refine g_seq ?_
    refine g_seq ?_
    refine g_region ?_
    refine l_move rfl rfl ?_
    refine l_eqpn rfl Try.underlying28 rfl rfl ?_
    refine l_move rfl rfl ?_
    refine l_split 67 rfl ?_ ?_
    · intro hbr
      first | (exfalso; simp at hbr; done) | (exfalso; simp at hbr; omega)
    intro hbr
    have hb67 := hbr
    refine l_guard_yes rfl rfl ?_
    refine l_move rfl rfl ?_
    refine l_guard_yes rfl rfl ?_
    refine l_eqpn rfl Try.underlying28 rfl rfl ?_
    refine l_pick_f rfl rfl rfl ?_
    refine l_move rfl rfl ?_
    refine l_split 71 rfl ?_ ?_
    · intro hbr
      first | (exfalso; simp at hbr; done) | (exfalso; simp at hbr; omega)
    intro hbr
    have hb71 := hbr
    refine l_guard_yes rfl rfl ?_
    refine l_move rfl rfl ?_
    refine l_guard_yes rfl rfl ?_
    refine l_frontb be ?_
    refine l_call rfl Try.call10 rfl (chall_ok _ _ be none 0 ([] : List Int) 0 false none 0 0 (by simp) (by omega) (by simp)) ?_; rintro _ _ ⟨rfl, rfl⟩
    refine l_guard_yes rfl rfl ?_
    refine l_not rfl rfl ?_
    refine l_pick_f rfl rfl rfl ?_
    refine l_nil ?_
    refine g_cond_f rfl ?_
    refine g_skip ?_
    refine g_seq ?_
    refine g_seq ?_
    refine g_region ?_
    refine l_assign rfl rfl ?_
    refine l_nil ?_
    refine g_block ?_
    refine g_loopk (X := Int × List Int) [(2, _), (4, _), (5, _), (6, _), (7, _), (9, _), (11, _)] (.cons rfl (.cons rfl (.cons rfl (.cons rfl (.cons rfl (.cons rfl (.cons rfl (.nil)))))))) (fun z => 0 ≤ z.1 ∧ z.1 ≤ nO ∧ z.2.length = 32) (fun z => (nO - z.1).toNat) (fun z => [(13, .int .i64 z.1)]) (fun z => Blk bm (.cells [Value.slice (some ⟨g, 0, none⟩) 32 c].toArray 81 (0, 0)) :: Own 51 1 (.slice (some ⟨g, 0, none⟩) 32 c) 32 (ints .u32 z.2) :: Blk b (.cells [Value.slice al L.length cl, .int .i64 0, .bool false, .slice none 0 0].toArray 84 (0, 0)) :: Own 3 1 (.slice al L.length cl) L.length (ints .i64 L) :: Own 51 1 (.slice none 0 0) 0 (ints .u32 ([] : List Int)) :: Own 3 1 (.slice a1 L.length c1) L.length (ints .i64 L) :: F) ((0, List.replicate 32 0)) (⟨by simp only; omega, by simp only; omega, by simp⟩) (.cons rfl .nil) ((fun w hw => SPI.holds (F' := Blk bm (.cells [Value.slice (some ⟨g, 0, none⟩) 32 c].toArray 81 (0, 0)) :: Own 51 1 (.slice (some ⟨g, 0, none⟩) 32 c) 32 (ints .u32 (List.replicate 32 0)) :: Blk b (.cells [Value.slice al L.length cl, .int .i64 0, .bool false, .slice none 0 0].toArray 84 (0, 0)) :: Own 3 1 (.slice al L.length cl) L.length (ints .i64 L) :: Own 51 1 (.slice none 0 0) 0 (ints .u32 ([] : List Int)) :: Own 3 1 (.slice a1 L.length c1) L.length (ints .i64 L) :: F) hw)) ?_
    rintro ⟨i, W⟩ ⟨i0, i1, hW⟩ ih
    dsimp only [List.cons_append, List.nil_append] at ih ⊢
    simp only at i0 i1 hW
    refine g_seq ?_
    refine g_seq ?_
    refine g_region ?_
    refine l_move rfl rfl ?_
    refine l_move rfl rfl ?_
    refine l_len rfl Try.underlying23 rfl ?_
    refine l_lss rfl rfl rfl ?_
    refine l_nil ?_
    refine g_cond rfl ?_ ?_
    · intro hbr
      have hbr := of_decide_eq_true hbr
      refine g_skip ?_
      refine g_seq ?_
      refine g_block ?_
      refine g_region ?_
      refine l_move rfl rfl ?_
      refine l_move rfl rfl ?_
      refine l_move rfl rfl ?_
      obtain ⟨b9, o9, rfl, hr9⟩ := hIO.some (i := i.toNat) (by omega)
      have hb9 := hbO i.toNat
      refine l_ixs rfl Try.underlying23 Try.sizeOf3 rfl rfl (by omega) (by omega) ?_
      refine l_loadc rfl Try.isAgg3 rfl (word_any hr9 (by omega)) ?_
      refine l_call rfl Try.call12 rfl (pick_ok _ _ (XO.getD i.toNat 0) 34 (by omega) (by omega) (by omega) (by omega)) ?_; rintro _ F9 ⟨rfl, hF9⟩; rw [hF9]; clear hF9 F9
      have hp34 := pk_lt (XO.getD i.toNat 0) (show (0 : Int) < 34 by omega)
      refine l_fronto g ?_
      refine l_frontb bm ?_
      refine l_call rfl Try.call26 rfl (ltake_ok _ _ bm g 32 c W hW hc (by omega) (pk (XO.getD i.toNat 0) 34) (by omega) (by omega)) ?_; rintro _ _ ⟨k1, e1, W1, rfl, hW1, rfl, hTk⟩
      refine l_nil ?_
      refine g_inBlock ?_
      refine g_region ?_
      refine l_move rfl rfl ?_
      first | refine l_add rfl rfl rfl (w_i64 (by omega) (by omega)) ?_ | refine l_addw rfl rfl rfl ?_
      refine l_assign rfl rfl ?_
      refine l_nil ?_
      exact g_againi (ih (i + 1, W1) ⟨by simp only; omega, by simp only; omega, hW1⟩ (by simp only; omega)) (.cons rfl (.cons rfl (.cons rfl (.cons rfl (.cons rfl (.cons rfl (.cons rfl (.cons rfl (.nil)))))))))
    intro hbr
    have hbr := of_decide_eq_false hbr
    refine g_exit rfl ?_
    refine g_seq ?_
    refine g_seq ?_
    refine g_region ?_
    refine l_assign rfl rfl ?_
    refine l_nil ?_
    refine g_block ?_
    refine g_fronto g ?_
    refine g_frontb bm ?_
    refine g_loopk (X := Int × List Int × Int × Bool × List Int × Option Addr × Nat) [(2, _), (4, _), (5, _), (7, _), (9, _), (11, _)] (.cons rfl (.cons rfl (.cons rfl (.cons rfl (.cons rfl (.cons rfl (.nil))))))) (fun z => 0 ≤ z.1 ∧ z.1 ≤ nF ∧ z.2.1.length = 32 ∧ ChOk L.length z.2.2.1 z.2.2.2.1 z.2.2.2.2.1.length ∧ (z.2.2.2.2.1.length = 0 ∨ ∃ g, z.2.2.2.2.2.1 = some ⟨g, 0, none⟩)) (fun z => (nF - z.1).toNat) (fun z => [(14, .int .i64 z.1)]) (fun z => Blk bm (.cells [Value.slice (some ⟨g, 0, none⟩) 32 c].toArray 81 (0, 0)) :: Own 51 1 (.slice (some ⟨g, 0, none⟩) 32 c) 32 (ints .u32 z.2.1) :: Blk b (.cells [Value.slice al L.length cl, .int .i64 z.2.2.1, .bool z.2.2.2.1, .slice z.2.2.2.2.2.1 z.2.2.2.2.1.length z.2.2.2.2.2.2].toArray 84 (0, 0)) :: Own 3 1 (.slice al L.length cl) L.length (ints .i64 L) :: Own 51 1 (.slice z.2.2.2.2.2.1 z.2.2.2.2.1.length z.2.2.2.2.2.2) z.2.2.2.2.1.length (ints .u32 z.2.2.2.2.1) :: Own 3 1 (.slice a1 L.length c1) L.length (ints .i64 L) :: F) ((0, W, 0, false, [], none, 0)) (⟨by simp only; omega, by simp only; omega, hW, ⟨by simp only; omega, by simp only; omega, fun h => (by cases h), fun _ => rfl⟩, .inl rfl⟩) (.cons rfl .nil) ((fun w hw => hw)) ?_
    rintro ⟨i, W, h, q, T, tt, ct⟩ ⟨i0, i1, hW, hok, htt⟩ ih
    dsimp only [List.cons_append, List.nil_append] at ih ⊢
    simp only at i0 i1 hW hok htt
    refine g_seq ?_
    refine g_seq ?_
    refine g_region ?_
    refine l_move rfl rfl ?_
    refine l_move rfl rfl ?_
    refine l_len rfl Try.underlying23 rfl ?_
    refine l_lss rfl rfl rfl ?_
    refine l_nil ?_
    refine g_cond rfl ?_ ?_
    · intro hbr
      have hbr := of_decide_eq_true hbr
      refine g_skip ?_
      refine g_seq ?_
      refine g_block ?_
      refine g_region ?_
      refine l_move rfl rfl ?_
      refine l_move rfl rfl ?_
      refine l_move rfl rfl ?_
      refine l_move rfl rfl ?_
      obtain ⟨b9, o9, rfl, hr9⟩ := hIF.some (i := i.toNat) (by omega)
      have hb9 := hbF i.toNat
      refine l_ixs rfl Try.underlying23 Try.sizeOf3 rfl rfl (by omega) (by omega) ?_
      refine l_loadc rfl Try.isAgg3 rfl (word_any hr9 (by omega)) ?_
      refine l_call rfl Try.call27 rfl (act_ok _ _ bm g 32 c W hW hc (by omega) b al cl L h q tt T.length ct T rfl (by omega) hLb hal htt hok (XF.getD i.toNat 0) (by omega) (by omega)) ?_; rintro _ _ ⟨dd, ee, W2, h2, q2, tt2, nt2, ct2, T2, rfl, hW2, rfl, hT2, htt2, hG⟩
      obtain rfl := hT2
      have hok2 := hG.ok hok
      refine l_nil ?_
      refine g_inBlock ?_
      refine g_region ?_
      refine l_move rfl rfl ?_
      first | refine l_add rfl rfl rfl (w_i64 (by omega) (by omega)) ?_ | refine l_addw rfl rfl rfl ?_
      refine l_assign rfl rfl ?_
      refine l_nil ?_
      exact g_againi (ih (i + 1, W2, h2, q2, T2, tt2, ct2) ⟨by simp only; omega, by simp only; omega, hW2, hok2, htt2⟩ (by simp only; omega)) (.cons rfl (.cons rfl (.cons rfl (.cons rfl (.cons rfl (.cons rfl (.cons rfl (.nil))))))))
    intro hbr
    have hbr := of_decide_eq_false hbr
    refine g_exit rfl ?_
    refine g_seq ?_
    refine g_region ?_
    refine l_move rfl rfl ?_
    have hT7 := hok.len
    refine l_frontv (.slice tt T.length ct) ?_
    refine l_frontb b ?_
    refine l_call rfl Try.call14 rfl (chstate_ok _ _ b al cl L h q tt T.length ct T rfl (by omega)) ?_; rintro _ _ ⟨a2, c2, rfl, ha2, rfl⟩
    refine l_move rfl rfl ?_
    refine l_extract rfl rfl rfl ?_
    refine l_extract rfl rfl rfl ?_
    refine l_extract rfl rfl rfl ?_
    refine l_assign rfl rfl ?_
    refine l_assign rfl rfl ?_
    refine l_assign rfl rfl ?_
    refine l_nil ?_
    refine g_seq ?_
    refine g_region ?_
    refine l_move rfl rfl ?_
    refine l_move rfl rfl ?_
    refine l_move rfl rfl ?_
    refine l_move rfl rfl ?_
    refine l_frontv (.slice a2 T.length c2) ?_
    refine l_frontv (.slice a1 L.length c1) ?_
    refine l_call rfl Try.call28 rfl (restore_ok _ _ a1 c1 L (by omega) h q a2 T.length c2 T rfl hok) ?_; rintro _ _ ⟨b3, al3, cl3, tt3, ct3, rfl, hal3, htt3, rfl⟩
    refine l_move rfl rfl ?_
    refine l_extract rfl rfl rfl ?_
    refine l_extract rfl rfl rfl ?_
    refine l_assign rfl rfl ?_
    refine l_assign rfl rfl ?_
    refine l_nil ?_
    refine g_seq ?_
    refine g_seq ?_
    refine g_region ?_
    refine l_move rfl rfl ?_
    refine l_eqpn rfl Try.underlying28 rfl rfl ?_
    refine l_move rfl rfl ?_
    refine l_split 118 rfl ?_ ?_
    · intro hbr
      first | (exfalso; simp at hbr; done) | (exfalso; simp at hbr; omega)
    intro hbr
    have hb118 := hbr
    refine l_guard_yes rfl rfl ?_
    refine l_move rfl rfl ?_
    refine l_guard_yes rfl rfl ?_
    refine l_neq rfl rfl rfl ?_
    refine l_pick_f rfl rfl rfl ?_
    refine l_nil ?_
    refine g_cond rfl ?_ ?_
    · intro hbr
      have hbr := of_decide_eq_true hbr
      (exfalso; omega)
    intro hbr
    have hbr := of_decide_eq_false hbr
    refine g_skip ?_
    refine g_seq ?_
    refine g_region ?_
    refine l_move rfl rfl ?_
    refine l_fronto g ?_
    refine l_frontb bm ?_
    refine l_call rfl Try.call29 rfl (clonem_ok _ _ bm g 32 c W hW hc (by omega)) ?_; rintro _ _ ⟨bn, gn, cn, rfl, hcn, rfl⟩
    refine l_assign rfl rfl ?_
    refine l_nil ?_
    refine g_seq ?_
    refine g_seq ?_
    refine g_region ?_
    refine l_assign rfl rfl ?_
    refine l_nil ?_
    refine g_block ?_
    refine g_loopk (X := Int × List Int × Int × Bool × List Int × Option Addr × Nat × Option Addr × Nat) [(5, _), (7, _), (11, _), (18, _), (20, _)] (.cons rfl (.cons rfl (.cons rfl (.cons rfl (.cons rfl (.nil)))))) (fun z => 0 ≤ z.1 ∧ z.1 ≤ nT ∧ z.2.1.length = 32 ∧ ChOk L.length z.2.2.1 z.2.2.2.1 z.2.2.2.2.1.length ∧ (z.2.2.2.2.1.length = 0 ∨ ∃ g, z.2.2.2.2.2.1 = some ⟨g, 0, none⟩) ∧ (z.2.2.2.2.1.length = 0 ∨ ∃ g, z.2.2.2.2.2.2.2.1 = some ⟨g, 0, none⟩)) (fun z => (nT - z.1).toNat) (fun z => [(21, .int .i64 z.1)]) (fun z => Blk bm (.cells [Value.slice (some ⟨g, 0, none⟩) 32 c].toArray 81 (0, 0)) :: Own 51 1 (.slice (some ⟨g, 0, none⟩) 32 c) 32 (ints .u32 z.2.1) :: Blk b (.cells [Value.slice al L.length cl, .int .i64 z.2.2.1, .bool z.2.2.2.1, .slice z.2.2.2.2.2.1 z.2.2.2.2.1.length z.2.2.2.2.2.2.1].toArray 84 (0, 0)) :: Own 3 1 (.slice al L.length cl) L.length (ints .i64 L) :: Own 51 1 (.slice z.2.2.2.2.2.1 z.2.2.2.2.1.length z.2.2.2.2.2.2.1) z.2.2.2.2.1.length (ints .u32 z.2.2.2.2.1) :: Blk bn (.cells [Value.slice (some ⟨gn, 0, none⟩) 32 cn].toArray 81 (0, 0)) :: Own 51 1 (.slice (some ⟨gn, 0, none⟩) 32 cn) 32 (ints .u32 z.2.1) :: Blk b3 (.cells [Value.slice al3 L.length cl3, .int .i64 z.2.2.1, .bool z.2.2.2.1, .slice z.2.2.2.2.2.2.2.1 z.2.2.2.2.1.length z.2.2.2.2.2.2.2.2].toArray 84 (0, 0)) :: Own 3 1 (.slice al3 L.length cl3) L.length (ints .i64 L) :: Own 51 1 (.slice z.2.2.2.2.2.2.2.1 z.2.2.2.2.1.length z.2.2.2.2.2.2.2.2) z.2.2.2.2.1.length (ints .u32 z.2.2.2.2.1) :: F) ((0, W, h, q, T, tt, ct, tt3, ct3)) (⟨by simp only; omega, by simp only; omega, hW, hok, htt, htt3⟩) (.cons rfl .nil) ((fun w hw => SPI.holds (F' := Blk bm (.cells [Value.slice (some ⟨g, 0, none⟩) 32 c].toArray 81 (0, 0)) :: Own 51 1 (.slice (some ⟨g, 0, none⟩) 32 c) 32 (ints .u32 W) :: Blk b (.cells [Value.slice al L.length cl, .int .i64 h, .bool q, .slice tt T.length ct].toArray 84 (0, 0)) :: Own 3 1 (.slice al L.length cl) L.length (ints .i64 L) :: Own 51 1 (.slice tt T.length ct) T.length (ints .u32 T) :: Blk bn (.cells [Value.slice (some ⟨gn, 0, none⟩) 32 cn].toArray 81 (0, 0)) :: Own 51 1 (.slice (some ⟨gn, 0, none⟩) 32 cn) 32 (ints .u32 W) :: Blk b3 (.cells [Value.slice al3 L.length cl3, .int .i64 h, .bool q, .slice tt3 T.length ct3].toArray 84 (0, 0)) :: Own 3 1 (.slice al3 L.length cl3) L.length (ints .i64 L) :: Own 51 1 (.slice tt3 T.length ct3) T.length (ints .u32 T) :: F) hw)) ?_
    rintro ⟨i, W, h, q, T, tt, ct, tt3, ct3⟩ ⟨i0, i1, hW, hok, htt, htt3⟩ ih
    dsimp only [List.cons_append, List.nil_append] at ih ⊢
    simp only at i0 i1 hW hok htt htt3
    refine g_seq ?_
    refine g_seq ?_
    refine g_region ?_
    refine l_move rfl rfl ?_
    refine l_move rfl rfl ?_
    refine l_len rfl Try.underlying23 rfl ?_
    refine l_lss rfl rfl rfl ?_
    refine l_nil ?_
    refine g_cond rfl ?_ ?_
    · intro hbr
      have hbr := of_decide_eq_true hbr
      refine g_skip ?_
      refine g_seq ?_
      refine g_block ?_
      refine g_seq ?_
      refine g_region ?_
      refine l_move rfl rfl ?_
      refine l_move rfl rfl ?_
      refine l_move rfl rfl ?_
      refine l_move rfl rfl ?_
      obtain ⟨b9, o9, rfl, hr9⟩ := hIT.some (i := i.toNat) (by omega)
      have hb9 := hbT i.toNat
      refine l_ixs rfl Try.underlying23 Try.sizeOf3 rfl rfl (by omega) (by omega) ?_
      refine l_loadc rfl Try.isAgg3 rfl (word_any hr9 (by omega)) ?_
      refine l_call rfl Try.call27 rfl (act_ok _ _ bm g 32 c W hW hc (by omega) b al cl L h q tt T.length ct T rfl (by omega) hLb hal htt hok (XT.getD i.toNat 0) (by omega) (by omega)) ?_; rintro _ _ ⟨dd, ee, W2, h2, q2, tt2, nt2, ct2, T2, rfl, hW2, rfl, hT2, htt2, hG⟩
      obtain rfl := hT2
      have hok2 := hG.ok hok
      refine l_move rfl rfl ?_
      refine l_extract rfl rfl rfl ?_
      refine l_extract rfl rfl rfl ?_
      refine l_assign rfl rfl ?_
      refine l_assign rfl rfl ?_
      refine l_nil ?_
      refine g_seq ?_
      refine g_region ?_
      refine l_move rfl rfl ?_
      refine l_move rfl rfl ?_
      refine l_move rfl rfl ?_
      refine l_move rfl rfl ?_
      refine l_ixs rfl Try.underlying23 Try.sizeOf3 rfl rfl (by omega) (by omega) ?_
      refine l_loadc rfl Try.isAgg3 rfl (word_any hr9 (by omega)) ?_
      refine l_frontv (.slice tt3 T.length ct3) ?_
      refine l_frontv (.slice al3 L.length cl3) ?_
      refine l_frontb b3 ?_
      refine l_fronto gn ?_
      refine l_frontb bn ?_
      refine l_call rfl Try.call27 rfl (act_ok _ _ bn gn 32 cn W hW hcn (by omega) b3 al3 cl3 L h q tt3 T.length ct3 T rfl (by omega) hLb hal3 htt3 hok (XT.getD i.toNat 0) (by omega) (by omega)) ?_; rintro _ _ ⟨dd3, ee3, W3, h3, q3, tt4, nt4, ct4, T3, rfl, hW3, rfl, hT3, htt4, hG3⟩
      obtain rfl := hT3
      obtain ⟨rfl, rfl, rfl, rfl, rfl, rfl⟩ := hG.same hG3
      refine l_move rfl rfl ?_
      refine l_extract rfl rfl rfl ?_
      refine l_extract rfl rfl rfl ?_
      refine l_assign rfl rfl ?_
      refine l_assign rfl rfl ?_
      refine l_nil ?_
      refine g_seq ?_
      refine g_seq ?_
      refine g_region ?_
      refine l_move rfl rfl ?_
      refine l_move rfl rfl ?_
      refine l_neqb rfl Try.underlying4 rfl rfl ?_
      rw [show (!(dd == dd)) = false by simp]
      refine l_move rfl rfl ?_
      refine l_guard_yes rfl rfl ?_
      refine l_move rfl rfl ?_
      refine l_guard_yes rfl rfl ?_
      refine l_move rfl rfl ?_
      refine l_guard_yes rfl rfl ?_
      refine l_neq rfl rfl rfl ?_
      refine l_pick_f rfl rfl rfl ?_
      refine l_move rfl rfl ?_
      refine l_split 158 rfl ?_ ?_
      · intro hbr
        have hbr := of_decide_eq_true hbr
        (exfalso; omega)
      intro hbr
      have hbr := of_decide_eq_false hbr
      refine l_guard_yes rfl rfl ?_
      refine l_move rfl rfl ?_
      refine l_guard_yes rfl rfl ?_
      refine l_frontb b ?_
      refine l_call rfl Try.call10 rfl (chall_ok _ _ b al cl L h2 q2 tt2 T2.length ct2 (by omega) hok2.1 hok2.2.1) ?_; rintro _ _ ⟨rfl, rfl⟩
      refine l_guard_yes rfl rfl ?_
      refine l_move rfl rfl ?_
      refine l_guard_yes rfl rfl ?_
      refine l_frontb b3 ?_
      refine l_call rfl Try.call10 rfl (chall_ok _ _ b3 al3 cl3 L h2 q2 tt4 T2.length ct4 (by omega) hok2.1 hok2.2.1) ?_; rintro _ _ ⟨rfl, rfl⟩
      refine l_guard_yes rfl rfl ?_
      refine l_neqb rfl Try.underlying4 rfl rfl ?_
      rw [show (!(decide (h2 = (L.length : Int)) == decide (h2 = (L.length : Int)))) = false by simp]
      refine l_pick_f rfl rfl rfl ?_
      refine l_nil ?_
      refine g_cond_f rfl ?_
      refine g_skip ?_
      refine g_seq ?_
      refine g_region ?_
      refine l_move rfl rfl ?_
      refine l_move rfl rfl ?_
      refine l_move rfl rfl ?_
      refine l_ixs rfl Try.underlying23 Try.sizeOf3 rfl rfl (by omega) (by omega) ?_
      refine l_loadc rfl Try.isAgg3 rfl (word_any hr9 (by omega)) ?_
      refine l_fronto g ?_
      refine l_frontb bm ?_
      refine l_call rfl Try.call30 rfl (free_ok _ _ bm g 32 c W2 hW2 hc (by omega) (XT.getD i.toNat 0) (by omega) (by omega)) ?_; rintro _ _ ⟨W5, hW5, rfl, hFs⟩
      refine l_nil ?_
      refine g_region ?_
      refine l_move rfl rfl ?_
      refine l_move rfl rfl ?_
      refine l_move rfl rfl ?_
      refine l_ixs rfl Try.underlying23 Try.sizeOf3 rfl rfl (by omega) (by omega) ?_
      refine l_loadc rfl Try.isAgg3 rfl (word_any hr9 (by omega)) ?_
      refine l_fronto gn ?_
      refine l_frontb bn ?_
      refine l_call rfl Try.call30 rfl (free_ok _ _ bn gn 32 cn W2 hW2 hcn (by omega) (XT.getD i.toNat 0) (by omega) (by omega)) ?_; rintro _ _ ⟨W6, hW6, rfl, hFs2⟩
      obtain rfl := hFs.same hFs2
      refine l_nil ?_
      refine g_inBlock ?_
      refine g_region ?_
      refine l_move rfl rfl ?_
      first | refine l_add rfl rfl rfl (w_i64 (by omega) (by omega)) ?_ | refine l_addw rfl rfl rfl ?_
      refine l_assign rfl rfl ?_
      refine l_nil ?_
      exact g_againi (ih (i + 1, W5, h2, q2, T2, tt2, ct2, tt4, ct4) ⟨by simp only; omega, by simp only; omega, hW5, hok2, htt2, htt4⟩ (by simp only; omega)) (.cons rfl (.cons rfl (.cons rfl (.cons rfl (.cons rfl (.cons rfl (.nil)))))))
    intro hbr
    have hbr := of_decide_eq_false hbr
    refine g_exit rfl ?_
    refine g_seq ?_
    refine g_region ?_
    refine l_move rfl rfl ?_
    refine l_fronto g ?_
    refine l_frontb bm ?_
    refine l_call rfl Try.call23 rfl (words_ok _ _ bm g 32 c W hW hc (by omega)) ?_; rintro _ _ ⟨qa, ca, rfl, hca, rfl⟩
    refine l_move rfl rfl ?_
    refine l_fronto gn ?_
    refine l_frontb bn ?_
    refine l_call rfl Try.call23 rfl (words_ok _ _ bn gn 32 cn W hW hcn (by omega)) ?_; rintro _ _ ⟨qb, cb, rfl, hcb, rfl⟩
    refine l_call rfl Try.call24 rfl (same_words _ _ (some ⟨qa, 0, none⟩) (some ⟨qb, 0, none⟩) 32 ca cb W (IR.own hW (by first | exact mem_getO 0 rfl | exact mem_getO 1 rfl | exact mem_getO 2 rfl | exact mem_getO 3 rfl | exact mem_getO 4 rfl | exact mem_getO 5 rfl | exact mem_getO 6 rfl | exact mem_getO 7 rfl | exact mem_getO 8 rfl) (.inr ⟨_, rfl⟩)) (IR.own hW (by first | exact mem_getO 0 rfl | exact mem_getO 1 rfl | exact mem_getO 2 rfl | exact mem_getO 3 rfl | exact mem_getO 4 rfl | exact mem_getO 5 rfl | exact mem_getO 6 rfl | exact mem_getO 7 rfl | exact mem_getO 8 rfl) (.inr ⟨_, rfl⟩)) (by omega)) ?_; rintro _ F9 ⟨rfl, hF9⟩; rw [hF9]; clear hF9 F9
    refine l_assign rfl rfl ?_
    refine l_nil ?_
    refine g_ret Try.func6 rfl (.tmp rfl .nil) ?_
    exact Gives.mki ⟨rfl, rfl⟩
  intro hbr
  have hbr := of_decide_eq_false hbr
  refine l_guard_no rfl rfl rfl ?_
  refine l_guard_no rfl rfl rfl ?_
  refine l_pick_f rfl rfl rfl ?_
  refine l_nil ?_
  refine g_cond_f rfl ?_
  refine g_exit rfl ?_
  have hlen := pkL_len XL i.toNat
  have hLb := pkL_bd XL i.toNat
  generalize hL9 : pkL XL i.toNat = L at hlen hLb ⊢
  clear hL9
  have hL6 : L.length ≤ 6 := by omega
  rw [← hlen] at ha1 ⊢
  refine g_seq ?_
  refine g_region ?_
  refine l_move rfl rfl ?_
  refine l_frontv (.slice a1 L.length c1) ?_
  refine l_call rfl Try.call8 rfl (lnew_ok _ _ a1 c1 L (by omega)) ?_; rintro _ _ ⟨b, al, cl, rfl, hal, rfl⟩
  refine l_assign rfl rfl ?_
  refine l_nil ?_
  refine g_seq ?_
  refine g_region ?_
  refine l_call rfl Try.call8 rfl (lnew_nil _ _) ?_; rintro _ _ ⟨be, rfl, rfl⟩
  refine l_assign rfl rfl ?_
  refine l_nil ?_
  refine g_seq ?_
  refine g_seq ?_
  refine g_region ?_
  refine l_move rfl rfl ?_
  refine l_eqpn rfl Try.underlying28 rfl rfl ?_
  refine l_move rfl rfl ?_
  refine l_split 67 rfl ?_ ?_
  · intro hbr
    first | (exfalso; simp at hbr; done) | (exfalso; simp at hbr; omega)
  intro hbr
  have hb67 := hbr
  refine l_guard_yes rfl rfl ?_
  refine l_move rfl rfl ?_
  refine l_guard_yes rfl rfl ?_
  refine l_eqpn rfl Try.underlying28 rfl rfl ?_
  refine l_pick_f rfl rfl rfl ?_
  refine l_move rfl rfl ?_
  refine l_split 71 rfl ?_ ?_
  · intro hbr
    first | (exfalso; simp at hbr; done) | (exfalso; simp at hbr; omega)
  intro hbr
  have hb71 := hbr
  refine l_guard_yes rfl rfl ?_
  refine l_move rfl rfl ?_
  refine l_guard_yes rfl rfl ?_
  refine l_frontb be ?_
  refine l_call rfl Try.call10 rfl (chall_ok _ _ be none 0 ([] : List Int) 0 false none 0 0 (by simp) (by omega) (by simp)) ?_; rintro _ _ ⟨rfl, rfl⟩
  refine l_guard_yes rfl rfl ?_
  refine l_not rfl rfl ?_
  refine l_pick_f rfl rfl rfl ?_
  refine l_nil ?_
  refine g_cond_f rfl ?_
  refine g_skip ?_
  refine g_seq ?_
  refine g_seq ?_
  refine g_region ?_
  refine l_assign rfl rfl ?_
  refine l_nil ?_
  refine g_block ?_
  refine g_loopk (X := Int × List Int) [(2, _), (4, _), (5, _), (6, _), (7, _), (9, _), (11, _)] (.cons rfl (.cons rfl (.cons rfl (.cons rfl (.cons rfl (.cons rfl (.cons rfl (.nil)))))))) (fun z => 0 ≤ z.1 ∧ z.1 ≤ nO ∧ z.2.length = 32) (fun z => (nO - z.1).toNat) (fun z => [(13, .int .i64 z.1)]) (fun z => Blk bm (.cells [Value.slice (some ⟨g, 0, none⟩) 32 c].toArray 81 (0, 0)) :: Own 51 1 (.slice (some ⟨g, 0, none⟩) 32 c) 32 (ints .u32 z.2) :: Blk b (.cells [Value.slice al L.length cl, .int .i64 0, .bool false, .slice none 0 0].toArray 84 (0, 0)) :: Own 3 1 (.slice al L.length cl) L.length (ints .i64 L) :: Own 51 1 (.slice none 0 0) 0 (ints .u32 ([] : List Int)) :: Own 3 1 (.slice a1 L.length c1) L.length (ints .i64 L) :: F) ((0, List.replicate 32 0)) (⟨by simp only; omega, by simp only; omega, by simp⟩) (.cons rfl .nil) ((fun w hw => SPI.holds (F' := Blk bm (.cells [Value.slice (some ⟨g, 0, none⟩) 32 c].toArray 81 (0, 0)) :: Own 51 1 (.slice (some ⟨g, 0, none⟩) 32 c) 32 (ints .u32 (List.replicate 32 0)) :: Blk b (.cells [Value.slice al L.length cl, .int .i64 0, .bool false, .slice none 0 0].toArray 84 (0, 0)) :: Own 3 1 (.slice al L.length cl) L.length (ints .i64 L) :: Own 51 1 (.slice none 0 0) 0 (ints .u32 ([] : List Int)) :: Own 3 1 (.slice a1 L.length c1) L.length (ints .i64 L) :: F) hw)) ?_
  rintro ⟨i, W⟩ ⟨i0, i1, hW⟩ ih
  dsimp only [List.cons_append, List.nil_append] at ih ⊢
  simp only at i0 i1 hW
  refine g_seq ?_
  refine g_seq ?_
  refine g_region ?_
  refine l_move rfl rfl ?_
  refine l_move rfl rfl ?_
  refine l_len rfl Try.underlying23 rfl ?_
  refine l_lss rfl rfl rfl ?_
  refine l_nil ?_
  refine g_cond rfl ?_ ?_
  · intro hbr
    have hbr := of_decide_eq_true hbr
    refine g_skip ?_
    refine g_seq ?_
    refine g_block ?_
    refine g_region ?_
    refine l_move rfl rfl ?_
    refine l_move rfl rfl ?_
    refine l_move rfl rfl ?_
    obtain ⟨b9, o9, rfl, hr9⟩ := hIO.some (i := i.toNat) (by omega)
    have hb9 := hbO i.toNat
    refine l_ixs rfl Try.underlying23 Try.sizeOf3 rfl rfl (by omega) (by omega) ?_
    refine l_loadc rfl Try.isAgg3 rfl (word_any hr9 (by omega)) ?_
    refine l_call rfl Try.call12 rfl (pick_ok _ _ (XO.getD i.toNat 0) 34 (by omega) (by omega) (by omega) (by omega)) ?_; rintro _ F9 ⟨rfl, hF9⟩; rw [hF9]; clear hF9 F9
    have hp34 := pk_lt (XO.getD i.toNat 0) (show (0 : Int) < 34 by omega)
    refine l_fronto g ?_
    refine l_frontb bm ?_
    refine l_call rfl Try.call26 rfl (ltake_ok _ _ bm g 32 c W hW hc (by omega) (pk (XO.getD i.toNat 0) 34) (by omega) (by omega)) ?_; rintro _ _ ⟨k1, e1, W1, rfl, hW1, rfl, hTk⟩
    refine l_nil ?_
    refine g_inBlock ?_
    refine g_region ?_
    refine l_move rfl rfl ?_
    first | refine l_add rfl rfl rfl (w_i64 (by omega) (by omega)) ?_ | refine l_addw rfl rfl rfl ?_
    refine l_assign rfl rfl ?_
    refine l_nil ?_
    exact g_againi (ih (i + 1, W1) ⟨by simp only; omega, by simp only; omega, hW1⟩ (by simp only; omega)) (.cons rfl (.cons rfl (.cons rfl (.cons rfl (.cons rfl (.cons rfl (.cons rfl (.cons rfl (.nil)))))))))
  intro hbr
  have hbr := of_decide_eq_false hbr
  refine g_exit rfl ?_
  refine g_seq ?_
  refine g_seq ?_
  refine g_region ?_
  refine l_assign rfl rfl ?_
  refine l_nil ?_
  refine g_block ?_
  refine g_fronto g ?_
  refine g_frontb bm ?_
  refine g_loopk (X := Int × List Int × Int × Bool × List Int × Option Addr × Nat) [(2, _), (4, _), (5, _), (7, _), (9, _), (11, _)] (.cons rfl (.cons rfl (.cons rfl (.cons rfl (.cons rfl (.cons rfl (.nil))))))) (fun z => 0 ≤ z.1 ∧ z.1 ≤ nF ∧ z.2.1.length = 32 ∧ ChOk L.length z.2.2.1 z.2.2.2.1 z.2.2.2.2.1.length ∧ (z.2.2.2.2.1.length = 0 ∨ ∃ g, z.2.2.2.2.2.1 = some ⟨g, 0, none⟩)) (fun z => (nF - z.1).toNat) (fun z => [(14, .int .i64 z.1)]) (fun z => Blk bm (.cells [Value.slice (some ⟨g, 0, none⟩) 32 c].toArray 81 (0, 0)) :: Own 51 1 (.slice (some ⟨g, 0, none⟩) 32 c) 32 (ints .u32 z.2.1) :: Blk b (.cells [Value.slice al L.length cl, .int .i64 z.2.2.1, .bool z.2.2.2.1, .slice z.2.2.2.2.2.1 z.2.2.2.2.1.length z.2.2.2.2.2.2].toArray 84 (0, 0)) :: Own 3 1 (.slice al L.length cl) L.length (ints .i64 L) :: Own 51 1 (.slice z.2.2.2.2.2.1 z.2.2.2.2.1.length z.2.2.2.2.2.2) z.2.2.2.2.1.length (ints .u32 z.2.2.2.2.1) :: Own 3 1 (.slice a1 L.length c1) L.length (ints .i64 L) :: F) ((0, W, 0, false, [], none, 0)) (⟨by simp only; omega, by simp only; omega, hW, ⟨by simp only; omega, by simp only; omega, fun h => (by cases h), fun _ => rfl⟩, .inl rfl⟩) (.cons rfl .nil) ((fun w hw => hw)) ?_
  rintro ⟨i, W, h, q, T, tt, ct⟩ ⟨i0, i1, hW, hok, htt⟩ ih
  dsimp only [List.cons_append, List.nil_append] at ih ⊢
  simp only at i0 i1 hW hok htt
  refine g_seq ?_
  refine g_seq ?_
  refine g_region ?_
  refine l_move rfl rfl ?_
  refine l_move rfl rfl ?_
  refine l_len rfl Try.underlying23 rfl ?_
  refine l_lss rfl rfl rfl ?_
  refine l_nil ?_
  refine g_cond rfl ?_ ?_
  · intro hbr
    have hbr := of_decide_eq_true hbr
    refine g_skip ?_
    refine g_seq ?_
    refine g_block ?_
    refine g_region ?_
    refine l_move rfl rfl ?_
    refine l_move rfl rfl ?_
    refine l_move rfl rfl ?_
    refine l_move rfl rfl ?_
    obtain ⟨b9, o9, rfl, hr9⟩ := hIF.some (i := i.toNat) (by omega)
    have hb9 := hbF i.toNat
    refine l_ixs rfl Try.underlying23 Try.sizeOf3 rfl rfl (by omega) (by omega) ?_
    refine l_loadc rfl Try.isAgg3 rfl (word_any hr9 (by omega)) ?_
    refine l_call rfl Try.call27 rfl (act_ok _ _ bm g 32 c W hW hc (by omega) b al cl L h q tt T.length ct T rfl (by omega) hLb hal htt hok (XF.getD i.toNat 0) (by omega) (by omega)) ?_; rintro _ _ ⟨dd, ee, W2, h2, q2, tt2, nt2, ct2, T2, rfl, hW2, rfl, hT2, htt2, hG⟩
    obtain rfl := hT2
    have hok2 := hG.ok hok
    refine l_nil ?_
    refine g_inBlock ?_
    refine g_region ?_
    refine l_move rfl rfl ?_
    first | refine l_add rfl rfl rfl (w_i64 (by omega) (by omega)) ?_ | refine l_addw rfl rfl rfl ?_
    refine l_assign rfl rfl ?_
    refine l_nil ?_
    exact g_againi (ih (i + 1, W2, h2, q2, T2, tt2, ct2) ⟨by simp only; omega, by simp only; omega, hW2, hok2, htt2⟩ (by simp only; omega)) (.cons rfl (.cons rfl (.cons rfl (.cons rfl (.cons rfl (.cons rfl (.cons rfl (.nil))))))))
  intro hbr
  have hbr := of_decide_eq_false hbr
  refine g_exit rfl ?_
  refine g_seq ?_
  refine g_region ?_
  refine l_move rfl rfl ?_
  have hT7 := hok.len
  refine l_frontv (.slice tt T.length ct) ?_
  refine l_frontb b ?_
  refine l_call rfl Try.call14 rfl (chstate_ok _ _ b al cl L h q tt T.length ct T rfl (by omega)) ?_; rintro _ _ ⟨a2, c2, rfl, ha2, rfl⟩
  refine l_move rfl rfl ?_
  refine l_extract rfl rfl rfl ?_
  refine l_extract rfl rfl rfl ?_
  refine l_extract rfl rfl rfl ?_
  refine l_assign rfl rfl ?_
  refine l_assign rfl rfl ?_
  refine l_assign rfl rfl ?_
  refine l_nil ?_
  refine g_seq ?_
  refine g_region ?_
  refine l_move rfl rfl ?_
  refine l_move rfl rfl ?_
  refine l_move rfl rfl ?_
  refine l_move rfl rfl ?_
  refine l_frontv (.slice a2 T.length c2) ?_
  refine l_frontv (.slice a1 L.length c1) ?_
  refine l_call rfl Try.call28 rfl (restore_ok _ _ a1 c1 L (by omega) h q a2 T.length c2 T rfl hok) ?_; rintro _ _ ⟨b3, al3, cl3, tt3, ct3, rfl, hal3, htt3, rfl⟩
  refine l_move rfl rfl ?_
  refine l_extract rfl rfl rfl ?_
  refine l_extract rfl rfl rfl ?_
  refine l_assign rfl rfl ?_
  refine l_assign rfl rfl ?_
  refine l_nil ?_
  refine g_seq ?_
  refine g_seq ?_
  refine g_region ?_
  refine l_move rfl rfl ?_
  refine l_eqpn rfl Try.underlying28 rfl rfl ?_
  refine l_move rfl rfl ?_
  refine l_split 118 rfl ?_ ?_
  · intro hbr
    first | (exfalso; simp at hbr; done) | (exfalso; simp at hbr; omega)
  intro hbr
  have hb118 := hbr
  refine l_guard_yes rfl rfl ?_
  refine l_move rfl rfl ?_
  refine l_guard_yes rfl rfl ?_
  refine l_neq rfl rfl rfl ?_
  refine l_pick_f rfl rfl rfl ?_
  refine l_nil ?_
  refine g_cond rfl ?_ ?_
  · intro hbr
    have hbr := of_decide_eq_true hbr
    (exfalso; omega)
  intro hbr
  have hbr := of_decide_eq_false hbr
  refine g_skip ?_
  refine g_seq ?_
  refine g_region ?_
  refine l_move rfl rfl ?_
  refine l_fronto g ?_
  refine l_frontb bm ?_
  refine l_call rfl Try.call29 rfl (clonem_ok _ _ bm g 32 c W hW hc (by omega)) ?_; rintro _ _ ⟨bn, gn, cn, rfl, hcn, rfl⟩
  refine l_assign rfl rfl ?_
  refine l_nil ?_
  refine g_seq ?_
  refine g_seq ?_
  refine g_region ?_
  refine l_assign rfl rfl ?_
  refine l_nil ?_
  refine g_block ?_
  refine g_loopk (X := Int × List Int × Int × Bool × List Int × Option Addr × Nat × Option Addr × Nat) [(5, _), (7, _), (11, _), (18, _), (20, _)] (.cons rfl (.cons rfl (.cons rfl (.cons rfl (.cons rfl (.nil)))))) (fun z => 0 ≤ z.1 ∧ z.1 ≤ nT ∧ z.2.1.length = 32 ∧ ChOk L.length z.2.2.1 z.2.2.2.1 z.2.2.2.2.1.length ∧ (z.2.2.2.2.1.length = 0 ∨ ∃ g, z.2.2.2.2.2.1 = some ⟨g, 0, none⟩) ∧ (z.2.2.2.2.1.length = 0 ∨ ∃ g, z.2.2.2.2.2.2.2.1 = some ⟨g, 0, none⟩)) (fun z => (nT - z.1).toNat) (fun z => [(21, .int .i64 z.1)]) (fun z => Blk bm (.cells [Value.slice (some ⟨g, 0, none⟩) 32 c].toArray 81 (0, 0)) :: Own 51 1 (.slice (some ⟨g, 0, none⟩) 32 c) 32 (ints .u32 z.2.1) :: Blk b (.cells [Value.slice al L.length cl, .int .i64 z.2.2.1, .bool z.2.2.2.1, .slice z.2.2.2.2.2.1 z.2.2.2.2.1.length z.2.2.2.2.2.2.1].toArray 84 (0, 0)) :: Own 3 1 (.slice al L.length cl) L.length (ints .i64 L) :: Own 51 1 (.slice z.2.2.2.2.2.1 z.2.2.2.2.1.length z.2.2.2.2.2.2.1) z.2.2.2.2.1.length (ints .u32 z.2.2.2.2.1) :: Blk bn (.cells [Value.slice (some ⟨gn, 0, none⟩) 32 cn].toArray 81 (0, 0)) :: Own 51 1 (.slice (some ⟨gn, 0, none⟩) 32 cn) 32 (ints .u32 z.2.1) :: Blk b3 (.cells [Value.slice al3 L.length cl3, .int .i64 z.2.2.1, .bool z.2.2.2.1, .slice z.2.2.2.2.2.2.2.1 z.2.2.2.2.1.length z.2.2.2.2.2.2.2.2].toArray 84 (0, 0)) :: Own 3 1 (.slice al3 L.length cl3) L.length (ints .i64 L) :: Own 51 1 (.slice z.2.2.2.2.2.2.2.1 z.2.2.2.2.1.length z.2.2.2.2.2.2.2.2) z.2.2.2.2.1.length (ints .u32 z.2.2.2.2.1) :: F) ((0, W, h, q, T, tt, ct, tt3, ct3)) (⟨by simp only; omega, by simp only; omega, hW, hok, htt, htt3⟩) (.cons rfl .nil) ((fun w hw => SPI.holds (F' := Blk bm (.cells [Value.slice (some ⟨g, 0, none⟩) 32 c].toArray 81 (0, 0)) :: Own 51 1 (.slice (some ⟨g, 0, none⟩) 32 c) 32 (ints .u32 W) :: Blk b (.cells [Value.slice al L.length cl, .int .i64 h, .bool q, .slice tt T.length ct].toArray 84 (0, 0)) :: Own 3 1 (.slice al L.length cl) L.length (ints .i64 L) :: Own 51 1 (.slice tt T.length ct) T.length (ints .u32 T) :: Blk bn (.cells [Value.slice (some ⟨gn, 0, none⟩) 32 cn].toArray 81 (0, 0)) :: Own 51 1 (.slice (some ⟨gn, 0, none⟩) 32 cn) 32 (ints .u32 W) :: Blk b3 (.cells [Value.slice al3 L.length cl3, .int .i64 h, .bool q, .slice tt3 T.length ct3].toArray 84 (0, 0)) :: Own 3 1 (.slice al3 L.length cl3) L.length (ints .i64 L) :: Own 51 1 (.slice tt3 T.length ct3) T.length (ints .u32 T) :: F) hw)) ?_
  rintro ⟨i, W, h, q, T, tt, ct, tt3, ct3⟩ ⟨i0, i1, hW, hok, htt, htt3⟩ ih
  dsimp only [List.cons_append, List.nil_append] at ih ⊢
  simp only at i0 i1 hW hok htt htt3
  refine g_seq ?_
  refine g_seq ?_
  refine g_region ?_
  refine l_move rfl rfl ?_
  refine l_move rfl rfl ?_
  refine l_len rfl Try.underlying23 rfl ?_
  refine l_lss rfl rfl rfl ?_
  refine l_nil ?_
  refine g_cond rfl ?_ ?_
  · intro hbr
    have hbr := of_decide_eq_true hbr
    refine g_skip ?_
    refine g_seq ?_
    refine g_block ?_
    refine g_seq ?_
    refine g_region ?_
    refine l_move rfl rfl ?_
    refine l_move rfl rfl ?_
    refine l_move rfl rfl ?_
    refine l_move rfl rfl ?_
    obtain ⟨b9, o9, rfl, hr9⟩ := hIT.some (i := i.toNat) (by omega)
    have hb9 := hbT i.toNat
    refine l_ixs rfl Try.underlying23 Try.sizeOf3 rfl rfl (by omega) (by omega) ?_
    refine l_loadc rfl Try.isAgg3 rfl (word_any hr9 (by omega)) ?_
    refine l_call rfl Try.call27 rfl (act_ok _ _ bm g 32 c W hW hc (by omega) b al cl L h q tt T.length ct T rfl (by omega) hLb hal htt hok (XT.getD i.toNat 0) (by omega) (by omega)) ?_; rintro _ _ ⟨dd, ee, W2, h2, q2, tt2, nt2, ct2, T2, rfl, hW2, rfl, hT2, htt2, hG⟩
    obtain rfl := hT2
    have hok2 := hG.ok hok
    refine l_move rfl rfl ?_
    refine l_extract rfl rfl rfl ?_
    refine l_extract rfl rfl rfl ?_
    refine l_assign rfl rfl ?_
    refine l_assign rfl rfl ?_
    refine l_nil ?_
    refine g_seq ?_
    refine g_region ?_
    refine l_move rfl rfl ?_
    refine l_move rfl rfl ?_
    refine l_move rfl rfl ?_
    refine l_move rfl rfl ?_
    refine l_ixs rfl Try.underlying23 Try.sizeOf3 rfl rfl (by omega) (by omega) ?_
    refine l_loadc rfl Try.isAgg3 rfl (word_any hr9 (by omega)) ?_
    refine l_frontv (.slice tt3 T.length ct3) ?_
    refine l_frontv (.slice al3 L.length cl3) ?_
    refine l_frontb b3 ?_
    refine l_fronto gn ?_
    refine l_frontb bn ?_
    refine l_call rfl Try.call27 rfl (act_ok _ _ bn gn 32 cn W hW hcn (by omega) b3 al3 cl3 L h q tt3 T.length ct3 T rfl (by omega) hLb hal3 htt3 hok (XT.getD i.toNat 0) (by omega) (by omega)) ?_; rintro _ _ ⟨dd3, ee3, W3, h3, q3, tt4, nt4, ct4, T3, rfl, hW3, rfl, hT3, htt4, hG3⟩
    obtain rfl := hT3
    obtain ⟨rfl, rfl, rfl, rfl, rfl, rfl⟩ := hG.same hG3
    refine l_move rfl rfl ?_
    refine l_extract rfl rfl rfl ?_
    refine l_extract rfl rfl rfl ?_
    refine l_assign rfl rfl ?_
    refine l_assign rfl rfl ?_
    refine l_nil ?_
    refine g_seq ?_
    refine g_seq ?_
    refine g_region ?_
    refine l_move rfl rfl ?_
    refine l_move rfl rfl ?_
    refine l_neqb rfl Try.underlying4 rfl rfl ?_
    rw [show (!(dd == dd)) = false by simp]
    refine l_move rfl rfl ?_
    refine l_guard_yes rfl rfl ?_
    refine l_move rfl rfl ?_
    refine l_guard_yes rfl rfl ?_
    refine l_move rfl rfl ?_
    refine l_guard_yes rfl rfl ?_
    refine l_neq rfl rfl rfl ?_
    refine l_pick_f rfl rfl rfl ?_
    refine l_move rfl rfl ?_
    refine l_split 158 rfl ?_ ?_
    · intro hbr
      have hbr := of_decide_eq_true hbr
      (exfalso; omega)
    intro hbr
    have hbr := of_decide_eq_false hbr
    refine l_guard_yes rfl rfl ?_
    refine l_move rfl rfl ?_
    refine l_guard_yes rfl rfl ?_
    refine l_frontb b ?_
    refine l_call rfl Try.call10 rfl (chall_ok _ _ b al cl L h2 q2 tt2 T2.length ct2 (by omega) hok2.1 hok2.2.1) ?_; rintro _ _ ⟨rfl, rfl⟩
    refine l_guard_yes rfl rfl ?_
    refine l_move rfl rfl ?_
    refine l_guard_yes rfl rfl ?_
    refine l_frontb b3 ?_
    refine l_call rfl Try.call10 rfl (chall_ok _ _ b3 al3 cl3 L h2 q2 tt4 T2.length ct4 (by omega) hok2.1 hok2.2.1) ?_; rintro _ _ ⟨rfl, rfl⟩
    refine l_guard_yes rfl rfl ?_
    refine l_neqb rfl Try.underlying4 rfl rfl ?_
    rw [show (!(decide (h2 = (L.length : Int)) == decide (h2 = (L.length : Int)))) = false by simp]
    refine l_pick_f rfl rfl rfl ?_
    refine l_nil ?_
    refine g_cond_f rfl ?_
    refine g_skip ?_
    refine g_seq ?_
    refine g_region ?_
    refine l_move rfl rfl ?_
    refine l_move rfl rfl ?_
    refine l_move rfl rfl ?_
    refine l_ixs rfl Try.underlying23 Try.sizeOf3 rfl rfl (by omega) (by omega) ?_
    refine l_loadc rfl Try.isAgg3 rfl (word_any hr9 (by omega)) ?_
    refine l_fronto g ?_
    refine l_frontb bm ?_
    refine l_call rfl Try.call30 rfl (free_ok _ _ bm g 32 c W2 hW2 hc (by omega) (XT.getD i.toNat 0) (by omega) (by omega)) ?_; rintro _ _ ⟨W5, hW5, rfl, hFs⟩
    refine l_nil ?_
    refine g_region ?_
    refine l_move rfl rfl ?_
    refine l_move rfl rfl ?_
    refine l_move rfl rfl ?_
    refine l_ixs rfl Try.underlying23 Try.sizeOf3 rfl rfl (by omega) (by omega) ?_
    refine l_loadc rfl Try.isAgg3 rfl (word_any hr9 (by omega)) ?_
    refine l_fronto gn ?_
    refine l_frontb bn ?_
    refine l_call rfl Try.call30 rfl (free_ok _ _ bn gn 32 cn W2 hW2 hcn (by omega) (XT.getD i.toNat 0) (by omega) (by omega)) ?_; rintro _ _ ⟨W6, hW6, rfl, hFs2⟩
    obtain rfl := hFs.same hFs2
    refine l_nil ?_
    refine g_inBlock ?_
    refine g_region ?_
    refine l_move rfl rfl ?_
    first | refine l_add rfl rfl rfl (w_i64 (by omega) (by omega)) ?_ | refine l_addw rfl rfl rfl ?_
    refine l_assign rfl rfl ?_
    refine l_nil ?_
    exact g_againi (ih (i + 1, W5, h2, q2, T2, tt2, ct2, tt4, ct4) ⟨by simp only; omega, by simp only; omega, hW5, hok2, htt2, htt4⟩ (by simp only; omega)) (.cons rfl (.cons rfl (.cons rfl (.cons rfl (.cons rfl (.cons rfl (.nil)))))))
  intro hbr
  have hbr := of_decide_eq_false hbr
  refine g_exit rfl ?_
  refine g_seq ?_
  refine g_region ?_
  refine l_move rfl rfl ?_
  refine l_fronto g ?_
  refine l_frontb bm ?_
  refine l_call rfl Try.call23 rfl (words_ok _ _ bm g 32 c W hW hc (by omega)) ?_; rintro _ _ ⟨qa, ca, rfl, hca, rfl⟩
  refine l_move rfl rfl ?_
  refine l_fronto gn ?_
  refine l_frontb bn ?_
  refine l_call rfl Try.call23 rfl (words_ok _ _ bn gn 32 cn W hW hcn (by omega)) ?_; rintro _ _ ⟨qb, cb, rfl, hcb, rfl⟩
  refine l_call rfl Try.call24 rfl (same_words _ _ (some ⟨qa, 0, none⟩) (some ⟨qb, 0, none⟩) 32 ca cb W (IR.own hW (by first | exact mem_getO 0 rfl | exact mem_getO 1 rfl | exact mem_getO 2 rfl | exact mem_getO 3 rfl | exact mem_getO 4 rfl | exact mem_getO 5 rfl | exact mem_getO 6 rfl | exact mem_getO 7 rfl | exact mem_getO 8 rfl) (.inr ⟨_, rfl⟩)) (IR.own hW (by first | exact mem_getO 0 rfl | exact mem_getO 1 rfl | exact mem_getO 2 rfl | exact mem_getO 3 rfl | exact mem_getO 4 rfl | exact mem_getO 5 rfl | exact mem_getO 6 rfl | exact mem_getO 7 rfl | exact mem_getO 8 rfl) (.inr ⟨_, rfl⟩)) (by omega)) ?_; rintro _ F9 ⟨rfl, hF9⟩; rw [hF9]; clear hF9 F9
  refine l_assign rfl rfl ?_
  refine l_nil ?_
  refine g_ret Try.func6 rfl (.tmp rfl .nil) ?_
  exact Gives.mki ⟨rfl, rfl⟩
theorem vis_s70 {w : World} {r : List Value} (h : Vis Try.prog w 70 r) : ∃ (x0 : Option Addr) (n0 c0 : Nat) (X0 : List Int) (x1 : Option Addr) (n1 c1 : Nat) (X1 : List Int) (x2 : Option Addr) (n2 c2 : Nat) (X2 : List Int) (x3 : Option Addr) (n3 c3 : Nat) (X3 : List Int), r = [.slice x0 n0 c0, .slice x1 n1 c1, .slice x2 n2 c2, .slice x3 n3 c3] ∧ (n0 ≤ c0 ∧ c0 ≤ maxLen ∧ X0.length = n0 ∧ (∀ x ∈ X0, (Lit.int .i64 x).wf = true) ∧ ((n0 = 0 ∧ (x0 = none → c0 = 0)) ∨ ∃ b o, x0 = some ⟨b, o, none⟩ ∧ ∀ (j : Nat) u, (ints .i64 X0)[j]? = some u → w.cell? ⟨b, o + j, none⟩ = some u)) ∧ (n1 ≤ c1 ∧ c1 ≤ maxLen ∧ X1.length = n1 ∧ (∀ x ∈ X1, (Lit.int .i64 x).wf = true) ∧ ((n1 = 0 ∧ (x1 = none → c1 = 0)) ∨ ∃ b o, x1 = some ⟨b, o, none⟩ ∧ ∀ (j : Nat) u, (ints .i64 X1)[j]? = some u → w.cell? ⟨b, o + j, none⟩ = some u)) ∧ (n2 ≤ c2 ∧ c2 ≤ maxLen ∧ X2.length = n2 ∧ (∀ x ∈ X2, (Lit.int .i64 x).wf = true) ∧ ((n2 = 0 ∧ (x2 = none → c2 = 0)) ∨ ∃ b o, x2 = some ⟨b, o, none⟩ ∧ ∀ (j : Nat) u, (ints .i64 X2)[j]? = some u → w.cell? ⟨b, o + j, none⟩ = some u)) ∧ (n3 ≤ c3 ∧ c3 ≤ maxLen ∧ X3.length = n3 ∧ (∀ x ∈ X3, (Lit.int .i64 x).wf = true) ∧ ((n3 = 0 ∧ (x3 = none → c3 = 0)) ∨ ∃ b o, x3 = some ⟨b, o, none⟩ ∧ ∀ (j : Nat) u, (ints .i64 X3)[j]? = some u → w.cell? ⟨b, o + j, none⟩ = some u)) := by
  obtain ⟨hl, hf⟩ := vis_struct Try.underlying70 h
  have hc : Try.prog.cellsOf 70 = 4 := by kernel_rfl
  have cc23 : Try.prog.cellsOf 23 = 1 := by kernel_rfl
  match r, hl.trans hc with
  | [z0, z1, z2, z3], _ =>
    obtain ⟨x0, n0, c0, X0, e0, w0⟩ := vis_ints Try.underlying23 Try.underlying3 (by kernel_rfl) (hf 0 _ rfl)
    obtain ⟨x1, n1, c1, X1, e1, w1⟩ := vis_ints Try.underlying23 Try.underlying3 (by kernel_rfl) (hf 1 _ rfl)
    obtain ⟨x2, n2, c2, X2, e2, w2⟩ := vis_ints Try.underlying23 Try.underlying3 (by kernel_rfl) (hf 2 _ rfl)
    obtain ⟨x3, n3, c3, X3, e3, w3⟩ := vis_ints Try.underlying23 Try.underlying3 (by kernel_rfl) (hf 3 _ rfl)
    simp [cc23] at e0 e1 e2 e3
    subst e0 e1 e2 e3
    exact ⟨x0, n0, c0, X0, x1, n1, c1, X1, x2, n2, c2, X2, x3, n3, c3, X3, rfl, w0, w1, w2, w3⟩
theorem again_all (W : World) (l : List Value) (hv : Vis Try.prog W 70 l) : CallK Try.prog 6 [.agg l.toArray] W [Old W] (Gives W fun v F2 => v = .bool true ∧ F2 = [Old W]) := by
  obtain ⟨aL, nL, cL, XL, aF, nF, cF, XF, aT, nT, cT, XT, aO, nO, cO, XO, rfl, hL, hF, hT, hO⟩ := vis_s70 hv
  have hm : ∀ {n c : Nat} {a : Option Addr} {X : List Int}, (n ≤ c ∧ c ≤ maxLen ∧ X.length = n ∧ (∀ x ∈ X, (Lit.int .i64 x).wf = true) ∧ ((n = 0 ∧ (a = none → c = 0)) ∨ ∃ b o, a = some ⟨b, o, none⟩ ∧ ∀ (j : Nat) u, (ints .i64 X)[j]? = some u → W.cell? ⟨b, o + j, none⟩ = some u)) → IR W [Old W] .i64 a n X ∧ I64s X ∧ n ≤ 9223372036854775807 := by
    rintro n c a X ⟨h1, h2, h3, h4, h5⟩
    simp only [maxLen] at h2
    exact ⟨ir_old h3 h5, getD_i64 (fun x hx => wf_i64' (h4 x hx)), by omega⟩
  exact again_ok W [Old W] aL nL cL XL (hm hL).1 (hm hL).2.1 (hm hL).2.2 aF nF cF XF (hm hF).1 (hm hF).2.1 (hm hF).2.2 aT nT cT XT (hm hT).1 (hm hT).2.1 (hm hT).2.2 aO nO cO XO (hm hO).1 (hm hO).2.1 (hm hO).2.2
end Go.Proofs.Ythemlddepepekaa.Fw
