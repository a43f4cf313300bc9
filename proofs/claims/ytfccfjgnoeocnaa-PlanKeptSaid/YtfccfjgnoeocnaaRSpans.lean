import Derived.Test.YtfccfjgnoeocnaaRUse
namespace Go.Proofs.Ytfccfjgnoeocnaa.Fw
open Go Go.Proofs
set_option linter.unusedVariables false
set_option linter.unusedSimpArgs false
set_option maxRecDepth 10000

theorem rspans_any (w0 : World) (F : List Atom) (fr mj kr rm : Int) (ca pa ha : Option Addr) (cn cc pn pc hn hc : Nat) (Ks : List CoreR) (hCR : CR w0 F ca cn Ks) (hcn : cn ≤ 9223372036854775807) (hpn : pn ≤ 9223372036854775807) (hmj : I64 mj) (p : Int) (p0 : -9223372036854775808 ≤ p) (p1 : p ≤ 9223372036854775807) (hcn2 : cn ≤ 2147483647) :
    CallK Try.prog 21 [.agg [Value.int .i64 fr, .int .i64 mj, .int .i64 kr, .int .i64 rm, .slice ca cn cc, .slice pa pn pc, .slice ha hn hc].toArray, .int .i64 p] w0 (F) (Gives w0 fun v F2 => ∃ u e l, v = .tuple #[u, .int .i64 e] ∧ F2 = Own 52 4 u l.length (spRows l) :: F ∧ (e = 0 → (0 ≤ p ∧ p < pn) ∧ AllMay Ks cn ∧ spC p Ks cn = l) ∧ (e ≠ 0 → (e = 142 ∧ ¬ (0 ≤ p ∧ p < pn)) ∨ (e = 1 ∧ (0 ≤ p ∧ p < pn) ∧ ¬ AllMay Ks cn)) ∧ (e ≠ 0 → l = [])) := by
  have hCl := hCR.1
  refine c_enter Try.func21 rfl rfl rfl ?_
  refine g_seq ?_
  refine g_region ?_
  refine l_boxs rfl rfl ?_; intro b2
  refine l_assign rfl rfl ?_
  refine l_assign rfl rfl ?_
  refine l_nil ?_
  refine g_seq ?_
  refine g_seq ?_
  refine g_region ?_
  refine l_lds rfl Try.isAgg27 Try.sizeOf27 rfl rfl ?_
  refine l_move rfl rfl ?_
  refine l_inl rfl Try.call40 rfl ?_
  refine c_enter Try.func40 rfl rfl rfl ?_
  refine g_seq ?_
  refine g_region ?_
  refine l_boxs rfl rfl ?_; intro b2c11
  refine l_assign rfl rfl ?_
  refine l_nil ?_
  refine g_seq ?_
  refine g_region ?_
  refine l_move rfl rfl ?_
  refine l_geq rfl rfl rfl ?_
  refine l_move rfl rfl ?_
  refine l_split 7 rfl ?_ ?_
  · intro hbr
    have hbr := of_decide_eq_true hbr
    refine l_guard_yes rfl rfl ?_
    refine l_move rfl rfl ?_
    refine l_guard_yes rfl rfl ?_
    refine l_fieldAddr rfl fa_27_5 rfl ?_
    refine l_guard_yes rfl rfl ?_
    refine l_ld rfl Try.isAgg24 rfl rfl ?_
    refine l_guard_yes rfl rfl ?_
    refine l_len rfl Try.underlying24 rfl ?_
    refine l_guard_yes rfl rfl ?_
    refine l_lss rfl rfl rfl ?_
    refine l_pick_t rfl rfl rfl ?_
    refine l_assign rfl rfl ?_
    refine l_nil ?_
    refine g_ret Try.func40 rfl (.tmp rfl .nil) ?_
    first | refine ⟨.bool _, rfl, ?_⟩ | refine ⟨_, rfl, ?_⟩
    refine l_not rfl rfl ?_
    refine l_nil ?_
    refine g_cond rfl ?_ ?_
    · intro hbr
      have hbr := of_decide_eq_false (nb_t hbr)
      refine g_seq ?_
      refine g_region ?_
      refine l_assign rfl rfl ?_
      refine l_assign rfl rfl ?_
      refine l_nil ?_
      refine g_nilS 52 ?_
      refine g_ret Try.func21 rfl (.tmp rfl (.tmp rfl .nil)) ?_
      (first | exact Gives.mki ⟨_, 0, _, rfl, rfl, fun _ => ⟨⟨by omega, by omega⟩, hyes (nb_f hb15), rfl⟩, (fun h => absurd rfl h), fun h => absurd rfl h⟩ | exact Gives.mki ⟨.slice none 0 0, _, [], rfl, rfl, (fun h => absurd h (by decide)), (fun _ => .inl ⟨rfl, fun h => by omega⟩), fun _ => rfl⟩ | exact Gives.mki ⟨.slice none 0 0, _, [], rfl, rfl, (fun h => absurd h (by decide)), (fun _ => .inr ⟨rfl, ⟨by omega, by omega⟩, hno (nb_t hb15)⟩), fun _ => rfl⟩)
    intro hbr
    have hbr := of_decide_eq_true (nb_f hbr)
    refine g_skip ?_
    refine g_seq ?_
    refine g_seq ?_
    refine g_region ?_
    refine l_lds rfl Try.isAgg27 Try.sizeOf27 rfl rfl ?_
    refine l_call rfl Try.call38 rfl (all_any _ _ fr mj kr rm ca pa ha cn cc pn pc hn hc Ks hCR.ex hcn hpn hmj) ?_; rintro _ _ ⟨ok, rfl, rfl, hyes, hno⟩
    refine l_not rfl rfl ?_
    refine l_nil ?_
    refine g_cond rfl ?_ ?_
    · intro hbr
      have hb15 := hbr
      refine g_seq ?_
      refine g_region ?_
      refine l_assign rfl rfl ?_
      refine l_assign rfl rfl ?_
      refine l_nil ?_
      refine g_nilS 52 ?_
      refine g_ret Try.func21 rfl (.tmp rfl (.tmp rfl .nil)) ?_
      (first | exact Gives.mki ⟨_, 0, _, rfl, rfl, fun _ => ⟨⟨by omega, by omega⟩, hyes (nb_f hb15), rfl⟩, (fun h => absurd rfl h), fun h => absurd rfl h⟩ | exact Gives.mki ⟨.slice none 0 0, _, [], rfl, rfl, (fun h => absurd h (by decide)), (fun _ => .inl ⟨rfl, fun h => by omega⟩), fun _ => rfl⟩ | exact Gives.mki ⟨.slice none 0 0, _, [], rfl, rfl, (fun h => absurd h (by decide)), (fun _ => .inr ⟨rfl, ⟨by omega, by omega⟩, hno (nb_t hb15)⟩), fun _ => rfl⟩)
    intro hbr
    have hb15 := hbr
    refine g_skip ?_
    refine g_seq ?_
    refine g_region ?_
    refine l_assign rfl rfl ?_
    refine l_nil ?_
    refine g_seq ?_
    refine g_seq ?_
    refine g_region ?_
    refine l_assign rfl rfl ?_
    refine l_nil ?_
    refine g_block ?_
    refine g_own_nil 52 4 ?_
    refine g_loopk (X := Int × Value) [(1, _), (2, _), (4, _), (5, _)] (.cons rfl (.cons rfl (.cons rfl (.cons rfl (.nil))))) (fun z => 0 ≤ z.1 ∧ z.1 ≤ cn) (fun z => (cn - z.1).toNat) (fun z => [(6, z.2), (7, .int .i64 z.1)]) (fun z => Own 52 4 z.2 (spC p Ks z.1.toNat).length (spRows (spC p Ks z.1.toNat)) :: Blk b2 (.cells [Value.int .i64 fr, .int .i64 mj, .int .i64 kr, .int .i64 rm, .slice ca cn cc, .slice pa pn pc, .slice ha hn hc].toArray 27 (0, 0)) :: F) ((0, .slice none 0 0)) (⟨by simp only; omega, by simp only; omega⟩) (.cons rfl (.cons rfl .nil)) (fun w hw => (SPI.holds hw : Holds w0 (Own 52 4 (.slice none 0 0) 0 [] :: Blk b2 (.cells [Value.int .i64 fr, .int .i64 mj, .int .i64 kr, .int .i64 rm, .slice ca cn cc, .slice pa pn pc, .slice ha hn hc].toArray 27 (0, 0)) :: F) w)) ?_
    rintro ⟨k, u⟩ ⟨k0, k1⟩ ih
    dsimp only [List.cons_append, List.nil_append] at ih ⊢
    simp only at k0 k1
    obtain ⟨⟨a, n, c, L⟩, hk⟩ : ∃ K, kat Ks k.toNat = K := ⟨_, rfl⟩
    refine g_seq ?_
    refine g_seq ?_
    refine g_region ?_
    refine l_move rfl rfl ?_
    refine l_fieldAddr rfl fa_27_4 rfl ?_
    refine l_ld rfl Try.isAgg23 rfl rfl ?_
    refine l_len rfl Try.underlying23 rfl ?_
    refine l_lss rfl rfl rfl ?_
    refine l_nil ?_
    refine g_cond rfl ?_ ?_
    · intro hbr
      have hbr := of_decide_eq_true hbr
      refine g_skip ?_
      refine g_seq ?_
      refine g_block ?_
      refine g_seq ?_
      refine g_region ?_
      refine l_assign rfl rfl ?_
      refine l_nil ?_
      refine g_block ?_
      have hga := hyes (nb_f hb15)
      obtain ⟨hW, hn9⟩ := hCR.ok hk (by omega)
      have hm : May L := by have := hga k.toNat (by omega); rwa [hk] at this
      have hL := hW.1
      have hI := hW.2.1
      unfold I64 at hI
      obtain ⟨m1, m2, _⟩ := id hm
      obtain ⟨b8, o8, rfl, hr8⟩ := hCR.some (i := k.toNat) (by omega)
      rw [← spI_zero p Ks k.toNat]
      refine g_loopk (X := Int × Value) [(1, _), (2, _), (4, _), (5, _), (7, _), (16, _), (17, _), (18, _), (19, _), (20, _)] (.cons rfl (.cons rfl (.cons rfl (.cons rfl (.cons rfl (.cons rfl (.cons rfl (.cons rfl (.cons rfl (.cons rfl (.nil))))))))))) (fun z => 0 ≤ z.1 ∧ z.1 ≤ n) (fun z => (n - z.1).toNat) (fun z => [(6, z.2), (8, .int .i64 z.1)]) (fun z => Own 52 4 z.2 (spI p Ks k.toNat z.1.toNat).length (spRows (spI p Ks k.toNat z.1.toNat)) :: Blk b2 (.cells [Value.int .i64 fr, .int .i64 mj, .int .i64 kr, .int .i64 rm, .slice (some ⟨b8, o8, none⟩) cn cc, .slice pa pn pc, .slice ha hn hc].toArray 27 (0, 0)) :: F) ((0, u)) (⟨by simp only; omega, by simp only; omega⟩) (.cons rfl (.cons rfl .nil)) (fun w hw => (SPI.holds hw : Holds w0 (Own 52 4 u (spI p Ks k.toNat 0).length (spRows (spI p Ks k.toNat 0)) :: Blk b2 (.cells [Value.int .i64 fr, .int .i64 mj, .int .i64 kr, .int .i64 rm, .slice (some ⟨b8, o8, none⟩) cn cc, .slice pa pn pc, .slice ha hn hc].toArray 27 (0, 0)) :: F) w)) ?_
      rintro ⟨i, v⟩ ⟨i0, i1⟩ ihi
      dsimp only [List.cons_append, List.nil_append] at ihi ⊢
      simp only at i0 i1
      have hbs := @bg_step L i.toNat
      have hlen : (spI p Ks k.toNat i.toNat).length ≤ 16 * k.toNat + i.toNat := by
        have h1 := spC_len (p := p) hCR k.toNat (by omega) (fun j (hj : j < k.toNat) => hga j (by omega))
        have h2 := spK_len p k.toNat (kat Ks k.toNat).L i.toNat
        simp only [spI, List.length_append]
        omega
      refine g_seq ?_
      refine g_seq ?_
      refine g_region ?_
      refine l_move rfl rfl ?_
      refine l_fieldAddr rfl fa_27_4 rfl ?_
      refine l_ld rfl Try.isAgg23 rfl rfl ?_
      refine l_move rfl rfl ?_
      refine l_ixs rfl Try.underlying23 Try.sizeOf38 rfl rfl (by omega) (by omega) ?_
      refine l_loadc rfl Try.isAgg38 rfl (core_cell hr8.ex hk (by omega)) ?_
      refine l_len rfl Try.underlying38 rfl ?_
      refine l_lss rfl rfl rfl ?_
      refine l_nil ?_
      refine g_cond rfl ?_ ?_
      · intro hbr
        have hbr := of_decide_eq_true hbr
        refine g_skip ?_
        refine g_seq ?_
        refine g_block ?_
        refine g_seq ?_
        refine g_region ?_
        refine l_fieldAddr rfl fa_27_4 rfl ?_
        refine l_ld rfl Try.isAgg23 rfl rfl ?_
        refine l_move rfl rfl ?_
        refine l_ixs rfl Try.underlying23 Try.sizeOf38 rfl rfl (by omega) (by omega) ?_
        refine l_loadc rfl Try.isAgg38 rfl (core_cell hr8.ex hk (by omega)) ?_
        refine l_move rfl rfl ?_
        have hIi := hI i.toNat (by omega)
        obtain ⟨b9, o9, rfl, hr9⟩ := hW.some (i := i.toNat) (by omega)
        refine l_ixs rfl Try.underlying38 Try.sizeOf40 rfl rfl (by omega) (by omega) ?_
        refine l_fieldAddr rfl fa_40_0 rfl ?_
        refine l_loadc rfl Try.isAgg3 rfl ((row_elem hr9.ex (win_len L) (win_at (i := i.toNat) (by omega))).cell (j := 0) (v := .int .i64 (wat L i.toNat).1) rfl) ?_
        refine l_move rfl rfl ?_
        refine l_eql rfl rfl rfl ?_
        refine l_nil ?_
        refine g_cond rfl ?_ ?_
        · intro hbr
          have hbr := of_decide_eq_true hbr
          refine gp_start mo (by kernel_rfl) (by kernel_rfl) ?_
          refine gp_quiet 0 rfl rfl rfl rfl rfl rfl (q_move rfl) ?_
          refine gp_quiet 1 rfl rfl rfl rfl rfl rfl (q_move rfl) ?_
          refine gp_quiet 2 rfl rfl rfl rfl rfl rfl (q_move rfl) ?_
          refine gp_quiet 3 rfl rfl rfl rfl rfl rfl (q_fieldAddr fa_27_4 rfl) ?_
          refine gp_quiet 4 rfl rfl rfl rfl rfl rfl (q_ld Try.isAgg23 rfl rfl) ?_
          refine gp_quiet 5 rfl rfl rfl rfl rfl rfl (q_move rfl) ?_
          refine gp_quiet 6 rfl rfl rfl rfl rfl rfl (q_ixs Try.underlying23 Try.sizeOf38 rfl rfl (by omega) (by omega)) ?_
          refine gp_quiet 7 rfl rfl rfl rfl rfl rfl (q_loadc Try.isAgg38 rfl (core_cell hr8.ex hk (by omega))) ?_
          refine gp_quiet 8 rfl rfl rfl rfl rfl rfl (q_move rfl) ?_
          refine gp_quiet 10 rfl rfl rfl rfl rfl rfl (q_fieldAddr fa_27_4 rfl) ?_
          refine gp_quiet 11 rfl rfl rfl rfl rfl rfl (q_ld Try.isAgg23 rfl rfl) ?_
          refine gp_quiet 12 rfl rfl rfl rfl rfl rfl (q_move rfl) ?_
          refine gp_quiet 13 rfl rfl rfl rfl rfl rfl (q_ixs Try.underlying23 Try.sizeOf38 rfl rfl (by omega) (by omega)) ?_
          refine gp_quiet 14 rfl rfl rfl rfl rfl rfl (q_loadc Try.isAgg38 rfl (core_cell hr8.ex hk (by omega))) ?_
          refine gp_quiet 15 rfl rfl rfl rfl rfl rfl (q_move rfl) ?_
          first | refine gp_quiet 16 rfl rfl rfl rfl rfl rfl (q_add rfl rfl (w_i64 (by omega) (by omega))) ?_ | refine gp_quiet 16 rfl rfl rfl rfl rfl rfl (q_addw rfl rfl) ?_
          refine gp_effa 9 [7, 8] [16, 15, 14, 13, 12, 11, 10, 6, 5, 4, 3, 2, 1, 0] rfl rfl rfl rfl rfl rfl rfl (does_call Try.call36 rfl (begin_ok _ _ _ n c L hW.ex hn9 hm _ (by omega) (by omega))) ?_
          rintro _ _ ⟨rfl, rfl⟩
          refine ⟨?_, ?_⟩
          · first | refine .cons rfl rfl rfl rfl rfl (q_add rfl rfl (w_i64 (by omega) (by omega))) ?_ | refine .cons rfl rfl rfl rfl rfl (q_addw rfl rfl) ?_
            refine .cons rfl rfl rfl rfl rfl (q_move rfl) ?_
            refine .cons rfl rfl rfl rfl rfl (q_loadc Try.isAgg38 rfl (core_cell hr8.ex hk (by omega))) ?_
            refine .cons rfl rfl rfl rfl rfl (q_ixs Try.underlying23 Try.sizeOf38 rfl rfl (by omega) (by omega)) ?_
            refine .cons rfl rfl rfl rfl rfl (q_move rfl) ?_
            refine .cons rfl rfl rfl rfl rfl (q_ld Try.isAgg23 rfl rfl) ?_
            refine .cons rfl rfl rfl rfl rfl (q_fieldAddr fa_27_4 rfl) ?_
            refine .cons rfl rfl rfl rfl rfl (q_ixs Try.underlying23 Try.sizeOf38 rfl rfl (by omega) (by omega)) ?_
            refine .cons rfl rfl rfl rfl rfl (q_move rfl) ?_
            refine .cons rfl rfl rfl rfl rfl (q_ld Try.isAgg23 rfl rfl) ?_
            refine .cons rfl rfl rfl rfl rfl (q_fieldAddr fa_27_4 rfl) ?_
            refine .cons rfl rfl rfl rfl rfl (q_move rfl) ?_
            refine .cons rfl rfl rfl rfl rfl (q_move rfl) ?_
            refine .cons rfl rfl rfl rfl rfl (q_move rfl) ?_
            exact .nil
          refine gp_effa 17 [14, 16] [15, 13, 12, 11, 10, 6, 5, 4, 3, 2, 1, 0] rfl rfl rfl rfl rfl rfl rfl (does_call Try.call36 rfl (begin_ok _ _ _ n c L hW.ex hn9 hm _ (by omega) (by omega))) ?_
          rintro _ _ ⟨rfl, rfl⟩
          refine ⟨?_, ?_⟩
          · refine .cons rfl rfl rfl rfl rfl (q_move rfl) ?_
            refine .cons rfl rfl rfl rfl rfl (q_ixs Try.underlying23 Try.sizeOf38 rfl rfl (by omega) (by omega)) ?_
            refine .cons rfl rfl rfl rfl rfl (q_move rfl) ?_
            refine .cons rfl rfl rfl rfl rfl (q_ld Try.isAgg23 rfl rfl) ?_
            refine .cons rfl rfl rfl rfl rfl (q_fieldAddr fa_27_4 rfl) ?_
            refine .cons rfl rfl rfl rfl rfl (q_ixs Try.underlying23 Try.sizeOf38 rfl rfl (by omega) (by omega)) ?_
            refine .cons rfl rfl rfl rfl rfl (q_move rfl) ?_
            refine .cons rfl rfl rfl rfl rfl (q_ld Try.isAgg23 rfl rfl) ?_
            refine .cons rfl rfl rfl rfl rfl (q_fieldAddr fa_27_4 rfl) ?_
            refine .cons rfl rfl rfl rfl rfl (q_move rfl) ?_
            refine .cons rfl rfl rfl rfl rfl (q_move rfl) ?_
            refine .cons rfl rfl rfl rfl rfl (q_move rfl) ?_
            exact .nil
          refine gp_quiet 18 rfl rfl rfl rfl rfl rfl (q_build rfl (fun w => bd_52_0_1_2_3 _ _ _ _ w)) ?_
          refine gp_effa 19 [18] [15, 13, 12, 11, 10, 6, 5, 4, 3, 2, 1, 0] rfl rfl rfl rfl rfl rfl rfl (does_buildSlice Try.underlying45 Try.sizeOf52 Try.zeroValue52 rfl rfl rfl rfl rfl rfl) ?_
          rintro _ _ ⟨b63, rfl, rfl⟩
          refine ⟨?_, ?_⟩
          · refine .cons rfl rfl rfl rfl rfl (q_move rfl) ?_
            refine .cons rfl rfl rfl rfl rfl (q_ixs Try.underlying23 Try.sizeOf38 rfl rfl (by omega) (by omega)) ?_
            refine .cons rfl rfl rfl rfl rfl (q_move rfl) ?_
            refine .cons rfl rfl rfl rfl rfl (q_ld Try.isAgg23 rfl rfl) ?_
            refine .cons rfl rfl rfl rfl rfl (q_fieldAddr fa_27_4 rfl) ?_
            refine .cons rfl rfl rfl rfl rfl (q_ixs Try.underlying23 Try.sizeOf38 rfl rfl (by omega) (by omega)) ?_
            refine .cons rfl rfl rfl rfl rfl (q_move rfl) ?_
            refine .cons rfl rfl rfl rfl rfl (q_ld Try.isAgg23 rfl rfl) ?_
            refine .cons rfl rfl rfl rfl rfl (q_fieldAddr fa_27_4 rfl) ?_
            refine .cons rfl rfl rfl rfl rfl (q_move rfl) ?_
            refine .cons rfl rfl rfl rfl rfl (q_move rfl) ?_
            refine .cons rfl rfl rfl rfl rfl (q_move rfl) ?_
            exact .nil
          refine gp_effa 20 [0] [15, 13, 12, 11, 10, 6, 5, 4, 3, 2, 1] rfl rfl rfl rfl rfl rfl rfl (does_append 1 (sz := 4) (by_ := 32) (m2 := 1) (news := spanRow (k, i, bg L i.toNat, bg L (i + 1).toNat)) Try.underlying45 Try.type52 rfl rfl rfl rfl rfl rfl rfl rfl ⟨rfl, .inl ⟨_, _, _, rfl, .own (mem_getO 0 rfl)⟩⟩ rfl (by omega) (by simp only [maxLen]; omega) (fun _ => rfl)) ?_
          rintro v64 _ ⟨hv64, rfl⟩
          refine ⟨?_, ?_⟩
          · refine .cons rfl rfl rfl rfl rfl (q_move rfl) ?_
            refine .cons rfl rfl rfl rfl rfl (q_ixs Try.underlying23 Try.sizeOf38 rfl rfl (by omega) (by omega)) ?_
            refine .cons rfl rfl rfl rfl rfl (q_move rfl) ?_
            refine .cons rfl rfl rfl rfl rfl (q_ld Try.isAgg23 rfl rfl) ?_
            refine .cons rfl rfl rfl rfl rfl (q_fieldAddr fa_27_4 rfl) ?_
            refine .cons rfl rfl rfl rfl rfl (q_ixs Try.underlying23 Try.sizeOf38 rfl rfl (by omega) (by omega)) ?_
            refine .cons rfl rfl rfl rfl rfl (q_move rfl) ?_
            refine .cons rfl rfl rfl rfl rfl (q_ld Try.isAgg23 rfl rfl) ?_
            refine .cons rfl rfl rfl rfl rfl (q_fieldAddr fa_27_4 rfl) ?_
            refine .cons rfl rfl rfl rfl rfl (q_move rfl) ?_
            refine .cons rfl rfl rfl rfl rfl (q_move rfl) ?_
            exact .nil
          refine gp_after 21 rfl rfl rfl rfl rfl rfl rfl rfl (q_assign rfl) ?_
          refine gp_end rfl rfl ?_
          refine g_inBlock ?_
          refine g_region ?_
          refine l_move rfl rfl ?_
          first | refine l_add rfl rfl rfl (w_i64 (by omega) (by omega)) ?_ | refine l_addw rfl rfl rfl ?_
          refine l_assign rfl rfl ?_
          refine l_nil ?_
          (first | (rw [spI_no hk hbr, show i.toNat + 1 = (i + 1).toNat by omega]; exact g_againi (ihi (i + 1, v) ⟨by simp only; omega, by simp only; omega⟩ (by simp only; omega)) (.cons rfl (.cons rfl (.cons rfl (.cons rfl (.cons rfl (.cons rfl (.cons rfl (.cons rfl (.cons rfl (.cons rfl (.cons rfl (.cons rfl (.nil)))))))))))))) | (have hy := spI_yes hk hbr; rw [Int.toNat_of_nonneg k0, Int.toNat_of_nonneg i0] at hy; rw [show (i + 1).toNat = i.toNat + 1 by omega, show (spI p Ks k.toNat i.toNat).length + 1 = (spI p Ks k.toNat i.toNat ++ [(k, i, bg L i.toNat, bg L (i.toNat + 1))]).length by simp, spRows_snoc, hy, show i.toNat + 1 = (i + 1).toNat by omega]; exact g_againi (ihi (i + 1, v64) ⟨by simp only; omega, by simp only; omega⟩ (by simp only; omega)) (.cons rfl (.cons rfl (.cons rfl (.cons rfl (.cons rfl (.cons rfl (.cons rfl (.cons rfl (.cons rfl (.cons rfl (.cons rfl (.cons rfl (.nil)))))))))))))))
        intro hbr
        have hbr := of_decide_eq_false hbr
        refine g_skip ?_
        refine g_inBlock ?_
        refine g_region ?_
        refine l_move rfl rfl ?_
        first | refine l_add rfl rfl rfl (w_i64 (by omega) (by omega)) ?_ | refine l_addw rfl rfl rfl ?_
        refine l_assign rfl rfl ?_
        refine l_nil ?_
        (first | (rw [spI_no hk hbr, show i.toNat + 1 = (i + 1).toNat by omega]; exact g_againi (ihi (i + 1, v) ⟨by simp only; omega, by simp only; omega⟩ (by simp only; omega)) (.cons rfl (.cons rfl (.cons rfl (.cons rfl (.cons rfl (.cons rfl (.cons rfl (.cons rfl (.cons rfl (.cons rfl (.cons rfl (.cons rfl (.nil)))))))))))))) | (have hy := spI_yes hk hbr; rw [Int.toNat_of_nonneg k0, Int.toNat_of_nonneg i0] at hy; rw [show (i + 1).toNat = i.toNat + 1 by omega, show (spI p Ks k.toNat i.toNat).length + 1 = (spI p Ks k.toNat i.toNat ++ [(k, i, bg L i.toNat, bg L (i.toNat + 1))]).length by simp, spRows_snoc, hy, show i.toNat + 1 = (i + 1).toNat by omega]; exact g_againi (ihi (i + 1, v64) ⟨by simp only; omega, by simp only; omega⟩ (by simp only; omega)) (.cons rfl (.cons rfl (.cons rfl (.cons rfl (.cons rfl (.cons rfl (.cons rfl (.cons rfl (.cons rfl (.cons rfl (.cons rfl (.cons rfl (.nil)))))))))))))))
      intro hbr
      have hbr := of_decide_eq_false hbr
      refine g_exit rfl ?_
      obtain rfl : i = n := by omega
      rw [Int.toNat_natCast, spI_end hk]
      refine g_inBlock ?_
      refine g_region ?_
      refine l_move rfl rfl ?_
      first | refine l_add rfl rfl rfl (w_i64 (by omega) (by omega)) ?_ | refine l_addw rfl rfl rfl ?_
      refine l_assign rfl rfl ?_
      refine l_nil ?_
      rw [show k.toNat + 1 = (k + 1).toNat by omega]
      exact g_againi (ih (k + 1, v) ⟨by simp only; omega, by simp only; omega⟩ (by simp only; omega)) (.cons rfl (.cons rfl (.cons rfl (.cons rfl (.cons rfl (.cons rfl (.nil)))))))
    intro hbr
    have hbr := of_decide_eq_false hbr
    refine g_exit rfl ?_
    obtain rfl : k = cn := by omega
    rw [Int.toNat_natCast]
    refine g_seq ?_
    refine g_region ?_
    refine l_move rfl rfl ?_
    refine l_assign rfl rfl ?_
    refine l_assign rfl rfl ?_
    refine l_nil ?_
    refine g_nilS 52 ?_
    refine g_ret Try.func21 rfl (.tmp rfl (.tmp rfl .nil)) ?_
    (first | exact Gives.mki ⟨_, 0, _, rfl, rfl, fun _ => ⟨⟨by omega, by omega⟩, hyes (nb_f hb15), rfl⟩, (fun h => absurd rfl h), fun h => absurd rfl h⟩ | exact Gives.mki ⟨.slice none 0 0, _, [], rfl, rfl, (fun h => absurd h (by decide)), (fun _ => .inl ⟨rfl, fun h => by omega⟩), fun _ => rfl⟩ | exact Gives.mki ⟨.slice none 0 0, _, [], rfl, rfl, (fun h => absurd h (by decide)), (fun _ => .inr ⟨rfl, ⟨by omega, by omega⟩, hno (nb_t hb15)⟩), fun _ => rfl⟩)
  intro hbr
  have hbr := of_decide_eq_false hbr
  refine l_guard_no rfl rfl rfl ?_
  refine l_guard_no rfl rfl rfl ?_
  refine l_guard_no rfl rfl rfl ?_
  refine l_guard_no rfl rfl rfl ?_
  refine l_guard_no rfl rfl rfl ?_
  refine l_pick_f rfl rfl rfl ?_
  refine l_assign rfl rfl ?_
  refine l_nil ?_
  refine g_ret Try.func40 rfl (.tmp rfl .nil) ?_
  first | refine ⟨.bool _, rfl, ?_⟩ | refine ⟨_, rfl, ?_⟩
  refine l_not rfl rfl ?_
  refine l_nil ?_
  first | refine g_cond_t rfl ?_ | refine g_cond_t (congrArg (fun b => some (Value.bool b)) (decide_eq_true hbr)) ?_
  refine g_seq ?_
  refine g_region ?_
  refine l_assign rfl rfl ?_
  refine l_assign rfl rfl ?_
  refine l_nil ?_
  refine g_nilS 52 ?_
  refine g_ret Try.func21 rfl (.tmp rfl (.tmp rfl .nil)) ?_
  (first | exact Gives.mki ⟨_, 0, _, rfl, rfl, fun _ => ⟨⟨by omega, by omega⟩, hyes (nb_f hb15), rfl⟩, (fun h => absurd rfl h), fun h => absurd rfl h⟩ | exact Gives.mki ⟨.slice none 0 0, _, [], rfl, rfl, (fun h => absurd h (by decide)), (fun _ => .inl ⟨rfl, fun h => by omega⟩), fun _ => rfl⟩ | exact Gives.mki ⟨.slice none 0 0, _, [], rfl, rfl, (fun h => absurd h (by decide)), (fun _ => .inr ⟨rfl, ⟨by omega, by omega⟩, hno (nb_t hb15)⟩), fun _ => rfl⟩)
end Go.Proofs.Ytfccfjgnoeocnaa.Fw
