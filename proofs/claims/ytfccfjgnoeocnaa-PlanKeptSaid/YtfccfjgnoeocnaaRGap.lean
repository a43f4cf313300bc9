import Derived.Test.YtfccfjgnoeocnaaGap
import Derived.Test.YtfccfjgnoeocnaaRSpans
namespace Go.Proofs.Ytfccfjgnoeocnaa.Fw
open Go Go.Proofs
set_option linter.unusedVariables false
set_option linter.unusedSimpArgs false
set_option maxRecDepth 10000

theorem rgap_any (w0 : World) (F : List Atom) (fr mj kr rm : Int) (ca pa ha : Option Addr) (cn cc pn pc hn hc : Nat) (Ks : List CoreR) (hCR : CR w0 F ca cn Ks) (hcn : cn ≤ 9223372036854775807) (hpn : pn ≤ 9223372036854775807) (hmj : I64 mj) (p : Int) (p0 : -9223372036854775808 ≤ p) (p1 : p ≤ 9223372036854775807) (hcn2 : cn ≤ 2147483647) :
    CallK Try.prog 30 [.agg [Value.int .i64 fr, .int .i64 mj, .int .i64 kr, .int .i64 rm, .slice ca cn cc, .slice pa pn pc, .slice ha hn hc].toArray, .int .i64 p] w0 (F) (Gives w0 fun v F2 => ∃ x e, v = .tuple #[.int .i64 x, .int .i64 e] ∧ F2 = F ∧ GapSays Ks cn pn mj p x e) := by
  have hCl := hCR.1
  unfold I64 at hmj
  refine c_enter Try.func30 rfl rfl rfl ?_
  refine g_seq ?_
  refine g_region ?_
  refine l_boxs rfl rfl ?_; intro b2
  refine l_assign rfl rfl ?_
  refine l_assign rfl rfl ?_
  refine l_nil ?_
  refine g_seq ?_
  refine g_region ?_
  refine l_lds rfl Try.isAgg27 Try.sizeOf27 rfl rfl ?_
  refine l_move rfl rfl ?_
  refine l_call rfl Try.call44 rfl (rusable_any _ _ fr mj kr rm ca pa ha cn cc pn pc hn hc Ks hCR.ex hcn hpn hmj p p0 p1 hcn2) ?_; rintro _ _ ⟨x, e, rfl, rfl, hgo, hno⟩
  refine l_move rfl rfl ?_
  refine l_extract rfl rfl rfl ?_
  refine l_extract rfl rfl rfl ?_
  refine l_assign rfl rfl ?_
  refine l_assign rfl rfl ?_
  refine l_nil ?_
  refine g_seq ?_
  refine g_seq ?_
  refine g_region ?_
  refine l_move rfl rfl ?_
  refine l_neq rfl rfl rfl ?_
  refine l_nil ?_
  refine g_cond rfl ?_ ?_
  · intro hbr
    have hbr := of_decide_eq_true hbr
    refine g_seq ?_
    refine g_region ?_
    refine l_move rfl rfl ?_
    refine l_assign rfl rfl ?_
    refine l_assign rfl rfl ?_
    refine l_nil ?_
    refine g_ret Try.func30 rfl (.tmp rfl (.tmp rfl .nil)) ?_
    (first | exact Gives.mki ⟨_, 0, rfl, rfl, fun _ => ⟨hgi, hfu, .inl ⟨by rw [hgl]; omega, rfl⟩⟩, fun h => absurd rfl h⟩ | exact Gives.mki ⟨_, 0, rfl, rfl, fun _ => ⟨hgi, hfu, .inr ⟨by rw [hgl]; omega, by rw [hgl]; exact hsc, by rw [hgl]; simp only [gapOf]; omega⟩⟩, fun h => absurd rfl h⟩ | exact Gives.mki ⟨0, 1, rfl, rfl, (fun h => absurd h (by decide)), fun _ => ⟨rfl, .inr ⟨rfl, hgi, .inr ⟨hfu, by rw [hgl]; omega, by rw [hgl]; exact fun h => hbr (h i.toNat (by omega))⟩⟩⟩⟩ | exact Gives.mki ⟨0, e, rfl, rfl, fun h => absurd h hbr, fun h => ⟨rfl, ((hno h).2).imp id fun h => ⟨h.1, h.2.1, .inl h.2.2⟩⟩⟩)
  intro hbr
  have hbr := of_decide_eq_false hbr
  refine g_skip ?_
  refine g_seq ?_
  refine g_region ?_
  refine l_lds rfl Try.isAgg27 Try.sizeOf27 rfl rfl ?_
  refine l_move rfl rfl ?_
  refine l_call rfl Try.call21 rfl (rspans_any _ _ fr mj kr rm ca pa ha cn cc pn pc hn hc Ks hCR.ex hcn hpn hmj p p0 p1 hcn2) ?_; rintro _ _ ⟨u, e2, l, rfl, rfl, hgo2, hno2, _⟩
  obtain ⟨hgi, hfu, _⟩ := hgo (Classical.not_not.1 hbr)
  obtain rfl : e2 = 0 := Classical.byContradiction fun h => (hno2 h).elim (fun h => h.2 hgi) (fun h => h.2.2 hfu.1)
  obtain ⟨_, _, hgl⟩ := hgo2 rfl
  refine l_move rfl rfl ?_
  refine l_extract rfl rfl rfl ?_
  refine l_extract rfl rfl rfl ?_
  refine l_assign rfl rfl ?_
  refine l_assign rfl rfl ?_
  refine l_nil ?_
  refine g_seq ?_
  refine g_seq ?_
  refine g_region ?_
  have hbd := fun j (hj : j < l.length) => sp_bd hCR hgl hfu hj
  have hfb := full_bd hfu
  have hlen : l.length ≤ 16 * cn := by rw [← hgl]; exact spC_len hCR cn (Nat.le_refl _) hfu.1
  refine l_fact (own_slice (mem_getO 0 rfl)) ?_
  rintro ⟨au, cu, rfl, hau⟩
  refine l_move rfl rfl ?_
  refine l_len rfl Try.underlying45 rfl ?_
  refine l_eql rfl rfl rfl ?_
  refine l_nil ?_
  refine g_cond rfl ?_ ?_
  · intro hbr
    have hbr := of_decide_eq_true hbr
    refine g_seq ?_
    refine g_region ?_
    refine l_fieldAddr rfl fa_27_1 rfl ?_
    first | refine l_ld rfl Try.isAgg3 rfl rfl ?_ | refine l_ldw rfl Try.isAgg3 rfl (by omega) ?_
    refine l_assign rfl rfl ?_
    refine l_assign rfl rfl ?_
    refine l_nil ?_
    refine g_ret Try.func30 rfl (.tmp rfl (.tmp rfl .nil)) ?_
    (first | exact Gives.mki ⟨_, 0, rfl, rfl, fun _ => ⟨hgi, hfu, .inl ⟨by rw [hgl]; omega, rfl⟩⟩, fun h => absurd rfl h⟩ | exact Gives.mki ⟨_, 0, rfl, rfl, fun _ => ⟨hgi, hfu, .inr ⟨by rw [hgl]; omega, by rw [hgl]; exact hsc, by rw [hgl]; simp only [gapOf]; omega⟩⟩, fun h => absurd rfl h⟩ | exact Gives.mki ⟨0, 1, rfl, rfl, (fun h => absurd h (by decide)), fun _ => ⟨rfl, .inr ⟨rfl, hgi, .inr ⟨hfu, by rw [hgl]; omega, by rw [hgl]; exact fun h => hbr (h i.toNat (by omega))⟩⟩⟩⟩ | exact Gives.mki ⟨0, e, rfl, rfl, fun h => absurd h hbr, fun h => ⟨rfl, ((hno h).2).imp id fun h => ⟨h.1, h.2.1, .inl h.2.2⟩⟩⟩)
  intro hbr
  have hbr := of_decide_eq_false hbr
  refine g_skip ?_
  refine g_seq ?_
  refine gp_start mo (by kernel_rfl) (by kernel_rfl) ?_
  refine gp_quiet 0 rfl rfl rfl rfl rfl rfl (q_move rfl) ?_
  obtain ⟨g5, rfl⟩ := hau.resolve_left (by omega)
  have hb0 := hbd 0 (by omega)
  have hbl := hbd (l.length - 1) (by omega)
  refine gp_quiet 1 rfl rfl rfl rfl rfl rfl (q_ixs Try.underlying45 Try.sizeOf52 rfl rfl (by omega) (by omega)) ?_
  refine gp_quiet 2 rfl rfl rfl rfl rfl rfl (q_fieldAddr fa_52_2 rfl) ?_
  refine gp_quiet 3 rfl rfl rfl rfl rfl rfl (q_loadc Try.isAgg3 rfl (v := .int .i64 (frm l 0)) (sp_cell (l := l) (j := 0) (by omega) 2 rfl)) ?_
  refine gp_quiet 4 rfl rfl rfl rfl rfl rfl (q_fieldAddr fa_27_1 rfl) ?_
  first | refine gp_quiet 5 rfl rfl rfl rfl rfl rfl (q_ld Try.isAgg3 rfl rfl) ?_ | refine gp_quiet 5 rfl rfl rfl rfl rfl rfl (q_ldw Try.isAgg3 rfl (by omega)) ?_
  first | refine gp_quiet 6 rfl rfl rfl rfl rfl rfl (q_add rfl rfl (w_i64 (by omega) (by omega))) ?_ | refine gp_quiet 6 rfl rfl rfl rfl rfl rfl (q_addw rfl rfl) ?_
  refine gp_quiet 7 rfl rfl rfl rfl rfl rfl (q_move rfl) ?_
  refine gp_quiet 8 rfl rfl rfl rfl rfl rfl (q_move rfl) ?_
  refine gp_quiet 9 rfl rfl rfl rfl rfl rfl (q_len Try.underlying45 rfl) ?_
  first | refine gp_quiet 10 rfl rfl rfl rfl rfl rfl (q_sub_ rfl rfl (w_i64 (by omega) (by omega))) ?_ | refine gp_quiet 10 rfl rfl rfl rfl rfl rfl (q_subw rfl rfl) ?_
  refine gp_quiet 11 rfl rfl rfl rfl rfl rfl (q_ixs Try.underlying45 Try.sizeOf52 rfl rfl (by omega) (by omega)) ?_
  refine gp_quiet 12 rfl rfl rfl rfl rfl rfl (q_fieldAddr fa_52_3 rfl) ?_
  refine gp_quiet 13 rfl rfl rfl rfl rfl rfl (q_loadc Try.isAgg3 rfl (v := .int .i64 (tov l (l.length - 1))) (by rw [show ((l.length : Int) - 1).toNat = l.length - 1 by omega]; exact sp_cell (l := l) (by omega) 3 rfl)) ?_
  first | refine gp_quiet 14 rfl rfl rfl rfl rfl rfl (q_sub_ rfl rfl (w_i64 (by omega) (by omega))) ?_ | refine gp_quiet 14 rfl rfl rfl rfl rfl rfl (q_subw rfl rfl) ?_
  refine gp_quiet 15 rfl rfl rfl rfl rfl rfl (q_assign rfl) ?_
  refine gp_end rfl rfl ?_
  refine g_seq ?_
  refine g_seq ?_
  refine g_region ?_
  refine l_assign rfl rfl ?_
  refine l_nil ?_
  refine g_block ?_
  have hgw := gw_start hbd (by omega)
  refine g_loopc (X := Int) [(8, _)] (.cons rfl (.nil)) (fun i => 0 ≤ i ∧ i ≤ l.length ∧ SameC l i.toNat) (fun i => (l.length - i).toNat) (fun i => [(10, .int .i64 (max (gapW l mj) (gm l (i.toNat - 1)))), (11, .int .i64 i)]) (0) (⟨by omega, by omega, fun j hj => by simp at hj⟩) (.cons (by rw [show (0 : Int).toNat - 1 = 0 - 1 from rfl, ← hgw]; rfl) (.cons rfl .nil)) ?_
  rintro i ⟨i0, i1, hsc⟩ ih
  dsimp only [List.cons_append, List.nil_append] at ih ⊢
  have hg1 : i.toNat ≠ 0 → gm l i.toNat = max (gm l (i.toNat - 1)) (frm l i.toNat - tov l (i.toNat - 1)) := fun h => by
    obtain ⟨m, hm⟩ : ∃ m, i.toNat = m + 1 := ⟨i.toNat - 1, by omega⟩
    rw [hm]; rfl
  have hg0 : i.toNat = 0 → gm l (i.toNat - 1) = gm l i.toNat := fun h => by rw [h]
  refine g_seq ?_
  refine g_seq ?_
  refine g_region ?_
  refine l_move rfl rfl ?_
  refine l_move rfl rfl ?_
  refine l_len rfl Try.underlying45 rfl ?_
  refine l_lss rfl rfl rfl ?_
  refine l_nil ?_
  refine g_cond rfl ?_ ?_
  · intro hbr
    have hbr := of_decide_eq_true hbr
    refine g_skip ?_
    refine g_seq ?_
    refine g_block ?_
    refine g_seq ?_
    refine g_seq ?_
    refine gp_start mo (by kernel_rfl) (by kernel_rfl) ?_
    refine gp_quiet 0 rfl rfl rfl rfl rfl rfl (q_move rfl) ?_
    refine gp_quiet 1 rfl rfl rfl rfl rfl rfl (q_move rfl) ?_
    have hbi := hbd i.toNat (by omega)
    have hbp := hbd (i.toNat - 1) (by omega)
    refine gp_quiet 2 rfl rfl rfl rfl rfl rfl (q_ixs Try.underlying45 Try.sizeOf52 rfl rfl (by omega) (by omega)) ?_
    refine gp_quiet 3 rfl rfl rfl rfl rfl rfl (q_fieldAddr fa_52_0 rfl) ?_
    refine gp_quiet 4 rfl rfl rfl rfl rfl rfl (q_loadc Try.isAgg3 rfl (v := .int .i64 ((sat l i.toNat).1)) (sp_cell (l := l) (j := i.toNat) (by omega) 0 rfl)) ?_
    refine gp_quiet 5 rfl rfl rfl rfl rfl rfl (q_move rfl) ?_
    refine gp_quiet 6 rfl rfl rfl rfl rfl rfl (q_ixs Try.underlying45 Try.sizeOf52 rfl rfl (by omega) (by omega)) ?_
    refine gp_quiet 7 rfl rfl rfl rfl rfl rfl (q_fieldAddr fa_52_0 rfl) ?_
    refine gp_quiet 8 rfl rfl rfl rfl rfl rfl (q_loadc Try.isAgg3 rfl (v := .int .i64 ((sat l 0).1)) (sp_cell (l := l) (j := 0) (by omega) 0 rfl)) ?_
    refine gp_quiet 9 rfl rfl rfl rfl rfl rfl (q_neq rfl rfl) ?_
    refine gp_end rfl rfl ?_
    refine g_cond rfl ?_ ?_
    · intro hbr
      have hbr := of_decide_eq_true hbr
      refine g_seq ?_
      refine g_region ?_
      refine l_assign rfl rfl ?_
      refine l_assign rfl rfl ?_
      refine l_nil ?_
      refine g_ret Try.func30 rfl (.tmp rfl (.tmp rfl .nil)) ?_
      (first | exact Gives.mki ⟨_, 0, rfl, rfl, fun _ => ⟨hgi, hfu, .inl ⟨by rw [hgl]; omega, rfl⟩⟩, fun h => absurd rfl h⟩ | exact Gives.mki ⟨_, 0, rfl, rfl, fun _ => ⟨hgi, hfu, .inr ⟨by rw [hgl]; omega, by rw [hgl]; exact hsc, by rw [hgl]; simp only [gapOf]; omega⟩⟩, fun h => absurd rfl h⟩ | exact Gives.mki ⟨0, 1, rfl, rfl, (fun h => absurd h (by decide)), fun _ => ⟨rfl, .inr ⟨rfl, hgi, .inr ⟨hfu, by rw [hgl]; omega, by rw [hgl]; exact fun h => hbr (h i.toNat (by omega))⟩⟩⟩⟩ | exact Gives.mki ⟨0, e, rfl, rfl, fun h => absurd h hbr, fun h => ⟨rfl, ((hno h).2).imp id fun h => ⟨h.1, h.2.1, .inl h.2.2⟩⟩⟩)
    intro hbr
    have hbr := of_decide_eq_false hbr
    refine g_skip ?_
    refine g_seq ?_
    refine gp_start mo (by kernel_rfl) (by kernel_rfl) ?_
    have hb9 := Classical.not_not.1 hbr
    refine gp_quiet 0 rfl rfl rfl rfl rfl rfl (q_move rfl) ?_
    refine gp_quiet 1 rfl rfl rfl rfl rfl rfl (q_gtr rfl rfl) ?_
    refine gp_quiet 2 rfl rfl rfl rfl rfl rfl (q_move rfl) ?_
    refine gp_split 65 rfl ?_ ?_
    · intro hbr
      have hg65 := hbr
      have hbr := of_decide_eq_true hbr
      refine gp_quietg 3 rfl rfl rfl rfl rfl rfl (.yes rfl rfl (q_move rfl)) ?_
      refine gp_quietg 4 rfl rfl rfl rfl rfl rfl (.yes rfl rfl (q_move rfl)) ?_
      refine gp_quietg 5 rfl rfl rfl rfl rfl rfl (.yes rfl rfl (q_ixs Try.underlying45 Try.sizeOf52 rfl rfl (by omega) (by omega))) ?_
      refine gp_quietg 6 rfl rfl rfl rfl rfl rfl (.yes rfl rfl (q_fieldAddr fa_52_2 rfl)) ?_
      refine gp_quietg 7 rfl rfl rfl rfl rfl rfl (.yes rfl rfl (q_loadc Try.isAgg3 rfl (v := .int .i64 (frm l i.toNat)) (sp_cell (l := l) (j := i.toNat) (by omega) 2 rfl))) ?_
      refine gp_quietg 8 rfl rfl rfl rfl rfl rfl (.yes rfl rfl (q_move rfl)) ?_
      refine gp_quietg 9 rfl rfl rfl rfl rfl rfl (.yes rfl rfl (q_move rfl)) ?_
      first | refine gp_quietg 10 rfl rfl rfl rfl rfl rfl (.yes rfl rfl (q_sub_ rfl rfl (w_i64 (by omega) (by omega)))) ?_ | refine gp_quietg 10 rfl rfl rfl rfl rfl rfl (.yes rfl rfl (q_subw rfl rfl)) ?_
      refine gp_quietg 11 rfl rfl rfl rfl rfl rfl (.yes rfl rfl (q_ixs Try.underlying45 Try.sizeOf52 rfl rfl (by omega) (by omega))) ?_
      refine gp_quietg 12 rfl rfl rfl rfl rfl rfl (.yes rfl rfl (q_fieldAddr fa_52_3 rfl)) ?_
      refine gp_quietg 13 rfl rfl rfl rfl rfl rfl (.yes rfl rfl (q_loadc Try.isAgg3 rfl (v := .int .i64 (tov l (i.toNat - 1))) (by rw [show (i - 1).toNat = i.toNat - 1 by omega]; exact sp_cell (l := l) (by omega) 3 rfl))) ?_
      first | refine gp_quietg 14 rfl rfl rfl rfl rfl rfl (.yes rfl rfl (q_sub_ rfl rfl (w_i64 (by omega) (by omega)))) ?_ | refine gp_quietg 14 rfl rfl rfl rfl rfl rfl (.yes rfl rfl (q_subw rfl rfl)) ?_
      refine gp_quietg 15 rfl rfl rfl rfl rfl rfl (.yes rfl rfl (q_move rfl)) ?_
      refine gp_quietg 16 rfl rfl rfl rfl rfl rfl (.yes rfl rfl (q_gtr rfl rfl)) ?_
      refine gp_quiet 17 rfl rfl rfl rfl rfl rfl (q_pick_t rfl rfl) ?_
      refine gp_end rfl rfl ?_
      refine g_cond rfl ?_ ?_
      · intro hbr
        have hbr := of_decide_eq_true hbr
        refine gp_start mo (by kernel_rfl) (by kernel_rfl) ?_
        refine gp_quiet 0 rfl rfl rfl rfl rfl rfl (q_move rfl) ?_
        refine gp_quiet 1 rfl rfl rfl rfl rfl rfl (q_move rfl) ?_
        refine gp_quiet 2 rfl rfl rfl rfl rfl rfl (q_ixs Try.underlying45 Try.sizeOf52 rfl rfl (by omega) (by omega)) ?_
        refine gp_quiet 3 rfl rfl rfl rfl rfl rfl (q_fieldAddr fa_52_2 rfl) ?_
        refine gp_quiet 4 rfl rfl rfl rfl rfl rfl (q_loadc Try.isAgg3 rfl (v := .int .i64 (frm l i.toNat)) (sp_cell (l := l) (j := i.toNat) (by omega) 2 rfl)) ?_
        refine gp_quiet 5 rfl rfl rfl rfl rfl rfl (q_move rfl) ?_
        refine gp_quiet 6 rfl rfl rfl rfl rfl rfl (q_move rfl) ?_
        first | refine gp_quiet 7 rfl rfl rfl rfl rfl rfl (q_sub_ rfl rfl (w_i64 (by omega) (by omega))) ?_ | refine gp_quiet 7 rfl rfl rfl rfl rfl rfl (q_subw rfl rfl) ?_
        refine gp_quiet 8 rfl rfl rfl rfl rfl rfl (q_ixs Try.underlying45 Try.sizeOf52 rfl rfl (by omega) (by omega)) ?_
        refine gp_quiet 9 rfl rfl rfl rfl rfl rfl (q_fieldAddr fa_52_3 rfl) ?_
        refine gp_quiet 10 rfl rfl rfl rfl rfl rfl (q_loadc Try.isAgg3 rfl (v := .int .i64 (tov l (i.toNat - 1))) (by rw [show (i - 1).toNat = i.toNat - 1 by omega]; exact sp_cell (l := l) (by omega) 3 rfl)) ?_
        first | refine gp_quiet 11 rfl rfl rfl rfl rfl rfl (q_sub_ rfl rfl (w_i64 (by omega) (by omega))) ?_ | refine gp_quiet 11 rfl rfl rfl rfl rfl rfl (q_subw rfl rfl) ?_
        refine gp_quiet 12 rfl rfl rfl rfl rfl rfl (q_assign rfl) ?_
        refine gp_end rfl rfl ?_
        refine g_inBlock ?_
        refine g_region ?_
        refine l_move rfl rfl ?_
        first | refine l_add rfl rfl rfl (w_i64 (by omega) (by omega)) ?_ | refine l_addw rfl rfl rfl ?_
        refine l_assign rfl rfl ?_
        refine l_nil ?_
        have hnx : ((i + 1).toNat - 1) = i.toNat := by omega
        (first | rw [show max (gapW l mj) (gm l (i.toNat - 1)) = max (gapW l mj) (gm l ((i + 1).toNat - 1)) by rw [hnx]; omega] | rw [show frm l i.toNat - tov l (i.toNat - 1) = max (gapW l mj) (gm l ((i + 1).toNat - 1)) by rw [hnx]; omega])
        exact g_againi (ih (i + 1) ⟨by omega, by omega, by rw [show (i + 1).toNat = i.toNat + 1 by omega]; exact same_next hsc hb9⟩ (by omega)) (.cons rfl (.cons rfl (.cons rfl (.nil))))
      intro hbr
      have hbr := of_decide_eq_false hbr
      refine g_skip ?_
      refine g_inBlock ?_
      refine g_region ?_
      refine l_move rfl rfl ?_
      first | refine l_add rfl rfl rfl (w_i64 (by omega) (by omega)) ?_ | refine l_addw rfl rfl rfl ?_
      refine l_assign rfl rfl ?_
      refine l_nil ?_
      have hnx : ((i + 1).toNat - 1) = i.toNat := by omega
      (first | rw [show max (gapW l mj) (gm l (i.toNat - 1)) = max (gapW l mj) (gm l ((i + 1).toNat - 1)) by rw [hnx]; omega] | rw [show frm l i.toNat - tov l (i.toNat - 1) = max (gapW l mj) (gm l ((i + 1).toNat - 1)) by rw [hnx]; omega])
      exact g_againi (ih (i + 1) ⟨by omega, by omega, by rw [show (i + 1).toNat = i.toNat + 1 by omega]; exact same_next hsc hb9⟩ (by omega)) (.cons rfl (.cons rfl (.cons rfl (.nil))))
    intro hbr
    have hg65 := hbr
    have hbr := of_decide_eq_false hbr
    refine gp_quietg 3 rfl rfl rfl rfl rfl rfl (.no rfl rfl) ?_
    refine gp_quietg 4 rfl rfl rfl rfl rfl rfl (.no rfl rfl) ?_
    refine gp_quietg 5 rfl rfl rfl rfl rfl rfl (.no rfl rfl) ?_
    refine gp_quietg 6 rfl rfl rfl rfl rfl rfl (.no rfl rfl) ?_
    refine gp_quietg 7 rfl rfl rfl rfl rfl rfl (.no rfl rfl) ?_
    refine gp_quietg 8 rfl rfl rfl rfl rfl rfl (.no rfl rfl) ?_
    refine gp_quietg 9 rfl rfl rfl rfl rfl rfl (.no rfl rfl) ?_
    refine gp_quietg 10 rfl rfl rfl rfl rfl rfl (.no rfl rfl) ?_
    refine gp_quietg 11 rfl rfl rfl rfl rfl rfl (.no rfl rfl) ?_
    refine gp_quietg 12 rfl rfl rfl rfl rfl rfl (.no rfl rfl) ?_
    refine gp_quietg 13 rfl rfl rfl rfl rfl rfl (.no rfl rfl) ?_
    refine gp_quietg 14 rfl rfl rfl rfl rfl rfl (.no rfl rfl) ?_
    refine gp_quietg 15 rfl rfl rfl rfl rfl rfl (.no rfl rfl) ?_
    refine gp_quietg 16 rfl rfl rfl rfl rfl rfl (.no rfl rfl) ?_
    refine gp_quiet 17 rfl rfl rfl rfl rfl rfl (q_pick_f rfl rfl) ?_
    refine gp_end rfl rfl ?_
    first | refine g_cond_f rfl ?_ | refine g_cond_f (congrArg (fun b => some (Value.bool b)) (decide_eq_false hbr)) ?_
    refine g_skip ?_
    refine g_inBlock ?_
    refine g_region ?_
    refine l_move rfl rfl ?_
    first | refine l_add rfl rfl rfl (w_i64 (by omega) (by omega)) ?_ | refine l_addw rfl rfl rfl ?_
    refine l_assign rfl rfl ?_
    refine l_nil ?_
    have hnx : ((i + 1).toNat - 1) = i.toNat := by omega
    (first | rw [show max (gapW l mj) (gm l (i.toNat - 1)) = max (gapW l mj) (gm l ((i + 1).toNat - 1)) by rw [hnx]; omega] | rw [show frm l i.toNat - tov l (i.toNat - 1) = max (gapW l mj) (gm l ((i + 1).toNat - 1)) by rw [hnx]; omega])
    exact g_againi (ih (i + 1) ⟨by omega, by omega, by rw [show (i + 1).toNat = i.toNat + 1 by omega]; exact same_next hsc hb9⟩ (by omega)) (.cons rfl (.cons rfl (.cons rfl (.nil))))
  intro hbr
  have hbr := of_decide_eq_false hbr
  refine g_exit rfl ?_
  obtain rfl : i = l.length := by omega
  rw [Int.toNat_natCast] at hsc ⊢
  refine g_seq ?_
  refine g_region ?_
  refine l_move rfl rfl ?_
  refine l_assign rfl rfl ?_
  refine l_assign rfl rfl ?_
  refine l_nil ?_
  refine g_ret Try.func30 rfl (.tmp rfl (.tmp rfl .nil)) ?_
  (first | exact Gives.mki ⟨_, 0, rfl, rfl, fun _ => ⟨hgi, hfu, .inl ⟨by rw [hgl]; omega, rfl⟩⟩, fun h => absurd rfl h⟩ | exact Gives.mki ⟨_, 0, rfl, rfl, fun _ => ⟨hgi, hfu, .inr ⟨by rw [hgl]; omega, by rw [hgl]; exact hsc, by rw [hgl]; simp only [gapOf]; omega⟩⟩, fun h => absurd rfl h⟩ | exact Gives.mki ⟨0, 1, rfl, rfl, (fun h => absurd h (by decide)), fun _ => ⟨rfl, .inr ⟨rfl, hgi, .inr ⟨hfu, by rw [hgl]; omega, by rw [hgl]; exact fun h => hbr (h i.toNat (by omega))⟩⟩⟩⟩ | exact Gives.mki ⟨0, e, rfl, rfl, fun h => absurd h hbr, fun h => ⟨rfl, ((hno h).2).imp id fun h => ⟨h.1, h.2.1, .inl h.2.2⟩⟩⟩)
end Go.Proofs.Ytfccfjgnoeocnaa.Fw
