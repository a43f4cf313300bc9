import Derived.Test.YtfccfjgnoeocnaaArgs
import Derived.Test.YtfccfjgnoeocnaaFw17
namespace Go.Proofs.Ytfccfjgnoeocnaa.Fw
open Go Go.Proofs
set_option linter.unusedVariables false
set_option linter.unusedSimpArgs false
set_option maxRecDepth 10000

def Fit (cn pn hn : Nat) (Ks : List CoreR) (rows : List (List Value)) : Prop := cn ≤ 140737488351232 ∧ pn ≤ 140737488351232 ∧ hn ≤ 140737488351232 ∧ (∀ K ∈ Ks, K.n ≤ 140737488351232) ∧
  ∀ r ∈ rows, ∃ x0 x1 x2 x3 x4 x5 a6 n6 c6 a7 n7 c7, r = [x0, x1, x2, x3, x4, x5, .slice a6 n6 c6, .slice a7 n7 c7] ∧ n6 ≤ 140737488351232 ∧ n7 ≤ 140737488351232
theorem Fit.core {cn pn hn : Nat} {Ks : List CoreR} {rows : List (List Value)} (h : Fit cn pn hn Ks rows) {i : Nat} {a n c L} (hk : kat Ks i = ⟨a, n, c, L⟩) (hi : i < Ks.length) : n ≤ 140737488351232 := by
  have h1 : Ks[i] = ⟨a, n, c, L⟩ := by rw [← hk]; simp [kat, hi]
  have := h.2.2.2.1 Ks[i] (List.getElem_mem _)
  rwa [h1] at this
theorem Fit.part {w0 : World} {F : List Atom} {pa : Option Addr} {cn pn hn : Nat} {Ks : List CoreR} {rows : List (List Value)} (h : Fit cn pn hn Ks rows) (hp : PR w0 F pa pn rows) {i : Nat} (hi : i < pn) : ∃ x0 x1 x2 x3 x4 x5 a6 n6 c6 a7 n7 c7, rows[i]? = some [x0, x1, x2, x3, x4, x5, .slice a6 n6 c6, .slice a7 n7 c7] ∧ n6 ≤ 140737488351232 ∧ n7 ≤ 140737488351232 := by
  have hl := hp.1
  obtain ⟨x0, x1, x2, x3, x4, x5, a6, n6, c6, a7, n7, c7, hr, h6, h7⟩ := h.2.2.2.2 rows[i] (List.getElem_mem (by omega))
  exact ⟨x0, x1, x2, x3, x4, x5, a6, n6, c6, a7, n7, c7, by rw [List.getElem?_eq_getElem (by omega), hr], h6, h7⟩
theorem viz_core {w : World} {r : List Value} (h : Viz Try.prog w 38 r) : ∃ K : CoreR, r = [coreV K] ∧ CoreOk w [Old w] K ∧ K.n ≤ 140737488351232 := by
  obtain ⟨K, h1, h2⟩ := vis_core h.vis
  obtain ⟨a, n, c, rows, h3, _, _, h4, _⟩ := viz_slice (sz := 3) (by_ := 24) Try.underlying38 (by kernel_rfl) (by kernel_rfl) (by decide) h
  refine ⟨K, h1, h2, ?_⟩
  rw [h1] at h3
  simp only [coreV, List.cons.injEq, Value.slice.injEq, and_true] at h3
  rw [h3.2.1]; omega
theorem viz_part {w : World} {r : List Value} (h : Viz Try.prog w 69 r) : ∃ x0 x1 x2 x3 x4 x5 a6 n6 c6 a7 n7 c7, r = [x0, x1, x2, x3, x4, x5, .slice a6 n6 c6, .slice a7 n7 c7] ∧ n6 ≤ 140737488351232 ∧ n7 ≤ 140737488351232 := by
  obtain ⟨hl, hf⟩ := viz_struct Try.underlying69 h
  have hc : Try.prog.cellsOf 69 = 8 := by kernel_rfl
  have c1 : Try.prog.cellsOf 66 = 1 := by kernel_rfl
  have c2 : Try.prog.cellsOf 67 = 1 := by kernel_rfl
  match r, hl.trans hc with
  | [z0, z1, z2, z3, z4, z5, z6, z7], _ =>
    obtain ⟨a6, n6, c6, _, e6, _, _, w6, _⟩ := viz_slice (sz := 4) (by_ := 32) Try.underlying66 (by kernel_rfl) (by kernel_rfl) (by decide) (hf 6 _ rfl)
    obtain ⟨a7, n7, c7, _, e7, _, _, w7, _⟩ := viz_slice (sz := 2) (by_ := 16) Try.underlying67 (by kernel_rfl) (by kernel_rfl) (by decide) (hf 7 _ rfl)
    simp [c1, c2] at e6 e7
    subst e6 e7
    exact ⟨z0, z1, z2, z3, z4, z5, a6, n6, c6, a7, n7, c7, rfl, by omega, by omega⟩
theorem viz_cfg {w : World} {r : List Value} (h : Viz Try.prog w 27 r) : ∃ fr mj kr rm ca cn cc pa pn pc ha hn hc Ks rows, r = [.int .i64 fr, .int .i64 mj, .int .i64 kr, .int .i64 rm, .slice ca cn cc, .slice pa pn pc, .slice ha hn hc] ∧ I64 mj ∧ CR w [Old w] ca cn Ks ∧ PR w [Old w] pa pn rows ∧ Fit cn pn hn Ks rows := by
  obtain ⟨hl, hf⟩ := viz_struct Try.underlying27 h
  have hc : Try.prog.cellsOf 27 = 7 := by kernel_rfl
  have c0 : Try.prog.cellsOf 3 = 1 := by kernel_rfl
  have c1 : Try.prog.cellsOf 23 = 1 := by kernel_rfl
  have c2 : Try.prog.cellsOf 24 = 1 := by kernel_rfl
  have c3 : Try.prog.cellsOf 25 = 1 := by kernel_rfl
  match r, hl.trans hc with
  | [z0, z1, z2, z3, z4, z5, z6], _ =>
    obtain ⟨fr, e0, _⟩ := vis_int Try.underlying3 (hf 0 _ rfl).vis
    obtain ⟨mj, e1, w1⟩ := vis_int Try.underlying3 (hf 1 _ rfl).vis
    obtain ⟨kr, e2, _⟩ := vis_int Try.underlying3 (hf 2 _ rfl).vis
    obtain ⟨rm, e3, _⟩ := vis_int Try.underlying3 (hf 3 _ rfl).vis
    obtain ⟨ca, cn, cc, crows, e4, _, hc4, hz4, hl4, hr4, hx4⟩ := viz_slice (sz := 1) (by_ := 24) Try.underlying23 (by kernel_rfl) (by kernel_rfl) (by decide) (hf 4 _ rfl)
    obtain ⟨pa, pn, pc, prows, e5, hp5, hc5, hz5, hl5, hr5, hx5⟩ := viz_slice (sz := 8) (by_ := 104) Try.underlying24 (by kernel_rfl) (by kernel_rfl) (by decide) (hf 5 _ rfl)
    obtain ⟨ha, hn, hcc, _, e6, _, _, hz6, _⟩ := viz_slice (sz := 3) (by_ := 24) Try.underlying25 (by kernel_rfl) (by kernel_rfl) (by decide) (hf 6 _ rfl)
    simp [c0, c1, c2, c3] at e0 e1 e2 e3 e4 e5 e6
    subst e0 e1 e2 e3 e4 e5 e6
    obtain ⟨Ks, hKs, hok⟩ := rows_choose (f := fun K => [coreV K]) (R := fun K => CoreOk w [Old w] K ∧ K.n ≤ 140737488351232) (rows := crows) (fun r hr => viz_core (hr4 r hr).2)
    subst hKs
    have hlen : Ks.length = cn := by simpa using hl4
    have hflat : (Ks.map fun K => [coreV K]).flatten = Ks.map coreV := by
      clear hok hlen hl4 hr4 hx4
      induction Ks with
      | nil => rfl
      | cons K Ks ih => simp only [List.map_cons, List.flatten_cons, ih]; rfl
    rw [hflat] at hx4
    simp only [maxLen] at hc4 hc5
    refine ⟨fr, mj, kr, rm, ca, cn, cc, pa, pn, pc, ha, hn, hcc, Ks, prows, rfl, wf_i64 w1, ⟨hlen, fun i hi => ?_, ?_⟩, ⟨hl5, fun r hr => vis_part (hr5 r hr).2.vis, ?_⟩, by omega, by omega, by omega, fun K hK => (hok K hK).2, fun r hr => viz_part (hr5 r hr).2⟩
    · have : kat Ks i = Ks[i] := by simp [kat, hlen, hi]
      rw [this]
      exact (hok _ (List.getElem_mem _)).1
    · rcases hx4 with ⟨h, _⟩ | ⟨b, o, rfl, hr⟩
      · exact .inl h
      · exact .inr ⟨b, o, rfl, RowAt.old (by simp) hr⟩
    · rcases hx5 with ⟨h, _⟩ | ⟨b, o, rfl, hr⟩
      · exact .inl h
      · exact .inr ⟨b, o, rfl, RowAt.old (by simp) hr⟩
theorem vast_fit (w0 : World) (F : List Atom) (fr mj kr rm : Int) (ca pa ha : Option Addr) (cn cc pn pc hn hc : Nat) (Ks : List CoreR) (hCR : CR w0 F ca cn Ks) (hcn : cn ≤ 9223372036854775807) (hpn : pn ≤ 9223372036854775807) (hmj : I64 mj) (rows : List (List Value)) (hPR : PR w0 F pa pn rows) (hfit : Fit cn pn hn Ks rows) :
    CallK Try.prog 12 [.agg [Value.int .i64 fr, .int .i64 mj, .int .i64 kr, .int .i64 rm, .slice ca cn cc, .slice pa pn pc, .slice ha hn hc].toArray] w0 (F) (Gives w0 fun v F2 => ∃ x, v = .bool x ∧ F2 = F ∧ (x = false → cn ≤ 2147483647)) := by
  have hCl := hCR.1
  have hPl := hPR.1
  have hf1 := hfit.1
  have hf2 := hfit.2.1
  have hf3 := hfit.2.2.1
  refine c_enter Try.func12 rfl rfl rfl ?_
  refine g_seq ?_
  refine g_region ?_
  refine l_boxs rfl rfl ?_; intro b1
  refine l_assign rfl rfl ?_
  refine l_nil ?_
  refine g_seq ?_
  refine g_region ?_
  refine l_fieldAddr rfl fa_27_4 rfl ?_
  refine l_ld rfl Try.isAgg23 rfl rfl ?_
  refine l_len rfl Try.underlying23 rfl ?_
  refine l_fieldAddr rfl fa_27_5 rfl ?_
  refine l_ld rfl Try.isAgg24 rfl rfl ?_
  refine l_len rfl Try.underlying24 rfl ?_
  first | refine l_add rfl rfl rfl (w_i64 (by omega) (by omega)) ?_ | refine l_addw rfl rfl rfl ?_
  refine l_fieldAddr rfl fa_27_6 rfl ?_
  refine l_ld rfl Try.isAgg25 rfl rfl ?_
  refine l_len rfl Try.underlying25 rfl ?_
  first | refine l_add rfl rfl rfl (w_i64 (by omega) (by omega)) ?_ | refine l_addw rfl rfl rfl ?_
  refine l_assign rfl rfl ?_
  refine l_nil ?_
  refine g_seq ?_
  refine g_seq ?_
  refine g_region ?_
  refine l_assign rfl rfl ?_
  refine l_nil ?_
  refine g_block ?_
  refine g_loopc (X := Int × Int) [(1, _), (2, _)] (.cons rfl (.cons rfl (.nil))) (fun z => 0 ≤ z.1 ∧ z.1 ≤ cn ∧ cn ≤ z.2 ∧ z.2 ≤ 500000000000000) (fun z => (cn - z.1).toNat) (fun z => [(3, .int .i64 z.2), (4, .int .i64 z.1)]) ((0, _)) (⟨by simp only; omega, by simp only; omega, by simp only; omega, by simp only; omega⟩) (.cons rfl (.cons rfl .nil)) ?_
  rintro ⟨i, m⟩ ⟨i0, i1, m0, m1⟩ ih
  dsimp only [List.cons_append, List.nil_append] at ih ⊢
  simp only at i0 i1 m0 m1
  obtain ⟨⟨a, n, c, L⟩, hk⟩ : ∃ K, kat Ks i.toNat = K := ⟨_, rfl⟩
  refine g_seq ?_
  refine g_seq ?_
  refine g_region ?_
  refine l_move rfl rfl ?_
  refine l_fieldAddr rfl fa_27_4 rfl ?_
  refine l_ld rfl Try.isAgg23 rfl rfl ?_
  refine l_len rfl Try.underlying23 rfl ?_
  refine l_lss rfl rfl rfl ?_
  refine l_move rfl rfl ?_
  refine l_split 22 rfl ?_ ?_
  · intro hbr
    have hbr := of_decide_eq_true hbr
    refine l_guard_yes rfl rfl ?_
    refine l_move rfl rfl ?_
    refine l_guard_yes rfl rfl ?_
    refine l_leq rfl rfl rfl ?_
    refine l_pick_t rfl rfl rfl ?_
    refine l_nil ?_
    refine g_cond rfl ?_ ?_
    · intro hbr
      have hbr := of_decide_eq_true hbr
      refine g_skip ?_
      refine g_seq ?_
      refine g_block ?_
      refine g_region ?_
      refine l_move rfl rfl ?_
      refine l_fieldAddr rfl fa_27_4 rfl ?_
      refine l_ld rfl Try.isAgg23 rfl rfl ?_
      refine l_move rfl rfl ?_
      obtain ⟨b8, o8, rfl, hr8⟩ := hCR.some (i := i.toNat) (by omega)
      refine l_ixs rfl Try.underlying23 Try.sizeOf38 rfl rfl (by omega) (by omega) ?_
      have hfk := hfit.core hk (by omega)
      refine l_loadc rfl Try.isAgg38 rfl (core_cell hr8.ex hk (by omega)) ?_
      refine l_len rfl Try.underlying38 rfl ?_
      first | refine l_add rfl rfl rfl (w_i64 (by omega) (by omega)) ?_ | refine l_addw rfl rfl rfl ?_
      refine l_assign rfl rfl ?_
      refine l_nil ?_
      refine g_inBlock ?_
      refine g_region ?_
      refine l_move rfl rfl ?_
      first | refine l_add rfl rfl rfl (w_i64 (by omega) (by omega)) ?_ | refine l_addw rfl rfl rfl ?_
      refine l_assign rfl rfl ?_
      refine l_nil ?_
      exact g_againi (ih (i + 1, _) ⟨by simp only; omega, by simp only; omega, by simp only; omega, by simp only; omega⟩ (by simp only; omega)) (.cons rfl (.cons rfl (.cons rfl (.cons rfl (.nil)))))
    intro hbr
    have hbr := of_decide_eq_false hbr
    refine g_exit rfl ?_
    refine g_seq ?_
    refine g_seq ?_
    refine g_region ?_
    refine l_assign rfl rfl ?_
    refine l_nil ?_
    refine g_block ?_
    refine g_loopc (X := Int × Int) [(1, _), (2, _)] (.cons rfl (.cons rfl (.nil))) (fun z => 0 ≤ z.1 ∧ z.1 ≤ pn ∧ cn ≤ z.2 ∧ z.2 ≤ 500000000000000) (fun z => (pn - z.1).toNat) (fun z => [(3, .int .i64 z.2), (5, .int .i64 z.1)]) ((0, m)) (⟨by simp only; omega, by simp only; omega, by simp only; omega, by simp only; omega⟩) (.cons rfl (.cons rfl .nil)) ?_
    rintro ⟨j, m⟩ ⟨j0, j1, m0, m1⟩ ihj
    dsimp only [List.cons_append, List.nil_append] at ihj ⊢
    simp only at j0 j1 m0 m1
    refine g_seq ?_
    refine g_seq ?_
    refine g_region ?_
    refine l_move rfl rfl ?_
    refine l_fieldAddr rfl fa_27_5 rfl ?_
    refine l_ld rfl Try.isAgg24 rfl rfl ?_
    refine l_len rfl Try.underlying24 rfl ?_
    refine l_lss rfl rfl rfl ?_
    refine l_move rfl rfl ?_
    refine l_split 41 rfl ?_ ?_
    · intro hbr
      have hbr := of_decide_eq_true hbr
      refine l_guard_yes rfl rfl ?_
      refine l_move rfl rfl ?_
      refine l_guard_yes rfl rfl ?_
      refine l_leq rfl rfl rfl ?_
      refine l_pick_t rfl rfl rfl ?_
      refine l_nil ?_
      refine g_cond rfl ?_ ?_
      · intro hbr
        have hbr := of_decide_eq_true hbr
        refine g_skip ?_
        refine g_seq ?_
        refine g_block ?_
        refine gp_start mo (by kernel_rfl) (by kernel_rfl) ?_
        refine gp_quiet 0 rfl rfl rfl rfl rfl rfl (q_move rfl) ?_
        refine gp_quiet 1 rfl rfl rfl rfl rfl rfl (q_fieldAddr fa_27_5 rfl) ?_
        refine gp_quiet 2 rfl rfl rfl rfl rfl rfl (q_ld Try.isAgg24 rfl rfl) ?_
        refine gp_quiet 3 rfl rfl rfl rfl rfl rfl (q_move rfl) ?_
        obtain ⟨b7, o7, rfl, hr7⟩ := hPR.some (i := j.toNat) (by omega)
        obtain ⟨x0, x1, x2, x3, x4, x5, a6, n6, c6, a7, n7, c7, hrow, hf6, hf7⟩ := hfit.part hPR (i := j.toNat) (by omega)
        refine gp_quiet 4 rfl rfl rfl rfl rfl rfl (q_ixs Try.underlying24 Try.sizeOf69 rfl rfl (by omega) (by omega)) ?_
        refine gp_quiet 5 rfl rfl rfl rfl rfl rfl (q_fieldAddr fa_69_6 rfl) ?_
        refine gp_quiet 6 rfl rfl rfl rfl rfl rfl (q_loadc Try.isAgg66 rfl ((row_elem hr7.ex hPR.len hrow).cell (j := 6) (v := .slice a6 n6 c6) rfl)) ?_
        refine gp_quiet 7 rfl rfl rfl rfl rfl rfl (q_len Try.underlying66 rfl) ?_
        first | refine gp_quiet 8 rfl rfl rfl rfl rfl rfl (q_add rfl rfl (w_i64 (by omega) (by omega))) ?_ | refine gp_quiet 8 rfl rfl rfl rfl rfl rfl (q_addw rfl rfl) ?_
        refine gp_quiet 9 rfl rfl rfl rfl rfl rfl (q_fieldAddr fa_27_5 rfl) ?_
        refine gp_quiet 10 rfl rfl rfl rfl rfl rfl (q_ld Try.isAgg24 rfl rfl) ?_
        refine gp_quiet 11 rfl rfl rfl rfl rfl rfl (q_move rfl) ?_
        refine gp_quiet 12 rfl rfl rfl rfl rfl rfl (q_ixs Try.underlying24 Try.sizeOf69 rfl rfl (by omega) (by omega)) ?_
        refine gp_quiet 13 rfl rfl rfl rfl rfl rfl (q_fieldAddr fa_69_7 rfl) ?_
        refine gp_quiet 14 rfl rfl rfl rfl rfl rfl (q_loadc Try.isAgg67 rfl ((row_elem hr7.ex hPR.len hrow).cell (j := 7) (v := .slice a7 n7 c7) rfl)) ?_
        refine gp_quiet 15 rfl rfl rfl rfl rfl rfl (q_len Try.underlying67 rfl) ?_
        first | refine gp_quiet 16 rfl rfl rfl rfl rfl rfl (q_add rfl rfl (w_i64 (by omega) (by omega))) ?_ | refine gp_quiet 16 rfl rfl rfl rfl rfl rfl (q_addw rfl rfl) ?_
        refine gp_after 17 rfl rfl rfl rfl rfl rfl rfl rfl (q_assign rfl) ?_
        refine gp_end rfl rfl ?_
        refine g_inBlock ?_
        refine g_region ?_
        refine l_move rfl rfl ?_
        first | refine l_add rfl rfl rfl (w_i64 (by omega) (by omega)) ?_ | refine l_addw rfl rfl rfl ?_
        refine l_assign rfl rfl ?_
        refine l_nil ?_
        exact g_againi (ihj (j + 1, _) ⟨by simp only; omega, by simp only; omega, by simp only; omega, by simp only; omega⟩ (by simp only; omega)) (.cons rfl (.cons rfl (.cons rfl (.cons rfl (.nil)))))
      intro hbr
      have hbr := of_decide_eq_false hbr
      refine g_exit rfl ?_
      refine g_seq ?_
      refine g_region ?_
      refine l_move rfl rfl ?_
      refine l_gtr rfl rfl rfl ?_
      refine l_assign rfl rfl ?_
      refine l_nil ?_
      refine g_ret Try.func12 rfl (.tmp rfl .nil) ?_
      exact Gives.mki ⟨_, rfl, rfl, fun h => by have h := of_decide_eq_false h; omega⟩
    intro hbr
    have hbr := of_decide_eq_false hbr
    refine l_guard_no rfl rfl rfl ?_
    refine l_guard_no rfl rfl rfl ?_
    refine l_pick_f rfl rfl rfl ?_
    refine l_nil ?_
    first | refine g_cond_f rfl ?_ | refine g_cond_f (congrArg (fun b => some (Value.bool b)) (decide_eq_false hbr)) ?_
    refine g_exit rfl ?_
    refine g_seq ?_
    refine g_region ?_
    refine l_move rfl rfl ?_
    refine l_gtr rfl rfl rfl ?_
    refine l_assign rfl rfl ?_
    refine l_nil ?_
    refine g_ret Try.func12 rfl (.tmp rfl .nil) ?_
    exact Gives.mki ⟨_, rfl, rfl, fun h => by have h := of_decide_eq_false h; omega⟩
  intro hbr
  have hbr := of_decide_eq_false hbr
  refine l_guard_no rfl rfl rfl ?_
  refine l_guard_no rfl rfl rfl ?_
  refine l_pick_f rfl rfl rfl ?_
  refine l_nil ?_
  first | refine g_cond_f rfl ?_ | refine g_cond_f (congrArg (fun b => some (Value.bool b)) (decide_eq_false hbr)) ?_
  refine g_exit rfl ?_
  refine g_seq ?_
  refine g_seq ?_
  refine g_region ?_
  refine l_assign rfl rfl ?_
  refine l_nil ?_
  refine g_block ?_
  refine g_loopc (X := Int × Int) [(1, _), (2, _)] (.cons rfl (.cons rfl (.nil))) (fun z => 0 ≤ z.1 ∧ z.1 ≤ pn ∧ cn ≤ z.2 ∧ z.2 ≤ 500000000000000) (fun z => (pn - z.1).toNat) (fun z => [(3, .int .i64 z.2), (5, .int .i64 z.1)]) ((0, m)) (⟨by simp only; omega, by simp only; omega, by simp only; omega, by simp only; omega⟩) (.cons rfl (.cons rfl .nil)) ?_
  rintro ⟨j, m⟩ ⟨j0, j1, m0, m1⟩ ihj
  dsimp only [List.cons_append, List.nil_append] at ihj ⊢
  simp only at j0 j1 m0 m1
  refine g_seq ?_
  refine g_seq ?_
  refine g_region ?_
  refine l_move rfl rfl ?_
  refine l_fieldAddr rfl fa_27_5 rfl ?_
  refine l_ld rfl Try.isAgg24 rfl rfl ?_
  refine l_len rfl Try.underlying24 rfl ?_
  refine l_lss rfl rfl rfl ?_
  refine l_move rfl rfl ?_
  refine l_split 41 rfl ?_ ?_
  · intro hbr
    have hbr := of_decide_eq_true hbr
    refine l_guard_yes rfl rfl ?_
    refine l_move rfl rfl ?_
    refine l_guard_yes rfl rfl ?_
    refine l_leq rfl rfl rfl ?_
    refine l_pick_t rfl rfl rfl ?_
    refine l_nil ?_
    refine g_cond rfl ?_ ?_
    · intro hbr
      have hbr := of_decide_eq_true hbr
      refine g_skip ?_
      refine g_seq ?_
      refine g_block ?_
      refine gp_start mo (by kernel_rfl) (by kernel_rfl) ?_
      refine gp_quiet 0 rfl rfl rfl rfl rfl rfl (q_move rfl) ?_
      refine gp_quiet 1 rfl rfl rfl rfl rfl rfl (q_fieldAddr fa_27_5 rfl) ?_
      refine gp_quiet 2 rfl rfl rfl rfl rfl rfl (q_ld Try.isAgg24 rfl rfl) ?_
      refine gp_quiet 3 rfl rfl rfl rfl rfl rfl (q_move rfl) ?_
      obtain ⟨b7, o7, rfl, hr7⟩ := hPR.some (i := j.toNat) (by omega)
      obtain ⟨x0, x1, x2, x3, x4, x5, a6, n6, c6, a7, n7, c7, hrow, hf6, hf7⟩ := hfit.part hPR (i := j.toNat) (by omega)
      refine gp_quiet 4 rfl rfl rfl rfl rfl rfl (q_ixs Try.underlying24 Try.sizeOf69 rfl rfl (by omega) (by omega)) ?_
      refine gp_quiet 5 rfl rfl rfl rfl rfl rfl (q_fieldAddr fa_69_6 rfl) ?_
      refine gp_quiet 6 rfl rfl rfl rfl rfl rfl (q_loadc Try.isAgg66 rfl ((row_elem hr7.ex hPR.len hrow).cell (j := 6) (v := .slice a6 n6 c6) rfl)) ?_
      refine gp_quiet 7 rfl rfl rfl rfl rfl rfl (q_len Try.underlying66 rfl) ?_
      first | refine gp_quiet 8 rfl rfl rfl rfl rfl rfl (q_add rfl rfl (w_i64 (by omega) (by omega))) ?_ | refine gp_quiet 8 rfl rfl rfl rfl rfl rfl (q_addw rfl rfl) ?_
      refine gp_quiet 9 rfl rfl rfl rfl rfl rfl (q_fieldAddr fa_27_5 rfl) ?_
      refine gp_quiet 10 rfl rfl rfl rfl rfl rfl (q_ld Try.isAgg24 rfl rfl) ?_
      refine gp_quiet 11 rfl rfl rfl rfl rfl rfl (q_move rfl) ?_
      refine gp_quiet 12 rfl rfl rfl rfl rfl rfl (q_ixs Try.underlying24 Try.sizeOf69 rfl rfl (by omega) (by omega)) ?_
      refine gp_quiet 13 rfl rfl rfl rfl rfl rfl (q_fieldAddr fa_69_7 rfl) ?_
      refine gp_quiet 14 rfl rfl rfl rfl rfl rfl (q_loadc Try.isAgg67 rfl ((row_elem hr7.ex hPR.len hrow).cell (j := 7) (v := .slice a7 n7 c7) rfl)) ?_
      refine gp_quiet 15 rfl rfl rfl rfl rfl rfl (q_len Try.underlying67 rfl) ?_
      first | refine gp_quiet 16 rfl rfl rfl rfl rfl rfl (q_add rfl rfl (w_i64 (by omega) (by omega))) ?_ | refine gp_quiet 16 rfl rfl rfl rfl rfl rfl (q_addw rfl rfl) ?_
      refine gp_after 17 rfl rfl rfl rfl rfl rfl rfl rfl (q_assign rfl) ?_
      refine gp_end rfl rfl ?_
      refine g_inBlock ?_
      refine g_region ?_
      refine l_move rfl rfl ?_
      first | refine l_add rfl rfl rfl (w_i64 (by omega) (by omega)) ?_ | refine l_addw rfl rfl rfl ?_
      refine l_assign rfl rfl ?_
      refine l_nil ?_
      exact g_againi (ihj (j + 1, _) ⟨by simp only; omega, by simp only; omega, by simp only; omega, by simp only; omega⟩ (by simp only; omega)) (.cons rfl (.cons rfl (.cons rfl (.cons rfl (.nil)))))
    intro hbr
    have hbr := of_decide_eq_false hbr
    refine g_exit rfl ?_
    refine g_seq ?_
    refine g_region ?_
    refine l_move rfl rfl ?_
    refine l_gtr rfl rfl rfl ?_
    refine l_assign rfl rfl ?_
    refine l_nil ?_
    refine g_ret Try.func12 rfl (.tmp rfl .nil) ?_
    exact Gives.mki ⟨_, rfl, rfl, fun h => by have h := of_decide_eq_false h; omega⟩
  intro hbr
  have hbr := of_decide_eq_false hbr
  refine l_guard_no rfl rfl rfl ?_
  refine l_guard_no rfl rfl rfl ?_
  refine l_pick_f rfl rfl rfl ?_
  refine l_nil ?_
  first | refine g_cond_f rfl ?_ | refine g_cond_f (congrArg (fun b => some (Value.bool b)) (decide_eq_false hbr)) ?_
  refine g_exit rfl ?_
  refine g_seq ?_
  refine g_region ?_
  refine l_move rfl rfl ?_
  refine l_gtr rfl rfl rfl ?_
  refine l_assign rfl rfl ?_
  refine l_nil ?_
  refine g_ret Try.func12 rfl (.tmp rfl .nil) ?_
  exact Gives.mki ⟨_, rfl, rfl, fun h => by have h := of_decide_eq_false h; omega⟩
end Go.Proofs.Ytfccfjgnoeocnaa.Fw
