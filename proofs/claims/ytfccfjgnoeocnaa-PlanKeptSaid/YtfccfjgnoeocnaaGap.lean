import Derived.Test.YtfccfjgnoeocnaaRUse
namespace Go.Proofs.Ytfccfjgnoeocnaa.Fw
open Go Go.Proofs
set_option linter.unusedVariables false
set_option linter.unusedSimpArgs false
set_option maxRecDepth 10000
theorem fa_52_2 (a : Addr) (w : World) : (Instr.fieldAt 52 (.pointer (some a)) 2).run Try.prog w = .ok (.pointer (some (a.add 2))) w := by
  simp [Instr.fieldAt, Try.runUnderlying52, Instr.sureAddr, fieldPlace, Try.sizeOf3, Sem.run_bind, Sem.run_pure]
theorem fa_52_3 (a : Addr) (w : World) : (Instr.fieldAt 52 (.pointer (some a)) 3).run Try.prog w = .ok (.pointer (some (a.add 3))) w := by
  simp [Instr.fieldAt, Try.runUnderlying52, Instr.sureAddr, fieldPlace, Try.sizeOf3, Sem.run_bind, Sem.run_pure]
def frm (l : List Span) (j : Nat) : Int := (sat l j).2.2.1
def tov (l : List Span) (j : Nat) : Int := (sat l j).2.2.2
def gm (l : List Span) : Nat → Int
  | 0 => 0
  | j + 1 => max (gm l j) (frm l (j + 1) - tov l j)
def gapW (l : List Span) (mj : Int) : Int := frm l 0 + mj - tov l (l.length - 1)
def SameC (l : List Span) (n : Nat) : Prop := ∀ j, j < n → (sat l j).1 = (sat l 0).1
def gapOf (l : List Span) (mj : Int) : Int := max (gm l (l.length - 1)) (gapW l mj)
def lg (l : List Span) (mj : Int) (i : Nat) : Int := if i < l.length then gm l i else gapOf l mj
theorem same_next {l : List Span} {i : Nat} (h : SameC l i) (h1 : (sat l i).1 = (sat l 0).1) : SameC l (i + 1) := fun j hj => by
  by_cases hh : j < i
  · exact h j hh
  · have : j = i := by omega
    rw [this]; exact h1
theorem sp_bd {w0 : World} {F : List Atom} {ca : Option Addr} {cn : Nat} {p : Int} {Ks : List CoreR} {mj : Int} {l : List Span} (hC : CR w0 F ca cn Ks) (hl : spC p Ks cn = l) (hf : Full Ks cn mj) {j : Nat} (hj : j < l.length) : 0 ≤ frm l j ∧ frm l j ≤ tov l j ∧ tov l j ≤ mj := by
  obtain ⟨k', h1, i, h2, h3, _⟩ := spC_mem (x := sat l j) cn (by rw [hl]; exact sat_mem hj)
  unfold frm tov
  rw [h3]
  have hm := hf.1 k' h1
  have hn := hC.ns k' h1
  have b1 := bg_bound hm.2.2 i (by omega)
  have b2 := bg_mono hm.2.2 (show i ≤ i + 1 by omega) (by omega)
  have b3 := bg_mono hm.2.2 (show i + 1 ≤ (kat Ks k').n by omega) (by omega)
  have b4 := hf.2.2.2 k' h1
  simp only
  omega
theorem gm_bd {l : List Span} {mj : Int} (h : ∀ j, j < l.length → 0 ≤ frm l j ∧ frm l j ≤ tov l j ∧ tov l j ≤ mj) (h0 : 0 ≤ mj) : ∀ j, j < l.length → 0 ≤ gm l j ∧ gm l j ≤ mj
  | 0, _ => by simp [gm, h0]
  | j + 1, hj => by
    have h1 := gm_bd h h0 j (by omega)
    have h2 := h j (by omega)
    have h3 := h (j + 1) hj
    simp only [gm]
    omega
theorem lg_step {l : List Span} {mj : Int} {i : Nat} (h : i + 1 < l.length) : max (lg l mj i) (frm l (i + 1) - tov l i) = lg l mj (i + 1) := by simp [lg, h, show i < l.length by omega, gm]
theorem lg_last {l : List Span} {mj : Int} {i : Nat} (h : ¬ i + 1 < l.length) (h1 : i < l.length) : max (lg l mj i) (frm l 0 + mj - tov l i) = lg l mj (i + 1) := by
  have : l.length - 1 = i := by omega
  simp [lg, h, h1, gapOf, gapW, this]
theorem lg_bd {l : List Span} {mj : Int} {i : Nat} (h : ∀ j, j < l.length → 0 ≤ frm l j ∧ frm l j ≤ tov l j ∧ tov l j ≤ mj) (h0 : 0 ≤ mj) (hi : i < l.length) : 0 ≤ lg l mj i ∧ lg l mj i ≤ mj := by
  simp only [lg, hi, if_true]; exact gm_bd h h0 i hi
theorem sp_cell {w0 : World} {F : List Atom} {g n cap E : Nat} {l : List Span} [h : OwnIn F g E 4 n cap (spRows l)] {j : Nat} (hj : j < l.length) (q : Nat) {v : Value} (hv : (spanRow (sat l j))[q]? = some v) : CellAt w0 F g (0 + j * 4 + q) v :=
  (row_elem (rows := l.map spanRow) (.own h.mem) (sp_len l) (sp_at hj)).cell hv
theorem sp_row {w0 : World} {F : List Atom} {g n cap E : Nat} {l : List Span} [h : OwnIn F g E 4 n cap (spRows l)] {j : Nat} (hj : j < l.length) : RowAt w0 F g (0 + j * 4) (spanRow (sat l j)) :=
  row_elem (rows := l.map spanRow) (.own h.mem) (sp_len l) (sp_at hj)
theorem gw_start {l : List Span} {mj : Int} (h : ∀ j, j < l.length → 0 ≤ frm l j ∧ frm l j ≤ tov l j ∧ tov l j ≤ mj) (h0 : 0 < l.length) : frm l 0 + mj - tov l (l.length - 1) = max (gapW l mj) (gm l (0 - 1)) := by
  have h1 := h 0 h0
  have h2 := h (l.length - 1) (by omega)
  have h3 : gm l (0 - 1) = 0 := rfl
  rw [h3]
  simp only [gapW]
  omega
/-- What Gap answers. -/
def GapSays (Ks : List CoreR) (cn pn : Nat) (mj p x e : Int) : Prop := (e = 0 → (0 ≤ p ∧ p < pn) ∧ Full Ks cn mj ∧ ((spC p Ks cn).length = 0 ∧ x = mj ∨ 0 < (spC p Ks cn).length ∧ SameC (spC p Ks cn) (spC p Ks cn).length ∧ x = gapOf (spC p Ks cn) mj)) ∧
  (e ≠ 0 → x = 0 ∧ ((e = 142 ∧ ¬ (0 ≤ p ∧ p < pn)) ∨ (e = 1 ∧ (0 ≤ p ∧ p < pn) ∧ (¬ Full Ks cn mj ∨ Full Ks cn mj ∧ 0 < (spC p Ks cn).length ∧ ¬ SameC (spC p Ks cn) (spC p Ks cn).length))))
theorem gap_one {Ks : List CoreR} {cn pn : Nat} {mj p x e y f : Int} (h1 : GapSays Ks cn pn mj p x e) (h2 : GapSays Ks cn pn mj p y f) : x = y ∧ e = f := by
  unfold GapSays at h1 h2
  by_cases he : e = 0
  · by_cases hf : f = 0
    · obtain ⟨a1, a2, a3⟩ := h1.1 he
      obtain ⟨b1, b2, b3⟩ := h2.1 hf
      refine ⟨?_, by omega⟩
      rcases a3 with ⟨a3, a4⟩ | ⟨a3, a4, a5⟩ <;> rcases b3 with ⟨b3, b4⟩ | ⟨b3, b4, b5⟩
      · omega
      · omega
      · omega
      · rw [a5, b5]
    · obtain ⟨a1, a2, a3⟩ := h1.1 he
      rcases (h2.2 hf).2 with ⟨_, b⟩ | ⟨_, _, b | ⟨_, b4, b⟩⟩
      · exact absurd a1 b
      · exact absurd a2 b
      · rcases a3 with ⟨a3, a4⟩ | ⟨a3, a4, a5⟩
        · omega
        · exact absurd a4 b
  · by_cases hf : f = 0
    · obtain ⟨a1, a2, a3⟩ := h2.1 hf
      rcases (h1.2 he).2 with ⟨_, b⟩ | ⟨_, _, b | ⟨_, b4, b⟩⟩
      · exact absurd a1 b
      · exact absurd a2 b
      · rcases a3 with ⟨a3, a4⟩ | ⟨a3, a4, a5⟩
        · omega
        · exact absurd a4 b
    · obtain ⟨a1, a2⟩ := h1.2 he
      obtain ⟨b1, b2⟩ := h2.2 hf
      refine ⟨by omega, ?_⟩
      rcases a2 with ⟨a2, a3⟩ | ⟨a2, a3, _⟩ <;> rcases b2 with ⟨b2, b3⟩ | ⟨b2, b3, _⟩
      · omega
      · exact absurd b3 a3
      · exact absurd a3 b3
      · omega
theorem gap_any (w0 : World) (F : List Atom) (fr mj kr rm : Int) (ca pa ha : Option Addr) (cn cc pn pc hn hc : Nat) (Ks : List CoreR) (hCR : CR w0 F ca cn Ks) (hcn : cn ≤ 9223372036854775807) (hpn : pn ≤ 9223372036854775807) (hmj : I64 mj) (p : Int) (p0 : -9223372036854775808 ≤ p) (p1 : p ≤ 9223372036854775807) (hcn2 : cn ≤ 2147483647) :
    CallK Try.prog 29 [.agg [Value.int .i64 fr, .int .i64 mj, .int .i64 kr, .int .i64 rm, .slice ca cn cc, .slice pa pn pc, .slice ha hn hc].toArray, .int .i64 p] w0 (F) (Gives w0 fun v F2 => ∃ x e, v = .tuple #[.int .i64 x, .int .i64 e] ∧ F2 = F ∧ GapSays Ks cn pn mj p x e) := by
  have hCl := hCR.1
  unfold I64 at hmj
  refine c_enter Try.func29 rfl rfl rfl ?_
  refine g_seq ?_
  refine g_region ?_
  refine l_boxs rfl rfl ?_; intro b2
  refine l_assign rfl rfl ?_
  refine l_assign rfl rfl ?_
  refine l_nil ?_
  refine g_seq ?_
  refine g_region ?_
  refine l_lds rfl Try.isAgg27 Try.sizeOf27 rfl rfl ?_
  refine l_move rfl rfl ?_
  refine l_call rfl Try.call43 rfl (filled_any _ _ fr mj kr rm ca pa ha cn cc pn pc hn hc Ks hCR.ex hcn hpn hmj p p0 p1 hcn2) ?_; rintro _ _ ⟨u, e, l, rfl, rfl, hgo, hno⟩
  refine l_move rfl rfl ?_
  refine l_extract rfl rfl rfl ?_
  refine l_extract rfl rfl rfl ?_
  refine l_assign rfl rfl ?_
  refine l_assign rfl rfl ?_
  refine l_nil ?_
  refine g_seq ?_
  refine g_seq ?_
  refine g_region ?_
  refine l_move rfl rfl ?_
  refine l_neq rfl rfl rfl ?_
  refine l_nil ?_
  refine g_cond rfl ?_ ?_
  · intro hbr
    have hbr := of_decide_eq_true hbr
    refine g_seq ?_
    refine g_region ?_
    refine l_move rfl rfl ?_
    refine l_assign rfl rfl ?_
    refine l_assign rfl rfl ?_
    refine l_nil ?_
    refine g_ret Try.func29 rfl (.tmp rfl (.tmp rfl .nil)) ?_
    (first | exact Gives.mki ⟨_, 0, rfl, rfl, fun _ => ⟨hgi, hfu, .inl ⟨by rw [hgl]; omega, rfl⟩⟩, fun h => absurd rfl h⟩ | exact Gives.mki ⟨_, 0, rfl, rfl, fun _ => ⟨hgi, hfu, .inr ⟨by rw [hgl]; omega, by rw [hgl]; exact hsc, by rw [hgl]; simp [lg]⟩⟩, fun h => absurd rfl h⟩ | exact Gives.mki ⟨0, 1, rfl, rfl, (fun h => absurd h (by decide)), fun _ => ⟨rfl, .inr ⟨rfl, hgi, .inr ⟨hfu, by rw [hgl]; omega, by rw [hgl]; exact fun h => hbr (h i.toNat (by omega))⟩⟩⟩⟩ | exact Gives.mki ⟨0, e, rfl, rfl, fun h => absurd h hbr, fun h => ⟨rfl, (hno h).imp id fun h => ⟨h.1, h.2.1, .inl h.2.2⟩⟩⟩)
  intro hbr
  have hbr := of_decide_eq_false hbr
  refine g_skip ?_
  refine g_seq ?_
  refine g_seq ?_
  refine g_region ?_
  obtain ⟨hgi, hfu, hgl⟩ := hgo (Classical.not_not.1 hbr)
  have hbd := fun j (hj : j < l.length) => sp_bd hCR hgl hfu hj
  have hfb := full_bd hfu
  have hlen : l.length ≤ 16 * cn := by rw [← hgl]; exact spC_len hCR cn (Nat.le_refl _) hfu.1
  refine l_fact (own_slice (mem_getO 0 rfl)) ?_
  rintro ⟨au, cu, rfl, hau⟩
  refine l_move rfl rfl ?_
  refine l_len rfl Try.underlying45 rfl ?_
  refine l_eql rfl rfl rfl ?_
  refine l_nil ?_
  refine g_cond rfl ?_ ?_
  · intro hbr
    have hbr := of_decide_eq_true hbr
    refine g_seq ?_
    refine g_region ?_
    refine l_fieldAddr rfl fa_27_1 rfl ?_
    first | refine l_ld rfl Try.isAgg3 rfl rfl ?_ | refine l_ldw rfl Try.isAgg3 rfl (by omega) ?_
    refine l_assign rfl rfl ?_
    refine l_assign rfl rfl ?_
    refine l_nil ?_
    refine g_ret Try.func29 rfl (.tmp rfl (.tmp rfl .nil)) ?_
    (first | exact Gives.mki ⟨_, 0, rfl, rfl, fun _ => ⟨hgi, hfu, .inl ⟨by rw [hgl]; omega, rfl⟩⟩, fun h => absurd rfl h⟩ | exact Gives.mki ⟨_, 0, rfl, rfl, fun _ => ⟨hgi, hfu, .inr ⟨by rw [hgl]; omega, by rw [hgl]; exact hsc, by rw [hgl]; simp [lg]⟩⟩, fun h => absurd rfl h⟩ | exact Gives.mki ⟨0, 1, rfl, rfl, (fun h => absurd h (by decide)), fun _ => ⟨rfl, .inr ⟨rfl, hgi, .inr ⟨hfu, by rw [hgl]; omega, by rw [hgl]; exact fun h => hbr (h i.toNat (by omega))⟩⟩⟩⟩ | exact Gives.mki ⟨0, e, rfl, rfl, fun h => absurd h hbr, fun h => ⟨rfl, (hno h).imp id fun h => ⟨h.1, h.2.1, .inl h.2.2⟩⟩⟩)
  intro hbr
  have hbr := of_decide_eq_false hbr
  refine g_skip ?_
  refine g_seq ?_
  refine g_region ?_
  rw [show (0 : Int) = 0 from rfl]
  refine l_assign rfl rfl ?_
  refine l_nil ?_
  refine g_seq ?_
  refine g_seq ?_
  refine g_region ?_
  refine l_move rfl rfl ?_
  refine l_len rfl Try.underlying45 rfl ?_
  refine l_move rfl rfl ?_
  refine l_nil ?_
  refine g_block ?_
  obtain ⟨g5, rfl⟩ := hau.resolve_left (by omega)
  have hlg0 : lg l mj (0 : Int).toNat = 0 := by simp [lg, show 0 < l.length by omega, gm]
  refine g_loopc (X := Int) [(2, _), (6, _), (26, _), (27, _)] (.cons rfl (.cons rfl (.cons rfl (.cons rfl (.nil))))) (fun i => 0 ≤ i ∧ i ≤ l.length ∧ SameC l i.toNat) (fun i => (l.length - i).toNat) (fun i => [(8, .int .i64 (lg l mj i.toNat)), (28, .int .i64 i)]) (0) (⟨by omega, by omega, fun j hj => by simp at hj⟩) (.cons (by rw [hlg0]; rfl) (.cons rfl .nil)) ?_
  rintro i ⟨i0, i1, hsc⟩ ih
  dsimp only [List.cons_append, List.nil_append] at ih ⊢
  refine g_seq ?_
  refine g_region ?_
  refine l_lss rfl rfl rfl ?_
  refine l_nil ?_
  refine g_seq ?_
  refine g_cond rfl ?_ ?_
  · intro hbr
    have hbr := of_decide_eq_true hbr
    refine g_skip ?_
    refine g_seq ?_
    refine g_block ?_
    refine g_seq ?_
    refine g_region ?_
    refine l_move rfl rfl ?_
    have hbi := hbd i.toNat (by omega)
    have hb0 := hbd 0 (by omega)
    have hbn := hbd (i.toNat + 1)
    have hlgb := lg_bd hbd (by omega) (show i.toNat < l.length by omega)
    refine l_ixs rfl Try.underlying45 Try.sizeOf52 rfl rfl (by omega) (by omega) ?_
    refine l_loadr (l := spanRow (sat l i.toNat)) rfl Try.isAgg52 Try.sizeOf52 rfl rfl (sp_row (by omega)) ?_
    refine l_allocs rfl Try.zeroValue52 ?_; intro b10
    refine l_assign rfl rfl ?_
    refine l_sts Try.sizeOf52 rfl rfl rfl rfl rfl ?_
    refine l_nil ?_
    refine g_seq ?_
    refine g_seq ?_
    refine gp_start mo (by kernel_rfl) (by kernel_rfl) ?_
    refine gp_quiet 0 rfl rfl rfl rfl rfl rfl (q_fieldAddr fa_52_0 rfl) ?_
    first | refine gp_quiet 1 rfl rfl rfl rfl rfl rfl (q_ld Try.isAgg3 rfl rfl) ?_ | refine gp_quiet 1 rfl rfl rfl rfl rfl rfl (q_ldw Try.isAgg3 rfl (by omega)) ?_
    refine gp_quiet 2 rfl rfl rfl rfl rfl rfl (q_move rfl) ?_
    refine gp_quiet 3 rfl rfl rfl rfl rfl rfl (q_ixs Try.underlying45 Try.sizeOf52 rfl rfl (by omega) (by omega)) ?_
    refine gp_quiet 4 rfl rfl rfl rfl rfl rfl (q_fieldAddr fa_52_0 rfl) ?_
    refine gp_quiet 5 rfl rfl rfl rfl rfl rfl (q_loadc Try.isAgg3 rfl (sp_cell (l := l) (j := 0) (by omega) 0 (v := .int .i64 ((sat l 0).1)) rfl)) ?_
    refine gp_quiet 6 rfl rfl rfl rfl rfl rfl (q_neq rfl rfl) ?_
    refine gp_end rfl rfl ?_
    refine g_cond rfl ?_ ?_
    · intro hbr
      have hbr := of_decide_eq_true hbr
      refine g_seq ?_
      refine g_region ?_
      refine l_assign rfl rfl ?_
      refine l_assign rfl rfl ?_
      refine l_nil ?_
      refine g_ret Try.func29 rfl (.tmp rfl (.tmp rfl .nil)) ?_
      (first | exact Gives.mki ⟨_, 0, rfl, rfl, fun _ => ⟨hgi, hfu, .inl ⟨by rw [hgl]; omega, rfl⟩⟩, fun h => absurd rfl h⟩ | exact Gives.mki ⟨_, 0, rfl, rfl, fun _ => ⟨hgi, hfu, .inr ⟨by rw [hgl]; omega, by rw [hgl]; exact hsc, by rw [hgl]; simp [lg]⟩⟩, fun h => absurd rfl h⟩ | exact Gives.mki ⟨0, 1, rfl, rfl, (fun h => absurd h (by decide)), fun _ => ⟨rfl, .inr ⟨rfl, hgi, .inr ⟨hfu, by rw [hgl]; omega, by rw [hgl]; exact fun h => hbr (h i.toNat (by omega))⟩⟩⟩⟩ | exact Gives.mki ⟨0, e, rfl, rfl, fun h => absurd h hbr, fun h => ⟨rfl, (hno h).imp id fun h => ⟨h.1, h.2.1, .inl h.2.2⟩⟩⟩)
    intro hbr
    have hbr := of_decide_eq_false hbr
    refine g_skip ?_
    refine g_seq ?_
    refine gp_start mo (by kernel_rfl) (by kernel_rfl) ?_
    have hb9 := Classical.not_not.1 hbr
    refine gp_quiet 0 rfl rfl rfl rfl rfl rfl (q_move rfl) ?_
    refine gp_quiet 1 rfl rfl rfl rfl rfl rfl (q_ixs Try.underlying45 Try.sizeOf52 rfl rfl (by omega) (by omega)) ?_
    refine gp_quiet 2 rfl rfl rfl rfl rfl rfl (q_fieldAddr fa_52_2 rfl) ?_
    refine gp_quiet 3 rfl rfl rfl rfl rfl rfl (q_loadc Try.isAgg3 rfl (sp_cell (l := l) (j := 0) (by omega) 2 (v := .int .i64 (frm l 0)) rfl)) ?_
    refine gp_quiet 4 rfl rfl rfl rfl rfl rfl (q_fieldAddr fa_27_1 rfl) ?_
    first | refine gp_quiet 5 rfl rfl rfl rfl rfl rfl (q_ld Try.isAgg3 rfl rfl) ?_ | refine gp_quiet 5 rfl rfl rfl rfl rfl rfl (q_ldw Try.isAgg3 rfl (by omega)) ?_
    first | refine gp_quiet 6 rfl rfl rfl rfl rfl rfl (q_add rfl rfl (w_i64 (by omega) (by omega))) ?_ | refine gp_quiet 6 rfl rfl rfl rfl rfl rfl (q_addw rfl rfl) ?_
    refine gp_quiet 7 rfl rfl rfl rfl rfl rfl (q_assign rfl) ?_
    refine gp_end rfl rfl ?_
    refine g_seq ?_
    refine g_seq ?_
    refine g_region ?_
    refine l_move rfl rfl ?_
    first | refine l_add rfl rfl rfl (w_i64 (by omega) (by omega)) ?_ | refine l_addw rfl rfl rfl ?_
    refine l_move rfl rfl ?_
    refine l_len rfl Try.underlying45 rfl ?_
    refine l_lss rfl rfl rfl ?_
    refine l_nil ?_
    refine g_cond rfl ?_ ?_
    · intro hbr
      have hbr := of_decide_eq_true hbr
      refine g_region ?_
      refine l_move rfl rfl ?_
      refine l_move rfl rfl ?_
      first | refine l_add rfl rfl rfl (w_i64 (by omega) (by omega)) ?_ | refine l_addw rfl rfl rfl ?_
      refine l_ixs rfl Try.underlying45 Try.sizeOf52 rfl rfl (by omega) (by omega) ?_
      refine l_fieldAddr rfl fa_52_2 rfl ?_
      refine l_loadc rfl Try.isAgg3 rfl (v := .int .i64 (frm l (i.toNat + 1))) (by rw [show (i + 1).toNat = i.toNat + 1 by omega]; exact sp_cell (l := l) (j := i.toNat + 1) (by omega) 2 rfl) ?_
      refine l_assign rfl rfl ?_
      refine l_nil ?_
      refine g_region ?_
      refine l_move rfl rfl ?_
      refine l_move rfl rfl ?_
      refine l_fieldAddr rfl fa_52_3 rfl ?_
      refine l_ld rfl Try.isAgg3 rfl (v := .int .i64 (tov l i.toNat)) rfl ?_
      refine l_sub_ rfl rfl rfl (w_i64 (by omega) (by omega)) ?_
      refine l_max rfl rfl rfl ?_
      refine l_assign rfl rfl ?_
      refine l_nil ?_
      refine g_inBlock ?_
      refine g_region ?_
      first | refine l_add rfl rfl rfl (w_i64 (by omega) (by omega)) ?_ | refine l_addw rfl rfl rfl ?_
      refine l_move rfl rfl ?_
      refine l_nil ?_
      rw [show (i + 1 : Int) = ((i.toNat + 1 : Nat) : Int) by omega]
      (first | rw [lg_step (by omega)] | rw [lg_last (by omega) (by omega)])
      exact g_againi (ih ((i.toNat + 1 : Nat) : Int) ⟨by omega, by omega, same_next hsc hb9⟩ (by omega)) (.cons rfl (.cons rfl (.cons rfl (.cons rfl (.cons rfl (.cons rfl (.nil)))))))
    intro hbr
    have hbr := of_decide_eq_false hbr
    refine g_skip ?_
    refine g_region ?_
    refine l_move rfl rfl ?_
    refine l_move rfl rfl ?_
    refine l_fieldAddr rfl fa_52_3 rfl ?_
    refine l_ld rfl Try.isAgg3 rfl (v := .int .i64 (tov l i.toNat)) rfl ?_
    refine l_sub_ rfl rfl rfl (w_i64 (by omega) (by omega)) ?_
    refine l_max rfl rfl rfl ?_
    refine l_assign rfl rfl ?_
    refine l_nil ?_
    refine g_inBlock ?_
    refine g_region ?_
    first | refine l_add rfl rfl rfl (w_i64 (by omega) (by omega)) ?_ | refine l_addw rfl rfl rfl ?_
    refine l_move rfl rfl ?_
    refine l_nil ?_
    rw [show (i + 1 : Int) = ((i.toNat + 1 : Nat) : Int) by omega]
    (first | rw [lg_step (by omega)] | rw [lg_last (by omega) (by omega)])
    exact g_againi (ih ((i.toNat + 1 : Nat) : Int) ⟨by omega, by omega, same_next hsc hb9⟩ (by omega)) (.cons rfl (.cons rfl (.cons rfl (.cons rfl (.cons rfl (.cons rfl (.nil)))))))
  intro hbr
  have hbr := of_decide_eq_false hbr
  refine g_exit rfl ?_
  obtain rfl : i = l.length := by omega
  rw [Int.toNat_natCast] at hsc ⊢
  refine g_seq ?_
  refine g_region ?_
  refine l_move rfl rfl ?_
  refine l_assign rfl rfl ?_
  refine l_assign rfl rfl ?_
  refine l_nil ?_
  refine g_ret Try.func29 rfl (.tmp rfl (.tmp rfl .nil)) ?_
  (first | exact Gives.mki ⟨_, 0, rfl, rfl, fun _ => ⟨hgi, hfu, .inl ⟨by rw [hgl]; omega, rfl⟩⟩, fun h => absurd rfl h⟩ | exact Gives.mki ⟨_, 0, rfl, rfl, fun _ => ⟨hgi, hfu, .inr ⟨by rw [hgl]; omega, by rw [hgl]; exact hsc, by rw [hgl]; simp [lg]⟩⟩, fun h => absurd rfl h⟩ | exact Gives.mki ⟨0, 1, rfl, rfl, (fun h => absurd h (by decide)), fun _ => ⟨rfl, .inr ⟨rfl, hgi, .inr ⟨hfu, by rw [hgl]; omega, by rw [hgl]; exact fun h => hbr (h i.toNat (by omega))⟩⟩⟩⟩ | exact Gives.mki ⟨0, e, rfl, rfl, fun h => absurd h hbr, fun h => ⟨rfl, (hno h).imp id fun h => ⟨h.1, h.2.1, .inl h.2.2⟩⟩⟩)
end Go.Proofs.Ytfccfjgnoeocnaa.Fw
