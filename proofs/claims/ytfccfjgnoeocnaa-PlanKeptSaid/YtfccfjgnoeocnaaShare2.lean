import Derived.Test.YtfccfjgnoeocnaaShare
namespace Go.Proofs.Ytfccfjgnoeocnaa.Fw
open Go Go.Proofs
set_option linter.unusedVariables false
set_option linter.unusedSimpArgs false
set_option maxRecDepth 10000
theorem fa_52_0 (a : Addr) (w : World) : (Instr.fieldAt 52 (.pointer (some a)) 0).run Try.prog w = .ok (.pointer (some (a.add 0))) w := by
  simp [Instr.fieldAt, Try.runUnderlying52, Instr.sureAddr, fieldPlace, Try.sizeOf3, Sem.run_bind, Sem.run_pure]
theorem fa_52_1 (a : Addr) (w : World) : (Instr.fieldAt 52 (.pointer (some a)) 1).run Try.prog w = .ok (.pointer (some (a.add 1))) w := by
  simp [Instr.fieldAt, Try.runUnderlying52, Instr.sureAddr, fieldPlace, Try.sizeOf3, Sem.run_bind, Sem.run_pure]
def sat (l : List Span) (j : Nat) : Span := l.getD j (0, 0, 0, 0)
theorem sp_len (l : List Span) : ∀ r ∈ l.map spanRow, r.length = 4 := by
  intro r hr
  obtain ⟨o, _, rfl⟩ := List.mem_map.1 hr
  rfl
theorem sp_at {l : List Span} {j : Nat} (h : j < l.length) : (l.map spanRow)[j]? = some (spanRow (sat l j)) := by simp [sat, h]
theorem spK_mem {p : Int} {k : Nat} {L : List Win} {x : Span} : ∀ i, x ∈ spK p k L i → ∃ i', i' < i ∧ x = ((k : Int), (i' : Int), bg L i', bg L (i' + 1)) ∧ (wat L i').1 = p
  | 0, h => by simp [spK] at h
  | i + 1, h => by
    unfold spK at h
    split at h
    · rename_i hp
      rcases List.mem_append.1 h with h | h
      · obtain ⟨i', h1, h2⟩ := spK_mem i h
        exact ⟨i', by omega, h2⟩
      · simp only [List.mem_singleton] at h
        exact ⟨i, by omega, h, hp⟩
    · obtain ⟨i', h1, h2⟩ := spK_mem i h
      exact ⟨i', by omega, h2⟩
theorem spC_mem {p : Int} {Ks : List CoreR} {x : Span} : ∀ k, x ∈ spC p Ks k → ∃ k', k' < k ∧ ∃ i, i < (kat Ks k').n ∧ x = ((k' : Int), (i : Int), bg (kat Ks k').L i, bg (kat Ks k').L (i + 1)) ∧ (wat (kat Ks k').L i).1 = p
  | 0, h => by simp [spC] at h
  | k + 1, h => by
    rcases List.mem_append.1 h with h | h
    · obtain ⟨k', h1, h2⟩ := spC_mem k h
      exact ⟨k', by omega, h2⟩
    · obtain ⟨i, h1, h2⟩ := spK_mem _ h
      exact ⟨k, by omega, i, h1, h2⟩
theorem sat_mem {l : List Span} {j : Nat} (h : j < l.length) : sat l j ∈ l := by
  have : sat l j = l[j] := by simp [sat, h]
  rw [this]; exact List.getElem_mem _
theorem sp_ok {p : Int} {Ks : List CoreR} {cn : Nat} {l : List Span} (hl : spC p Ks cn = l) {j : Nat} (hj : j < l.length) : 0 ≤ (sat l j).1 ∧ (sat l j).1 < cn ∧ 0 ≤ (sat l j).2.1 ∧ (sat l j).2.1.toNat < (kat Ks (sat l j).1.toNat).n := by
  obtain ⟨k', h1, i, h2, h3, _⟩ := spC_mem (x := sat l j) cn (by rw [hl]; exact sat_mem hj)
  rw [h3]
  simp only [Int.toNat_natCast]
  exact ⟨by omega, by omega, by omega, h2⟩
def usL (Ks : List CoreR) (l : List Span) : Nat → Int
  | 0 => 0
  | j + 1 => usL Ks l j + (wat (kat Ks (sat l j).1.toNat).L (sat l j).2.1.toNat).2.1
theorem us_step {Ks : List CoreR} {l : List Span} {j : Nat} {a n c L} (hk : kat Ks (sat l j).1.toNat = ⟨a, n, c, L⟩) : usL Ks l j + (wat L (sat l j).2.1.toNat).2.1 = usL Ks l (j + 1) := by simp [usL, hk]
theorem us_bound {w0 : World} {F : List Atom} {p : Int} {ca : Option Addr} {cn : Nat} {Ks : List CoreR} {l : List Span} (hC : CR w0 F ca cn Ks) (hm : AllMay Ks cn) (hl : spC p Ks cn = l) : ∀ j, j ≤ l.length → 0 ≤ usL Ks l j ∧ usL Ks l j ≤ 16384 * j
  | 0, _ => by simp [usL]
  | j + 1, hj => by
    have h1 := us_bound hC hm hl j (by omega)
    obtain ⟨y0, y1, y2, y3⟩ := sp_ok hl (j := j) (by omega)
    have h2 := (hm (sat l j).1.toNat (by omega)).2.2 (sat l j).2.1.toNat (by rw [(hC.2.1 _ (by omega)).1.1]; exact y3)
    unfold okW at h2
    simp only [usL]
    omega
theorem share_any (w0 : World) (F : List Atom) (fr mj kr rm : Int) (ca pa ha : Option Addr) (cn cc pn pc hn hc : Nat) (Ks : List CoreR) (hCR : CR w0 F ca cn Ks) (hcn : cn ≤ 9223372036854775807) (hpn : pn ≤ 9223372036854775807) (hmj : I64 mj) (p : Int) (p0 : -9223372036854775808 ≤ p) (p1 : p ≤ 9223372036854775807) (hcn2 : cn ≤ 2147483647) (r : Nat) (hq : Full Ks cn mj → floatBits .quo .f64 (floatOfInt .f64 (usL Ks (spC p Ks cn) (spC p Ks cn).length)) (floatOfInt .f64 mj) = some r) :
    CallK Try.prog 27 [.agg [Value.int .i64 fr, .int .i64 mj, .int .i64 kr, .int .i64 rm, .slice ca cn cc, .slice pa pn pc, .slice ha hn hc].toArray, .int .i64 p] w0 (F) (Gives w0 fun v F2 => ∃ x e, v = .tuple #[.float .f64 x, .int .i64 e] ∧ F2 = F ∧ (e = 0 → (0 ≤ p ∧ p < pn) ∧ Full Ks cn mj ∧ x = r) ∧ (e ≠ 0 → x = 0 ∧ ((e = 142 ∧ ¬ (0 ≤ p ∧ p < pn)) ∨ (e = 1 ∧ (0 ≤ p ∧ p < pn) ∧ ¬ Full Ks cn mj)))) := by
  have hCl := hCR.1
  refine c_enter Try.func27 rfl rfl rfl ?_
  refine g_seq ?_
  refine g_region ?_
  refine l_boxs rfl rfl ?_; intro b2
  refine l_assign rfl rfl ?_
  refine l_assign rfl rfl ?_
  refine l_nil ?_
  refine g_seq ?_
  refine g_region ?_
  refine l_lds rfl Try.isAgg27 Try.sizeOf27 rfl rfl ?_
  refine l_move rfl rfl ?_
  refine l_call rfl Try.call43 rfl (filled_any _ _ fr mj kr rm ca pa ha cn cc pn pc hn hc Ks hCR.ex hcn hpn hmj p p0 p1 hcn2) ?_; rintro _ _ ⟨u, e, l, rfl, rfl, hgo, hno⟩
  refine l_move rfl rfl ?_
  refine l_extract rfl rfl rfl ?_
  refine l_extract rfl rfl rfl ?_
  refine l_assign rfl rfl ?_
  refine l_assign rfl rfl ?_
  refine l_nil ?_
  refine g_seq ?_
  refine g_seq ?_
  refine g_region ?_
  refine l_move rfl rfl ?_
  refine l_neq rfl rfl rfl ?_
  refine l_nil ?_
  refine g_cond rfl ?_ ?_
  · intro hbr
    have hbr := of_decide_eq_true hbr
    refine g_seq ?_
    refine g_region ?_
    refine l_move rfl rfl ?_
    refine l_assign rfl rfl ?_
    refine l_assign rfl rfl ?_
    refine l_nil ?_
    refine g_ret Try.func27 rfl (.tmp rfl (.tmp rfl .nil)) ?_
    (first | exact Gives.mki ⟨_, 0, rfl, rfl, fun _ => ⟨hgi, ⟨hga, hg1, hg2, hg3⟩, rfl⟩, fun h => absurd rfl h⟩ | exact Gives.mki ⟨0, e, rfl, rfl, fun h => absurd h hbr, fun h => ⟨rfl, hno h⟩⟩)
  intro hbr
  have hbr := of_decide_eq_false hbr
  refine g_skip ?_
  refine g_seq ?_
  refine g_region ?_
  refine l_assign rfl rfl ?_
  refine l_nil ?_
  refine g_seq ?_
  refine g_seq ?_
  refine g_region ?_
  obtain ⟨hgi, ⟨hga, hg1, hg2, hg3⟩, hgl⟩ := hgo (Classical.not_not.1 hbr)
  refine l_fact (own_slice (mem_getO 0 rfl)) ?_
  rintro ⟨au, cu, rfl, hau⟩
  refine l_move rfl rfl ?_
  refine l_len rfl Try.underlying45 rfl ?_
  refine l_move rfl rfl ?_
  refine l_nil ?_
  refine g_block ?_
  refine g_loop (X := Int) (fun j => 0 ≤ j ∧ j ≤ l.length) (fun j => (l.length - j).toNat) (fun j => [(2, .pointer (some ⟨b2, 0, none⟩)), (8, .int .i64 (usL Ks l j.toNat)), (20, .slice au l.length cu), (21, .int .i64 l.length), (22, .int .i64 j)]) (fun j => Own 52 4 (.slice au l.length cu) l.length (spRows l) :: Blk b2 (.cells [.int .i64 fr, .int .i64 mj, .int .i64 kr, .int .i64 rm, .slice ca cn cc, .slice pa pn pc, .slice ha hn hc].toArray 27 (0, 0)) :: F) 0 (by omega) (.cons rfl (.cons rfl (.cons rfl (.cons rfl (.cons rfl (.nil)))))) (fun w hw => SPI.holds hw) ?_
  rintro j ⟨j0, j1⟩ ih
  have hub := us_bound hCR hga hgl j.toNat (by omega)
  have hlen : l.length ≤ 16 * cn := by rw [← hgl]; exact spC_len hCR cn (Nat.le_refl _) hga
  refine g_seq ?_
  refine g_region ?_
  refine l_lss rfl rfl rfl ?_
  refine l_nil ?_
  refine g_seq ?_
  refine g_cond rfl ?_ ?_
  · intro hbr
    have hbr := of_decide_eq_true hbr
    refine g_skip ?_
    refine g_seq ?_
    refine g_block ?_
    refine g_seq ?_
    refine g_region ?_
    obtain ⟨y0, y1, y2, y3⟩ := sp_ok hgl (j := j.toNat) (by omega)
    obtain ⟨⟨a, n, c, L⟩, hk⟩ : ∃ K, kat Ks (sat l j.toNat).1.toNat = K := ⟨_, rfl⟩
    rw [hk] at y3
    simp only at y3
    obtain ⟨hW, hn9⟩ := hCR.ok hk (by omega)
    have hL := hW.1
    have hI := hW.2.1
    unfold I64 at hI
    obtain ⟨hm1, hm2, hm3⟩ : May L := by have := hga (sat l j.toNat).1.toNat (by omega); rwa [hk] at this
    have hm4 := hm3 (sat l j.toNat).2.1.toNat (by omega)
    unfold okW at hm4
    obtain ⟨g5, rfl⟩ := hau.resolve_left (by omega)
    refine l_ixs rfl Try.underlying45 Try.sizeOf52 rfl rfl (by omega) (by omega) ?_
    refine l_loadr (l := spanRow (sat l j.toNat)) rfl Try.isAgg52 Try.sizeOf52 rfl rfl (row_elem (rows := l.map spanRow) (.own (mem_getO 0 rfl)) (sp_len l) (sp_at (by omega))) ?_
    refine l_allocs rfl Try.zeroValue52 ?_; intro b10
    refine l_sts Try.sizeOf52 rfl rfl rfl rfl rfl ?_
    refine l_nil ?_
    refine gp_start mo (by kernel_rfl) (by kernel_rfl) ?_
    refine gp_quiet 0 rfl rfl rfl rfl rfl rfl (q_move rfl) ?_
    refine gp_quiet 1 rfl rfl rfl rfl rfl rfl (q_fieldAddr fa_27_4 rfl) ?_
    refine gp_quiet 2 rfl rfl rfl rfl rfl rfl (q_ld Try.isAgg23 rfl rfl) ?_
    refine gp_quiet 3 rfl rfl rfl rfl rfl rfl (q_fieldAddr fa_52_0 rfl) ?_
    first | refine gp_quiet 4 rfl rfl rfl rfl rfl rfl (q_ld Try.isAgg3 rfl rfl) ?_ | refine gp_quiet 4 rfl rfl rfl rfl rfl rfl (q_ldw Try.isAgg3 rfl (by omega)) ?_
    obtain ⟨b8, o8, rfl, hr8⟩ := hCR.some (i := (sat l j.toNat).1.toNat) (by omega)
    refine gp_quiet 5 rfl rfl rfl rfl rfl rfl (q_ixs Try.underlying23 Try.sizeOf38 rfl rfl (by omega) (by omega)) ?_
    refine gp_quiet 6 rfl rfl rfl rfl rfl rfl (q_loadc Try.isAgg38 rfl (core_cell hr8.ex hk (by omega))) ?_
    refine gp_quiet 7 rfl rfl rfl rfl rfl rfl (q_fieldAddr fa_52_1 rfl) ?_
    first | refine gp_quiet 8 rfl rfl rfl rfl rfl rfl (q_ld Try.isAgg3 rfl rfl) ?_ | refine gp_quiet 8 rfl rfl rfl rfl rfl rfl (q_ldw Try.isAgg3 rfl (by omega)) ?_
    obtain ⟨b9, o9, rfl, hr9⟩ := hW.some (i := (sat l j.toNat).2.1.toNat) (by omega)
    refine gp_quiet 9 rfl rfl rfl rfl rfl rfl (q_ixs Try.underlying38 Try.sizeOf40 rfl rfl (by omega) (by omega)) ?_
    refine gp_quiet 10 rfl rfl rfl rfl rfl rfl (q_fieldAddr fa_40_1 rfl) ?_
    refine gp_quiet 11 rfl rfl rfl rfl rfl rfl (q_loadc Try.isAgg3 rfl ((row_elem hr9.ex (win_len L) (win_at (i := (sat l j.toNat).2.1.toNat) (by omega))).cell (j := 1) (v := .int .i64 (wat L (sat l j.toNat).2.1.toNat).2.1) rfl)) ?_
    first | refine gp_quiet 12 rfl rfl rfl rfl rfl rfl (q_add rfl rfl (w_i64 (by omega) (by omega))) ?_ | refine gp_quiet 12 rfl rfl rfl rfl rfl rfl (q_addw rfl rfl) ?_
    refine gp_after 13 rfl rfl rfl rfl rfl rfl rfl rfl (q_assign rfl) ?_
    refine gp_end rfl rfl ?_
    refine g_inBlock ?_
    refine g_region ?_
    first | refine l_add rfl rfl rfl (w_i64 (by omega) (by omega)) ?_ | refine l_addw rfl rfl rfl ?_
    refine l_move rfl rfl ?_
    refine l_nil ?_
    rw [us_step hk, show j.toNat + 1 = (j + 1).toNat by omega]
    exact g_againi (ih (j + 1) (by omega) (by omega)) (.cons rfl (.cons rfl (.cons rfl (.cons rfl (.cons rfl (.nil))))))
  intro hbr
  have hbr := of_decide_eq_false hbr
  refine g_exit rfl ?_
  obtain rfl : j = l.length := by omega
  rw [Int.toNat_natCast]
  refine g_seq ?_
  refine g_region ?_
  refine l_move rfl rfl ?_
  refine l_itof rfl Try.underlying3 Try.underlying53 rfl ?_
  refine l_fieldAddr rfl fa_27_1 rfl ?_
  first | refine l_ld rfl Try.isAgg3 rfl rfl ?_ | refine l_ldw rfl Try.isAgg3 rfl (by omega) ?_
  refine l_itof rfl Try.underlying3 Try.underlying53 rfl ?_
  replace hq := hq ⟨hga, hg1, hg2, hg3⟩
  rw [hgl] at hq
  refine l_fquo rfl rfl rfl hq ?_
  refine l_assign rfl rfl ?_
  refine l_assign rfl rfl ?_
  refine l_nil ?_
  refine g_ret Try.func27 rfl (.tmp rfl (.tmp rfl .nil)) ?_
  (first | exact Gives.mki ⟨_, 0, rfl, rfl, fun _ => ⟨hgi, ⟨hga, hg1, hg2, hg3⟩, rfl⟩, fun h => absurd rfl h⟩ | exact Gives.mki ⟨0, e, rfl, rfl, fun h => absurd h hbr, fun h => ⟨rfl, hno h⟩⟩)
end Go.Proofs.Ytfccfjgnoeocnaa.Fw
