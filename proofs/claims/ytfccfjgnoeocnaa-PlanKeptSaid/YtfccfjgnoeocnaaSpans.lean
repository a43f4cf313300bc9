import Derived.Test.YtfccfjgnoeocnaaStarts
namespace Go.Proofs.Ytfccfjgnoeocnaa.Fw
open Go Go.Proofs
set_option linter.unusedVariables false
set_option linter.unusedSimpArgs false
set_option maxRecDepth 10000
theorem fa_27_5 (a : Addr) (w : World) : (Instr.fieldAt 27 (.pointer (some a)) 5).run Try.prog w = .ok (.pointer (some (a.add 5))) w := by
  simp [Instr.fieldAt, Try.runUnderlying27, Instr.sureAddr, fieldPlace, Try.sizeOf24, Sem.run_bind, Sem.run_pure]
theorem bd_52_0_1_2_3 (a0_0 : Int) (a1_0 : Int) (a2_0 : Int) (a3_0 : Int) (w : World) : (Instr.build 52 #[(0, .int .i64 a0_0), (1, .int .i64 a1_0), (2, .int .i64 a2_0), (3, .int .i64 a3_0)]).run Try.prog w = .ok (.agg #[.int .i64 a0_0, .int .i64 a1_0, .int .i64 a2_0, .int .i64 a3_0]) w := by kernel_rfl
theorem frame_any (w0 : World) (F : List Atom) (a : Option Addr) (n c : Nat) (L : List Win) (hW : WR w0 F a n L) (hn : n ≤ 9223372036854775807) : CallK Try.prog 37 [.slice a n c] w0 F (Gives w0 fun v F2 => ∃ u m e ok, v = .tuple #[u, .int .i64 e, .bool ok] ∧ F2 = Own 3 1 u m (ints .i64 (bgs L m)) :: F ∧ (ok = true → May L ∧ n = m ∧ bg L n = e ∧ ∃ g cg, .slice (some ⟨g, 0, none⟩) n cg = u ∧ n ≤ cg) ∧ (ok = false → ¬ May L ∧ e = 0)) := by
  by_cases hm : May L
  · exact (frame_ok w0 F a n c L hW hn hm).gmono fun v F2 ⟨g, cg, h1, h2, h3⟩ => ⟨_, n, _, true, h1, h3, fun _ => ⟨hm, rfl, rfl, g, cg, rfl, h2⟩, (fun h => by cases h)⟩
  · refine (frame_bad w0 F a n c L hW hn hm).mono fun en F2 h => ?_
    obtain ⟨v, F', h1, ⟨h2, h3⟩, h4⟩ := h
    refine ⟨v, Own 3 1 (.slice none 0 0) 0 [] :: F, h1, ⟨.slice none 0 0, 0, 0, false, h2, rfl, (fun h => by cases h), fun _ => ⟨hm, rfl⟩⟩, fun w hw => ?_⟩
    have := h4 w hw
    rw [h3] at this
    exact this.own_nil _ _
abbrev Span := Int × Int × Int × Int
def spanRow (x : Span) : List Value := [.int .i64 x.1, .int .i64 x.2.1, .int .i64 x.2.2.1, .int .i64 x.2.2.2]
def spRows (l : List Span) : List Value := (l.map spanRow).flatten
theorem spRows_snoc (l : List Span) (x : Span) : spRows l ++ spanRow x = spRows (l ++ [x]) := by simp [spRows]
def spK (p : Int) (k : Nat) (L : List Win) : Nat → List Span
  | 0 => []
  | i + 1 => if (wat L i).1 = p then spK p k L i ++ [((k : Int), (i : Int), bg L i, bg L (i + 1))] else spK p k L i
def spC (p : Int) (Ks : List CoreR) : Nat → List Span
  | 0 => []
  | k + 1 => spC p Ks k ++ spK p k (kat Ks k).L (kat Ks k).n
def spI (p : Int) (Ks : List CoreR) (k i : Nat) : List Span := spC p Ks k ++ spK p k (kat Ks k).L i
theorem spI_zero (p : Int) (Ks : List CoreR) (k : Nat) : spI p Ks k 0 = spC p Ks k := by simp [spI, spK]
theorem spI_yes {p : Int} {Ks : List CoreR} {k i : Nat} {a n c L} (hk : kat Ks k = ⟨a, n, c, L⟩) (h : (wat L i).1 = p) : spI p Ks k i ++ [((k : Int), (i : Int), bg L i, bg L (i + 1))] = spI p Ks k (i + 1) := by simp [spI, spK, hk, h]
theorem spI_no {p : Int} {Ks : List CoreR} {k i : Nat} {a n c L} (hk : kat Ks k = ⟨a, n, c, L⟩) (h : ¬ (wat L i).1 = p) : spI p Ks k i = spI p Ks k (i + 1) := by simp [spI, spK, hk, h]
theorem spI_end {p : Int} {Ks : List CoreR} {k : Nat} {a n c L} (hk : kat Ks k = ⟨a, n, c, L⟩) : spI p Ks k n = spC p Ks (k + 1) := by simp [spI, spC, hk]
theorem spK_len (p : Int) (k : Nat) (L : List Win) : ∀ i, (spK p k L i).length ≤ i
  | 0 => by simp [spK]
  | i + 1 => by
    have := spK_len p k L i
    unfold spK
    split <;> simp <;> omega
def AllMay (Ks : List CoreR) (n : Nat) : Prop := ∀ k : Nat, k < n → May (kat Ks k).L
theorem all_next {Ks : List CoreR} {k : Int} {a n c L} (hk : kat Ks k.toNat = ⟨a, n, c, L⟩) (h0 : 0 ≤ k) (hm : May L) (h : AllMay Ks k.toNat) : AllMay Ks (k + 1).toNat := by
  intro j hj
  by_cases hh : j < k.toNat
  · exact h j hh
  · have : j = k.toNat := by omega
    rw [this, hk]; exact hm
theorem spC_len {w0 : World} {F : List Atom} {p : Int} {ca : Option Addr} {cn : Nat} {Ks : List CoreR} (hC : CR w0 F ca cn Ks) : ∀ k, k ≤ cn → AllMay Ks k → (spC p Ks k).length ≤ 16 * k
  | 0, _, _ => by simp [spC]
  | k + 1, hk, hm => by
    have h1 := spC_len (p := p) hC k (by omega) fun j hj => hm j (by omega)
    have h2 := hm k (by omega)
    have h3 := spK_len p k (kat Ks k).L (kat Ks k).n
    have h4 := (hC.2.1 k (by omega)).1.1
    have h5 := h2.2.1
    simp only [spC, List.length_append]
    omega
theorem spans_out (w0 : World) (F : List Atom) (fr mj kr rm : Int) (ca pa ha : Option Addr) (cn cc pn pc hn hc : Nat) (Ks : List CoreR) (hCR : CR w0 F ca cn Ks) (hcn : cn ≤ 9223372036854775807) (hpn : pn ≤ 9223372036854775807) (hmj : I64 mj) (p : Int) (p0 : -9223372036854775808 ≤ p) (p1 : p ≤ 9223372036854775807) (ho : p < 0 ∨ pn ≤ p) :
    CallK Try.prog 22 [.agg [Value.int .i64 fr, .int .i64 mj, .int .i64 kr, .int .i64 rm, .slice ca cn cc, .slice pa pn pc, .slice ha hn hc].toArray, .int .i64 p] w0 (F) (Gives w0 fun v F2 => v = .tuple #[.slice none 0 0, .int .i64 142] ∧ F2 = F) := by
  refine c_enter Try.func22 rfl rfl rfl ?_
  refine g_seq ?_
  refine g_region ?_
  refine l_boxs rfl rfl ?_; intro b2
  refine l_assign rfl rfl ?_
  refine l_assign rfl rfl ?_
  refine l_nil ?_
  refine g_seq ?_
  refine g_seq ?_
  refine g_region ?_
  refine l_move rfl rfl ?_
  refine l_lss rfl rfl rfl ?_
  refine l_move rfl rfl ?_
  refine l_split 16 rfl ?_ ?_
  · intro hbr
    have hbr := of_decide_eq_true hbr
    refine l_guard_no rfl rfl rfl ?_
    refine l_guard_no rfl rfl rfl ?_
    refine l_guard_no rfl rfl rfl ?_
    refine l_guard_no rfl rfl rfl ?_
    refine l_guard_no rfl rfl rfl ?_
    refine l_pick_t rfl rfl rfl ?_
    refine l_nil ?_
    first | refine g_cond_t rfl ?_ | refine g_cond_t (congrArg (fun b => some (Value.bool b)) (decide_eq_true hbr)) ?_
    refine g_seq ?_
    refine g_region ?_
    refine l_assign rfl rfl ?_
    refine l_assign rfl rfl ?_
    refine l_nil ?_
    refine g_ret Try.func22 rfl (.tmp rfl (.tmp rfl .nil)) ?_
    exact Gives.mki ⟨rfl, rfl⟩
  intro hbr
  have hbr := of_decide_eq_false hbr
  refine l_guard_yes rfl rfl ?_
  refine l_move rfl rfl ?_
  refine l_guard_yes rfl rfl ?_
  refine l_fieldAddr rfl fa_27_5 rfl ?_
  refine l_guard_yes rfl rfl ?_
  refine l_ld rfl Try.isAgg24 rfl rfl ?_
  refine l_guard_yes rfl rfl ?_
  refine l_len rfl Try.underlying24 rfl ?_
  refine l_guard_yes rfl rfl ?_
  refine l_geq rfl rfl rfl ?_
  refine l_pick_f rfl rfl rfl ?_
  refine l_nil ?_
  refine g_cond rfl ?_ ?_
  · intro hbr
    have hbr := of_decide_eq_true hbr
    refine g_seq ?_
    refine g_region ?_
    refine l_assign rfl rfl ?_
    refine l_assign rfl rfl ?_
    refine l_nil ?_
    refine g_ret Try.func22 rfl (.tmp rfl (.tmp rfl .nil)) ?_
    exact Gives.mki ⟨rfl, rfl⟩
  · intro hbr
    have hbr := of_decide_eq_false hbr
    (exfalso; omega)
theorem spans_in (w0 : World) (F : List Atom) (fr mj kr rm : Int) (ca pa ha : Option Addr) (cn cc pn pc hn hc : Nat) (Ks : List CoreR) (hCR : CR w0 F ca cn Ks) (hcn : cn ≤ 9223372036854775807) (hpn : pn ≤ 9223372036854775807) (hmj : I64 mj) (p : Int) (p0 : -9223372036854775808 ≤ p) (p1 : p ≤ 9223372036854775807) (ho : 0 ≤ p ∧ p < pn) (hcn2 : cn ≤ 2147483647) :
    CallK Try.prog 22 [.agg [Value.int .i64 fr, .int .i64 mj, .int .i64 kr, .int .i64 rm, .slice ca cn cc, .slice pa pn pc, .slice ha hn hc].toArray, .int .i64 p] w0 (F) (Gives w0 fun v F2 => (∃ u, v = .tuple #[u, .int .i64 0] ∧ AllMay Ks cn ∧ F2 = Own 52 4 u (spC p Ks cn).length (spRows (spC p Ks cn)) :: F) ∨ (v = .tuple #[.slice none 0 0, .int .i64 1] ∧ ¬ AllMay Ks cn ∧ F2 = F)) := by
  have hCl := hCR.1
  refine c_enter Try.func22 rfl rfl rfl ?_
  refine g_seq ?_
  refine g_region ?_
  refine l_boxs rfl rfl ?_; intro b2
  refine l_assign rfl rfl ?_
  refine l_assign rfl rfl ?_
  refine l_nil ?_
  refine g_seq ?_
  refine g_seq ?_
  refine g_region ?_
  refine l_move rfl rfl ?_
  refine l_lss rfl rfl rfl ?_
  refine l_move rfl rfl ?_
  refine l_split 16 rfl ?_ ?_
  · intro hbr
    have hbr := of_decide_eq_true hbr
    (exfalso; omega)
  intro hbr
  have hbr := of_decide_eq_false hbr
  refine l_guard_yes rfl rfl ?_
  refine l_move rfl rfl ?_
  refine l_guard_yes rfl rfl ?_
  refine l_fieldAddr rfl fa_27_5 rfl ?_
  refine l_guard_yes rfl rfl ?_
  refine l_ld rfl Try.isAgg24 rfl rfl ?_
  refine l_guard_yes rfl rfl ?_
  refine l_len rfl Try.underlying24 rfl ?_
  refine l_guard_yes rfl rfl ?_
  refine l_geq rfl rfl rfl ?_
  refine l_pick_f rfl rfl rfl ?_
  refine l_nil ?_
  refine g_cond rfl ?_ ?_
  · intro hbr
    have hbr := of_decide_eq_true hbr
    (exfalso; omega)
  intro hbr
  have hbr := of_decide_eq_false hbr
  refine g_skip ?_
  refine g_seq ?_
  refine g_region ?_
  refine l_assign rfl rfl ?_
  refine l_nil ?_
  refine g_seq ?_
  refine g_seq ?_
  refine g_region ?_
  refine l_fieldAddr rfl fa_27_4 rfl ?_
  refine l_ld rfl Try.isAgg23 rfl rfl ?_
  refine l_len rfl Try.underlying23 rfl ?_
  refine l_move rfl rfl ?_
  refine l_nil ?_
  refine g_block ?_
  refine g_own_nil 52 4 ?_
  refine g_loop (X := Int × Value) (fun z => 0 ≤ z.1 ∧ z.1 ≤ cn ∧ AllMay Ks z.1.toNat) (fun z => (cn - z.1).toNat) (fun z => [(1, .int .i64 p), (6, z.2), (24, .slice ca cn cc), (25, .int .i64 cn), (26, .int .i64 z.1)]) (fun z => Own 52 4 z.2 (spC p Ks z.1.toNat).length (spRows (spC p Ks z.1.toNat)) :: F) (0, .slice none 0 0) ⟨by simp only; omega, by simp only; omega, fun j hj => by simp only at hj; omega⟩ (.cons rfl (.cons rfl (.cons rfl (.cons rfl (.cons rfl (.nil)))))) (fun w hw => (SPI.holds hw : Holds w0 (Own 52 4 (.slice none 0 0) 0 [] :: F) w)) ?_
  rintro ⟨k, v6⟩ ⟨k0, k1, hall⟩ ih
  dsimp only
  simp only at k0 k1 hall
  obtain ⟨⟨a, n, c, L⟩, hk⟩ : ∃ K, kat Ks k.toNat = K := ⟨_, rfl⟩
  refine g_seq ?_
  refine g_region ?_
  refine l_lss rfl rfl rfl ?_
  refine l_nil ?_
  refine g_seq ?_
  refine g_cond rfl ?_ ?_
  · intro hbr
    have hbr := of_decide_eq_true hbr
    refine g_skip ?_
    refine g_seq ?_
    refine g_block ?_
    refine g_seq ?_
    refine g_region ?_
    refine l_move rfl rfl ?_
    obtain ⟨b8, o8, rfl, hr8⟩ := hCR.some (i := k.toNat) (by omega)
    refine l_ixs rfl Try.underlying23 Try.sizeOf38 rfl rfl (by omega) (by omega) ?_
    obtain ⟨hW, hn9⟩ := hCR.ok hk (by omega)
    have hL := hW.1
    have hI := hW.2.1
    unfold I64 at hI
    refine l_loadc rfl Try.isAgg38 rfl (core_cell hr8.ex hk (by omega)) ?_
    refine l_assign rfl rfl ?_
    refine l_assign rfl rfl ?_
    refine l_nil ?_
    refine g_seq ?_
    refine g_region ?_
    refine l_move rfl rfl ?_
    refine l_call rfl Try.call37 rfl (frame_any _ _ a n c L hW.ex hn9) ?_; rintro _ _ ⟨u, m, e, ok, rfl, rfl, hok, hbad⟩
    refine l_move rfl rfl ?_
    refine l_extract rfl rfl rfl ?_
    refine l_extract rfl rfl rfl ?_
    refine l_extract rfl rfl rfl ?_
    refine l_assign rfl rfl ?_
    refine l_assign rfl rfl ?_
    refine l_assign rfl rfl ?_
    refine l_nil ?_
    refine g_seq ?_
    refine g_seq ?_
    refine g_region ?_
    refine l_move rfl rfl ?_
    refine l_not rfl rfl ?_
    refine l_nil ?_
    refine g_cond rfl ?_ ?_
    · intro hbr
      have hb38 := hbr
      refine g_seq ?_
      refine g_region ?_
      refine l_assign rfl rfl ?_
      refine l_assign rfl rfl ?_
      refine l_nil ?_
      refine g_ret Try.func22 rfl (.tmp rfl (.tmp rfl .nil)) ?_
      (first | exact Gives.mki (.inl ⟨_, rfl, hall, rfl⟩) | exact Gives.mki (.inr ⟨rfl, fun h => (hbad (nb_t hbr)).1 (by have := h k.toNat (by omega); rwa [hk] at this), rfl⟩))
    intro hbr
    have hb38 := hbr
    refine g_skip ?_
    refine g_seq ?_
    refine g_region ?_
    obtain ⟨hm, rfl, rfl, g, cg, rfl, hcg⟩ := hok (nb_f hbr)
    obtain ⟨m1, m2, _⟩ := id hm
    refine l_move rfl rfl ?_
    refine l_len rfl Try.underlying38 rfl ?_
    refine l_move rfl rfl ?_
    refine l_nil ?_
    refine g_block ?_
    rw [← spI_zero p Ks k.toNat]
    refine g_loop (X := Int × Value) (fun z => 0 ≤ z.1 ∧ z.1 ≤ n) (fun z => (n - z.1).toNat) (fun z => [(1, .int .i64 p), (6, z.2), (7, .int .i64 k), (9, .slice (some ⟨g, 0, none⟩) n cg), (24, .slice (some ⟨b8, o8, none⟩) cn cc), (25, .int .i64 cn), (26, .int .i64 k), (39, .slice a n c), (40, .int .i64 n), (41, .int .i64 z.1)]) (fun z => Own 52 4 z.2 (spI p Ks k.toNat z.1.toNat).length (spRows (spI p Ks k.toNat z.1.toNat)) :: Own 3 1 (.slice (some ⟨g, 0, none⟩) n cg) n (ints .i64 (bgs L n)) :: F) (0, v6) ⟨by simp only; omega, by simp only; omega⟩ (.cons rfl (.cons rfl (.cons rfl (.cons rfl (.cons rfl (.cons rfl (.cons rfl (.cons rfl (.cons rfl (.cons rfl (.nil))))))))))) (fun w hw => (SPI.holds hw : Holds w0 (Own 52 4 v6 (spI p Ks k.toNat 0).length (spRows (spI p Ks k.toNat 0)) :: Own 3 1 (.slice (some ⟨g, 0, none⟩) n cg) n (ints .i64 (bgs L n)) :: F) w)) ?_
    rintro ⟨i, v⟩ ⟨i0, i1⟩ ihi
    dsimp only
    simp only at i0 i1
    have hb1 := bg_bound hm.2.2 i.toNat (by omega)
    have hb2 := fun h => hm.2.2 i.toNat h
    unfold okW at hb2
    have hbs := @bg_step L i.toNat
    have hlen : (spI p Ks k.toNat i.toNat).length ≤ 16 * k.toNat + i.toNat := by
      have h1 := spC_len (p := p) hCR k.toNat (by omega) hall
      have h2 := spK_len p k.toNat (kat Ks k.toNat).L i.toNat
      simp only [spI, List.length_append]
      omega
    refine g_seq ?_
    refine g_region ?_
    refine l_lss rfl rfl rfl ?_
    refine l_nil ?_
    refine g_seq ?_
    refine g_cond rfl ?_ ?_
    · intro hbr
      have hbr := of_decide_eq_true hbr
      refine g_skip ?_
      refine g_seq ?_
      refine g_block ?_
      refine g_seq ?_
      refine g_region ?_
      refine l_move rfl rfl ?_
      have hIi := hI i.toNat (by omega)
      obtain ⟨b9, o9, rfl, hr9⟩ := hW.some (i := i.toNat) (by omega)
      refine l_ixs rfl Try.underlying38 Try.sizeOf40 rfl rfl (by omega) (by omega) ?_
      refine l_loadr (l := winRow (wat L i.toNat)) rfl Try.isAgg40 Try.sizeOf40 rfl rfl (row_elem hr9.ex (win_len L) (win_at (i := i.toNat) (by omega))) ?_
      refine l_allocs rfl Try.zeroValue40 ?_; intro b13
      refine l_assign rfl rfl ?_
      refine l_sts Try.sizeOf40 rfl rfl rfl rfl rfl ?_
      refine l_nil ?_
      refine g_seq ?_
      refine g_region ?_
      refine l_fieldAddr rfl fa_40_0 rfl ?_
      first | refine l_ld rfl Try.isAgg3 rfl rfl ?_ | refine l_ldw rfl Try.isAgg3 rfl (by omega) ?_
      refine l_move rfl rfl ?_
      refine l_eql rfl rfl rfl ?_
      refine l_nil ?_
      refine g_cond rfl ?_ ?_
      · intro hbr
        have hbr := of_decide_eq_true hbr
        refine gp_start mo (by kernel_rfl) (by kernel_rfl) ?_
        refine gp_quiet 0 rfl rfl rfl rfl rfl rfl (q_move rfl) ?_
        refine gp_quiet 1 rfl rfl rfl rfl rfl rfl (q_move rfl) ?_
        refine gp_quiet 2 rfl rfl rfl rfl rfl rfl (q_move rfl) ?_
        refine gp_quiet 3 rfl rfl rfl rfl rfl rfl (q_move rfl) ?_
        refine gp_quiet 4 rfl rfl rfl rfl rfl rfl (q_move rfl) ?_
        refine gp_quiet 5 rfl rfl rfl rfl rfl rfl (q_ixs Try.underlying35 Try.sizeOf3 rfl rfl (by omega) (by omega)) ?_
        refine gp_quiet 6 rfl rfl rfl rfl rfl rfl (q_loadc Try.isAgg3 rfl (bgs_cell (L := L) (n := n) (by omega))) ?_
        refine gp_quiet 7 rfl rfl rfl rfl rfl rfl (q_move rfl) ?_
        refine gp_quiet 8 rfl rfl rfl rfl rfl rfl (q_move rfl) ?_
        refine gp_quiet 9 rfl rfl rfl rfl rfl rfl (q_ixs Try.underlying35 Try.sizeOf3 rfl rfl (by omega) (by omega)) ?_
        refine gp_quiet 10 rfl rfl rfl rfl rfl rfl (q_loadc Try.isAgg3 rfl (bgs_cell (L := L) (n := n) (by omega))) ?_
        refine gp_quiet 11 rfl rfl rfl rfl rfl rfl (q_fieldAddr fa_40_1 rfl) ?_
        first | refine gp_quiet 12 rfl rfl rfl rfl rfl rfl (q_ld Try.isAgg3 rfl rfl) ?_ | refine gp_quiet 12 rfl rfl rfl rfl rfl rfl (q_ldw Try.isAgg3 rfl (by omega)) ?_
        first | refine gp_quiet 13 rfl rfl rfl rfl rfl rfl (q_add rfl rfl (w_i64 (by omega) (by omega))) ?_ | refine gp_quiet 13 rfl rfl rfl rfl rfl rfl (q_addw rfl rfl) ?_
        refine gp_quiet 14 rfl rfl rfl rfl rfl rfl (q_fieldAddr fa_40_2 rfl) ?_
        first | refine gp_quiet 15 rfl rfl rfl rfl rfl rfl (q_ld Try.isAgg3 rfl rfl) ?_ | refine gp_quiet 15 rfl rfl rfl rfl rfl rfl (q_ldw Try.isAgg3 rfl (by omega)) ?_
        first | refine gp_quiet 16 rfl rfl rfl rfl rfl rfl (q_add rfl rfl (w_i64 (by omega) (by omega))) ?_ | refine gp_quiet 16 rfl rfl rfl rfl rfl rfl (q_addw rfl rfl) ?_
        refine gp_quiet 17 rfl rfl rfl rfl rfl rfl (q_build rfl (fun w => bd_52_0_1_2_3 _ _ _ _ w)) ?_
        refine gp_effa 18 [17] [16, 15, 14, 13, 12, 11, 10, 9, 8, 7, 6, 5, 4, 3, 2, 1, 0] rfl rfl rfl rfl rfl rfl rfl (does_buildSlice Try.underlying45 Try.sizeOf52 Try.zeroValue52 rfl rfl rfl rfl rfl rfl) ?_
        rintro _ _ ⟨b68, rfl, rfl⟩
        refine ⟨?_, ?_⟩
        · first | refine .cons rfl rfl rfl rfl rfl (q_add rfl rfl (w_i64 (by omega) (by omega))) ?_ | refine .cons rfl rfl rfl rfl rfl (q_addw rfl rfl) ?_
          first | refine .cons rfl rfl rfl rfl rfl (q_ld Try.isAgg3 rfl rfl) ?_ | refine .cons rfl rfl rfl rfl rfl (q_ldw Try.isAgg3 rfl (by omega)) ?_
          refine .cons rfl rfl rfl rfl rfl (q_fieldAddr fa_40_2 rfl) ?_
          first | refine .cons rfl rfl rfl rfl rfl (q_add rfl rfl (w_i64 (by omega) (by omega))) ?_ | refine .cons rfl rfl rfl rfl rfl (q_addw rfl rfl) ?_
          first | refine .cons rfl rfl rfl rfl rfl (q_ld Try.isAgg3 rfl rfl) ?_ | refine .cons rfl rfl rfl rfl rfl (q_ldw Try.isAgg3 rfl (by omega)) ?_
          refine .cons rfl rfl rfl rfl rfl (q_fieldAddr fa_40_1 rfl) ?_
          refine .cons rfl rfl rfl rfl rfl (q_loadc Try.isAgg3 rfl (bgs_cell (L := L) (n := n) (by omega))) ?_
          refine .cons rfl rfl rfl rfl rfl (q_ixs Try.underlying35 Try.sizeOf3 rfl rfl (by omega) (by omega)) ?_
          refine .cons rfl rfl rfl rfl rfl (q_move rfl) ?_
          refine .cons rfl rfl rfl rfl rfl (q_move rfl) ?_
          refine .cons rfl rfl rfl rfl rfl (q_loadc Try.isAgg3 rfl (bgs_cell (L := L) (n := n) (by omega))) ?_
          refine .cons rfl rfl rfl rfl rfl (q_ixs Try.underlying35 Try.sizeOf3 rfl rfl (by omega) (by omega)) ?_
          refine .cons rfl rfl rfl rfl rfl (q_move rfl) ?_
          refine .cons rfl rfl rfl rfl rfl (q_move rfl) ?_
          refine .cons rfl rfl rfl rfl rfl (q_move rfl) ?_
          refine .cons rfl rfl rfl rfl rfl (q_move rfl) ?_
          refine .cons rfl rfl rfl rfl rfl (q_move rfl) ?_
          exact .nil
        refine gp_effa 19 [0] [16, 15, 14, 13, 12, 11, 10, 9, 8, 7, 6, 5, 4, 3, 2, 1] rfl rfl rfl rfl rfl rfl rfl (does_append 2 (sz := 4) (by_ := 32) (m2 := 1) (news := spanRow (k, i, bg L i.toNat, bg L i.toNat + (wat L i.toNat).2.1 + (wat L i.toNat).2.2)) Try.underlying45 Try.type52 rfl rfl rfl rfl rfl rfl rfl rfl ⟨rfl, .inl ⟨_, _, _, rfl, .own (mem_getO 0 rfl)⟩⟩ rfl (by omega) (by simp only [maxLen]; omega) (fun _ => rfl)) ?_
        rintro v69 _ ⟨hv69, rfl⟩
        refine ⟨?_, ?_⟩
        · first | refine .cons rfl rfl rfl rfl rfl (q_add rfl rfl (w_i64 (by omega) (by omega))) ?_ | refine .cons rfl rfl rfl rfl rfl (q_addw rfl rfl) ?_
          first | refine .cons rfl rfl rfl rfl rfl (q_ld Try.isAgg3 rfl rfl) ?_ | refine .cons rfl rfl rfl rfl rfl (q_ldw Try.isAgg3 rfl (by omega)) ?_
          refine .cons rfl rfl rfl rfl rfl (q_fieldAddr fa_40_2 rfl) ?_
          first | refine .cons rfl rfl rfl rfl rfl (q_add rfl rfl (w_i64 (by omega) (by omega))) ?_ | refine .cons rfl rfl rfl rfl rfl (q_addw rfl rfl) ?_
          first | refine .cons rfl rfl rfl rfl rfl (q_ld Try.isAgg3 rfl rfl) ?_ | refine .cons rfl rfl rfl rfl rfl (q_ldw Try.isAgg3 rfl (by omega)) ?_
          refine .cons rfl rfl rfl rfl rfl (q_fieldAddr fa_40_1 rfl) ?_
          refine .cons rfl rfl rfl rfl rfl (q_loadc Try.isAgg3 rfl (bgs_cell (L := L) (n := n) (by omega))) ?_
          refine .cons rfl rfl rfl rfl rfl (q_ixs Try.underlying35 Try.sizeOf3 rfl rfl (by omega) (by omega)) ?_
          refine .cons rfl rfl rfl rfl rfl (q_move rfl) ?_
          refine .cons rfl rfl rfl rfl rfl (q_move rfl) ?_
          refine .cons rfl rfl rfl rfl rfl (q_loadc Try.isAgg3 rfl (bgs_cell (L := L) (n := n) (by omega))) ?_
          refine .cons rfl rfl rfl rfl rfl (q_ixs Try.underlying35 Try.sizeOf3 rfl rfl (by omega) (by omega)) ?_
          refine .cons rfl rfl rfl rfl rfl (q_move rfl) ?_
          refine .cons rfl rfl rfl rfl rfl (q_move rfl) ?_
          refine .cons rfl rfl rfl rfl rfl (q_move rfl) ?_
          refine .cons rfl rfl rfl rfl rfl (q_move rfl) ?_
          exact .nil
        refine gp_after 20 rfl rfl rfl rfl rfl rfl rfl rfl (q_assign rfl) ?_
        refine gp_end rfl rfl ?_
        refine g_inBlock ?_
        refine g_region ?_
        first | refine l_add rfl rfl rfl (w_i64 (by omega) (by omega)) ?_ | refine l_addw rfl rfl rfl ?_
        refine l_move rfl rfl ?_
        refine l_nil ?_
        (first | (rw [spI_no hk hbr, show i.toNat + 1 = (i + 1).toNat by omega]; exact g_againi (ihi (i + 1, v) ⟨by simp only; omega, by simp only; omega⟩ (by simp only; omega)) (.cons rfl (.cons rfl (.cons rfl (.cons rfl (.cons rfl (.cons rfl (.cons rfl (.cons rfl (.cons rfl (.cons rfl (.nil)))))))))))) | (have hy := spI_yes hk hbr; rw [Int.toNat_of_nonneg k0, Int.toNat_of_nonneg i0] at hy; rw [show bg L i.toNat + (wat L i.toNat).2.1 + (wat L i.toNat).2.2 = bg L (i.toNat + 1) by omega, show (spI p Ks k.toNat i.toNat).length + 1 = (spI p Ks k.toNat i.toNat ++ [(k, i, bg L i.toNat, bg L (i.toNat + 1))]).length by simp, spRows_snoc, hy, show i.toNat + 1 = (i + 1).toNat by omega]; exact g_againi (ihi (i + 1, v69) ⟨by simp only; omega, by simp only; omega⟩ (by simp only; omega)) (.cons rfl (.cons rfl (.cons rfl (.cons rfl (.cons rfl (.cons rfl (.cons rfl (.cons rfl (.cons rfl (.cons rfl (.nil)))))))))))))
      intro hbr
      have hbr := of_decide_eq_false hbr
      refine g_skip ?_
      refine g_inBlock ?_
      refine g_region ?_
      first | refine l_add rfl rfl rfl (w_i64 (by omega) (by omega)) ?_ | refine l_addw rfl rfl rfl ?_
      refine l_move rfl rfl ?_
      refine l_nil ?_
      (first | (rw [spI_no hk hbr, show i.toNat + 1 = (i + 1).toNat by omega]; exact g_againi (ihi (i + 1, v) ⟨by simp only; omega, by simp only; omega⟩ (by simp only; omega)) (.cons rfl (.cons rfl (.cons rfl (.cons rfl (.cons rfl (.cons rfl (.cons rfl (.cons rfl (.cons rfl (.cons rfl (.nil)))))))))))) | (have hy := spI_yes hk hbr; rw [Int.toNat_of_nonneg k0, Int.toNat_of_nonneg i0] at hy; rw [show bg L i.toNat + (wat L i.toNat).2.1 + (wat L i.toNat).2.2 = bg L (i.toNat + 1) by omega, show (spI p Ks k.toNat i.toNat).length + 1 = (spI p Ks k.toNat i.toNat ++ [(k, i, bg L i.toNat, bg L (i.toNat + 1))]).length by simp, spRows_snoc, hy, show i.toNat + 1 = (i + 1).toNat by omega]; exact g_againi (ihi (i + 1, v69) ⟨by simp only; omega, by simp only; omega⟩ (by simp only; omega)) (.cons rfl (.cons rfl (.cons rfl (.cons rfl (.cons rfl (.cons rfl (.cons rfl (.cons rfl (.cons rfl (.cons rfl (.nil)))))))))))))
    intro hbr
    have hbr := of_decide_eq_false hbr
    refine g_exit rfl ?_
    obtain rfl : i = n := by omega
    rw [Int.toNat_natCast, spI_end hk]
    refine g_inBlock ?_
    refine g_region ?_
    first | refine l_add rfl rfl rfl (w_i64 (by omega) (by omega)) ?_ | refine l_addw rfl rfl rfl ?_
    refine l_move rfl rfl ?_
    refine l_nil ?_
    rw [show k.toNat + 1 = (k + 1).toNat by omega]
    exact g_againi (ih (k + 1, v) ⟨by simp only; omega, by simp only; omega, all_next hk k0 hm hall⟩ (by simp only; omega)) (.cons rfl (.cons rfl (.cons rfl (.cons rfl (.cons rfl (.nil))))))
  intro hbr
  have hbr := of_decide_eq_false hbr
  refine g_exit rfl ?_
  obtain rfl : k = cn := by omega
  rw [Int.toNat_natCast] at hall ⊢
  refine g_seq ?_
  refine g_region ?_
  refine l_move rfl rfl ?_
  refine l_assign rfl rfl ?_
  refine l_assign rfl rfl ?_
  refine l_nil ?_
  refine g_ret Try.func22 rfl (.tmp rfl (.tmp rfl .nil)) ?_
  (first | exact Gives.mki (.inl ⟨_, rfl, hall, rfl⟩) | exact Gives.mki (.inr ⟨rfl, fun h => (hbad (nb_t hbr)).1 (by have := h k.toNat (by omega); rwa [hk] at this), rfl⟩))
end Go.Proofs.Ytfccfjgnoeocnaa.Fw
