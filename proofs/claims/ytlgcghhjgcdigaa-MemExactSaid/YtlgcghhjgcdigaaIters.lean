import Derived.Test.YtlgcghhjgcdigaaMore
namespace Go.Proofs.Ytlgcghhjgcdigaa.Fw
open Go Go.Proofs
set_option linter.unusedVariables false
set_option linter.unusedSimpArgs false
set_option maxRecDepth 10000

/-- A memory that is read: its words' slice, and its words. -/
def MemRd (w0 : World) (F : List Atom) (b g n c : Nat) (W : List Int) : Prop := CellAt w0 F b 0 (.slice (some ⟨g, 0, none⟩) n c) ∧ RowAt w0 F g 0 (ints .u32 W)
theorem MemRd.to {w0 : World} {F F' : List Atom} {b g n c : Nat} {W : List Int} (h : MemRd w0 F b g n c W) (hs : ∀ w, Holds w0 F' w → Holds w0 F w) : MemRd w0 F' b g n c W := ⟨fun w hw => h.1 w (hs w hw), fun w hw => h.2 w (hs w hw)⟩
theorem CellAt.to {w0 : World} {F F' : List Atom} {b o : Nat} {v : Value} (h : CellAt w0 F b o v) (hs : ∀ w, Holds w0 F' w → Holds w0 F w) : CellAt w0 F' b o v := fun w hw => h w (hs w hw)
theorem mem_rd {w0 : World} {F : List Atom} {b g n c : Nat} {W : List Int} (h1 : Blk b (.cells [Value.slice (some ⟨g, 0, none⟩) n c].toArray 77 (0, 0)) ∈ F) (h2 : Own 30 1 (.slice (some ⟨g, 0, none⟩) n c) n (ints .u32 W) ∈ F) : MemRd w0 F b g n c W :=
  ⟨fun w hw => by
    have h := hw.ok _ h1
    exact cell_of_has (c := [Value.slice (some ⟨g, 0, none⟩) n c]) (b := b) (o := 0) h rfl, .own h2⟩
theorem there_r (w0 : World) (F : List Atom) (b g n c : Nat) (W : List Int) (hM : MemRd w0 F b g n c W) (hW : W.length = n) (hn : n ≤ 1073741824) (at_ k : Int) (a0 : -9223372036854775808 ≤ at_) (a1 : at_ ≤ 9223372036854775807) (k0 : -9223372036854775808 ≤ k) (k1 : k ≤ 9223372036854775807) (h : inR n at_ k) :
    CallK Try.prog 29 [.pointer (some ⟨b, 0, none⟩), .int .i64 at_, .int .i64 k] w0 (F) (Gives w0 fun v F2 => v = .int .i64 0 ∧ F2 = F) := by
  unfold inR at h
  refine c_enter Try.func29 rfl rfl rfl ?_
  refine g_seq ?_
  refine g_region ?_
  refine l_assign rfl rfl ?_
  refine l_nil ?_
  refine g_seq ?_
  refine g_seq ?_
  refine g_region ?_
  refine l_move rfl rfl ?_
  refine l_eqpn rfl Try.underlying25 rfl rfl ?_
  refine l_nil ?_
  first | refine g_cond_f rfl ?_ | refine g_cond_f (congrArg (fun b => some (Value.bool b)) (decide_eq_false hbr)) ?_
  refine g_skip ?_
  refine g_seq ?_
  refine g_seq ?_
  refine g_region ?_
  refine l_move rfl rfl ?_
  refine l_lss rfl rfl rfl ?_
  refine l_move rfl rfl ?_
  refine l_split 11 rfl ?_ ?_
  · intro hbr
    have hbr := of_decide_eq_true hbr
    (exfalso; omega)
  intro hbr
  have hbr := of_decide_eq_false hbr
  refine l_guard_yes rfl rfl ?_
  refine l_move rfl rfl ?_
  refine l_guard_yes rfl rfl ?_
  refine l_lss rfl rfl rfl ?_
  refine l_pick_f rfl rfl rfl ?_
  refine l_move rfl rfl ?_
  refine l_split 15 rfl ?_ ?_
  · intro hbr
    have hbr := of_decide_eq_true hbr
    (exfalso; omega)
  intro hbr
  have hbr := of_decide_eq_false hbr
  refine l_guard_yes rfl rfl ?_
  refine l_move rfl rfl ?_
  refine l_guard_yes rfl rfl ?_
  refine l_move rfl rfl ?_
  refine l_guard_yes rfl rfl ?_
  refine l_nilCheck rfl rfl ?_
  refine l_guard_yes rfl rfl ?_
  refine l_fieldAddr rfl fa_77_0 rfl ?_
  refine l_guard_yes rfl rfl ?_
  refine l_loadc rfl Try.isAgg23 rfl hM.1 ?_
  refine l_guard_yes rfl rfl ?_
  refine l_len rfl Try.underlying23 rfl ?_
  refine l_guard_yes rfl rfl ?_
  refine l_gtr rfl rfl rfl ?_
  refine l_pick_f rfl rfl rfl ?_
  refine l_move rfl rfl ?_
  refine l_split 24 rfl ?_ ?_
  · intro hbr
    have hbr := of_decide_eq_true hbr
    (exfalso; omega)
  intro hbr
  have hbr := of_decide_eq_false hbr
  refine l_guard_yes rfl rfl ?_
  refine l_move rfl rfl ?_
  refine l_guard_yes rfl rfl ?_
  refine l_move rfl rfl ?_
  refine l_guard_yes rfl rfl ?_
  refine l_nilCheck rfl rfl ?_
  refine l_guard_yes rfl rfl ?_
  refine l_fieldAddr rfl fa_77_0 rfl ?_
  refine l_guard_yes rfl rfl ?_
  refine l_loadc rfl Try.isAgg23 rfl hM.1 ?_
  refine l_guard_yes rfl rfl ?_
  refine l_len rfl Try.underlying23 rfl ?_
  refine l_guard_yes rfl rfl ?_
  refine l_move rfl rfl ?_
  refine l_guard_yes rfl rfl ?_
  first | refine l_sub_ rfl rfl rfl (w_i64 (by omega) (by omega)) ?_ | refine l_subw rfl rfl rfl ?_
  refine l_guard_yes rfl rfl ?_
  refine l_gtr rfl rfl rfl ?_
  refine l_pick_f rfl rfl rfl ?_
  refine l_nil ?_
  refine g_cond rfl ?_ ?_
  · intro hbr
    have hbr := of_decide_eq_true hbr
    (exfalso; omega)
  intro hbr
  have hbr := of_decide_eq_false hbr
  refine g_skip ?_
  refine g_seq ?_
  refine g_region ?_
  refine l_assign rfl rfl ?_
  refine l_nil ?_
  refine g_ret Try.func29 rfl (.tmp rfl .nil) ?_
  exact Gives.mki ⟨rfl, rfl⟩
theorem read_r (w0 : World) (F : List Atom) (b g n c : Nat) (W : List Int) (hM : MemRd w0 F b g n c W) (hW : W.length = n) (hn : n ≤ 1073741824) (at_ : Int) (a1 : at_ ≤ 9223372036854775807) (h : inR n at_ 1) :
    CallK Try.prog 12 [.pointer (some ⟨b, 0, none⟩), .int .i64 at_] w0 (F) (Gives w0 fun v F2 => v = .tuple #[.int .u32 (W.getD at_.toNat 0), .int .i64 0] ∧ F2 = F) := by
  obtain ⟨h0, h1⟩ := inR1 h
  refine c_enter Try.func12 rfl rfl rfl ?_
  refine g_seq ?_
  refine g_region ?_
  refine l_assign rfl rfl ?_
  refine l_assign rfl rfl ?_
  refine l_nil ?_
  refine g_seq ?_
  refine g_seq ?_
  refine g_region ?_
  refine l_move rfl rfl ?_
  refine l_move rfl rfl ?_
  refine l_call rfl Try.call29 rfl (there_r _ _ b g n c W hM hW hn at_ 1 (by omega) a1 (by omega) (by omega) h) ?_; rintro _ _ ⟨rfl, rfl⟩
  refine l_assign rfl rfl ?_
  refine l_nil ?_
  refine g_seq ?_
  refine g_region ?_
  refine l_move rfl rfl ?_
  refine l_neq rfl rfl rfl ?_
  refine l_nil ?_
  refine g_cond rfl ?_ ?_
  · intro hbr
    have hbr := of_decide_eq_true hbr
    (exfalso; omega)
  intro hbr
  have hbr := of_decide_eq_false hbr
  refine g_skip ?_
  refine g_seq ?_
  refine g_region ?_
  refine l_move rfl rfl ?_
  refine l_nilCheck rfl rfl ?_
  refine l_fieldAddr rfl fa_77_0 rfl ?_
  refine l_loadc rfl Try.isAgg23 rfl hM.1 ?_
  refine l_move rfl rfl ?_
  refine l_ixs rfl Try.underlying23 Try.sizeOf30 rfl rfl (by omega) (by omega) ?_
  refine l_loadc (v := .int .u32 (W.getD at_.toNat 0)) rfl Try.isAgg30 rfl (word_row hM.2 (by omega)) ?_
  refine l_assign rfl rfl ?_
  refine l_assign rfl rfl ?_
  refine l_nil ?_
  refine g_ret Try.func12 rfl (.tmp rfl (.tmp rfl .nil)) ?_
  exact Gives.mki ⟨rfl, rfl⟩
theorem unlike_r (w0 : World) (F : List Atom) (b g c b2 g2 c2 n : Nat) (W W2 : List Int) (hM : MemRd w0 F b g n c W) (hW : W.length = n) (hM2 : MemRd w0 F b2 g2 n c2 W2) (hW2 : W2.length = n) (hn : n ≤ 1073741824) (at_ : Int) (a1 : at_ ≤ 9223372036854775807) (h : inR n at_ 1) :
    CallK Try.prog 31 [.pointer (some ⟨b, 0, none⟩), .pointer (some ⟨b2, 0, none⟩), .int .i64 at_] w0 (F) (Gives w0 fun v F2 => v = .bool (decide (W.getD at_.toNat 0 ≠ W2.getD at_.toNat 0)) ∧ F2 = F) := by
  refine c_enter Try.func31 rfl rfl rfl ?_
  refine g_seq ?_
  refine g_region ?_
  refine l_assign rfl rfl ?_
  refine l_nil ?_
  refine g_seq ?_
  refine g_region ?_
  refine l_move rfl rfl ?_
  refine l_move rfl rfl ?_
  refine l_call rfl Try.call12 rfl (read_r _ _ b g n c W hM hW hn at_ a1 h) ?_; rintro _ _ ⟨rfl, rfl⟩
  refine l_move rfl rfl ?_
  refine l_extract rfl rfl rfl ?_
  refine l_extract rfl rfl rfl ?_
  refine l_assign rfl rfl ?_
  refine l_assign rfl rfl ?_
  refine l_nil ?_
  refine g_seq ?_
  refine g_region ?_
  refine l_move rfl rfl ?_
  refine l_move rfl rfl ?_
  refine l_call rfl Try.call12 rfl (read_r _ _ b2 g2 n c2 W2 hM2 hW2 hn at_ a1 h) ?_; rintro _ _ ⟨rfl, rfl⟩
  refine l_move rfl rfl ?_
  refine l_extract rfl rfl rfl ?_
  refine l_extract rfl rfl rfl ?_
  refine l_assign rfl rfl ?_
  refine l_assign rfl rfl ?_
  refine l_nil ?_
  refine g_seq ?_
  refine g_region ?_
  refine l_move rfl rfl ?_
  refine l_move rfl rfl ?_
  refine l_neq rfl rfl rfl ?_
  refine l_move rfl rfl ?_
  refine l_split 26 rfl ?_ ?_
  · intro hbr
    have hbr := of_decide_eq_true hbr
    refine l_guard_no rfl rfl rfl ?_
    refine l_guard_no rfl rfl rfl ?_
    refine l_guard_no rfl rfl rfl ?_
    refine l_pick_t rfl rfl rfl ?_
    refine l_assign rfl rfl ?_
    refine l_nil ?_
    refine g_ret Try.func31 rfl (.tmp rfl .nil) ?_
    (first | exact Gives.mki ⟨by rw [decide_eq_true hbr]; rfl, rfl⟩ | exact Gives.mki ⟨by rw [decide_eq_false hbr]; rfl, rfl⟩)
  intro hbr
  have hbr := of_decide_eq_false hbr
  refine l_guard_yes rfl rfl ?_
  refine l_move rfl rfl ?_
  refine l_guard_yes rfl rfl ?_
  refine l_move rfl rfl ?_
  refine l_guard_yes rfl rfl ?_
  refine l_neq rfl rfl rfl ?_
  refine l_pick_f rfl rfl rfl ?_
  refine l_assign rfl rfl ?_
  refine l_nil ?_
  refine g_ret Try.func31 rfl (.tmp rfl .nil) ?_
  (first | exact Gives.mki ⟨by rw [decide_eq_true hbr]; rfl, rfl⟩ | exact Gives.mki ⟨by rw [decide_eq_false hbr]; rfl, rfl⟩)
set_option maxHeartbeats 4000000 in
theorem seq_r (w0 : World) (F : List Atom) {X : Type} (H : X → List Atom) (I : Int → X → Prop) (A B : X → List Int) (Stop : List Atom → Prop) (l bm bo b1 g1 c1 b2 g2 c2 n : Nat) (hn : n ≤ 1073741824)
    (hA : ∀ (k : Int) x, I k x → MemRd w0 (H x) b1 g1 n c1 (A x) ∧ (A x).length = n) (hB : ∀ (k : Int) x, I k x → MemRd w0 (H x) b2 g2 n c2 (B x) ∧ (B x).length = n) (hm : ∀ (k : Int) x, I k x → CellAt w0 (H x) bm 0 (.pointer (some ⟨b1, 0, none⟩)) ∧ CellAt w0 (H x) bo 0 (.pointer (some ⟨b2, 0, none⟩)))
    (hS : ∀ (k : Int) x, 0 ≤ k → k < n → I k x → (A x).getD k.toNat 0 = (B x).getD k.toNat 0 → I (k + 1) x)
    (hY : ∀ (k : Int) x, 0 ≤ k → k < n → I k x → (A x).getD k.toNat 0 ≠ (B x).getD k.toNat 0 → RoundK Try.prog l [.int .i64 k] w0 (H x) fun v F2 => ∃ q, v = .bool q ∧ (q = true → ∃ x', I (k + 1) x' ∧ ∀ w, Holds w0 F2 w → Holds w0 (H x') w) ∧ (q = false → Stop F2))
    (x0 : X) (h0 : I 0 x0) :
    CallK Try.prog 30 [.func (.yield l) #[] #[], .pointer (some ⟨bm, 0, none⟩), .pointer (some ⟨bo, 0, none⟩)] w0 (H x0) (Gives w0 fun v F2 => (∃ x, I n x ∧ F2 = H x) ∨ Stop F2) := by
  refine c_enter Try.func30 rfl rfl rfl ?_
  refine g_seq ?_
  refine g_seq ?_
  refine g_region ?_
  refine l_loadc (v := .pointer (some ⟨b1, 0, none⟩)) rfl Try.isAgg25 rfl (hm _ _ h0).1 ?_
  refine l_eqpn rfl Try.underlying25 rfl rfl ?_
  refine l_move rfl rfl ?_
  refine l_split 7 rfl ?_ ?_
  · intro hbr
    first | (exfalso; simp at hbr; done) | (exfalso; simp at hbr; omega)
  intro hbr
  have hb7 := hbr
  refine l_guard_yes rfl rfl ?_
  refine l_loadc (v := .pointer (some ⟨b2, 0, none⟩)) rfl Try.isAgg25 rfl (hm _ _ h0).2 ?_
  refine l_guard_yes rfl rfl ?_
  refine l_eqpn rfl Try.underlying25 rfl rfl ?_
  refine l_pick_f rfl rfl rfl ?_
  refine l_nil ?_
  refine g_cond rfl ?_ ?_
  · intro hbr
    first | (exfalso; simp at hbr; done) | (exfalso; simp at hbr; omega)
  intro hbr
  have hb10 := hbr
  refine g_skip ?_
  refine g_seq ?_
  refine gp_start mo (by kernel_rfl) (by kernel_rfl) ?_
  refine gp_quiet 0 rfl rfl rfl rfl rfl rfl (q_loadc (v := .pointer (some ⟨b1, 0, none⟩)) Try.isAgg25 rfl (hm _ _ h0).1) ?_
  refine gp_quiet 1 rfl rfl rfl rfl rfl rfl (q_nilCheck rfl) ?_
  refine gp_quiet 2 rfl rfl rfl rfl rfl rfl (q_fieldAddr fa_77_0 rfl) ?_
  refine gp_quiet 3 rfl rfl rfl rfl rfl rfl (q_loadc (v := .slice (some ⟨g1, 0, none⟩) n c1) Try.isAgg23 rfl (hA _ _ h0).1.1) ?_
  refine gp_quiet 4 rfl rfl rfl rfl rfl rfl (q_len Try.underlying23 rfl) ?_
  refine gp_quiet 5 rfl rfl rfl rfl rfl rfl (q_loadc (v := .pointer (some ⟨b2, 0, none⟩)) Try.isAgg25 rfl (hm _ _ h0).2) ?_
  refine gp_quiet 6 rfl rfl rfl rfl rfl rfl (q_nilCheck rfl) ?_
  refine gp_quiet 7 rfl rfl rfl rfl rfl rfl (q_fieldAddr fa_77_0 rfl) ?_
  refine gp_quiet 8 rfl rfl rfl rfl rfl rfl (q_loadc (v := .slice (some ⟨g2, 0, none⟩) n c2) Try.isAgg23 rfl (hB _ _ h0).1.1) ?_
  refine gp_quiet 9 rfl rfl rfl rfl rfl rfl (q_len Try.underlying23 rfl) ?_
  refine gp_quiet 10 rfl rfl rfl rfl rfl rfl (q_max rfl rfl) ?_
  refine gp_quiet 11 rfl rfl rfl rfl rfl rfl (q_move rfl) ?_
  refine gp_end rfl rfl ?_
  refine g_block ?_
  refine g_loopk (X := Int × X) [(0, _), (1, _), (2, _), (21, _)] (.cons rfl (.cons rfl (.cons rfl (.cons rfl (.nil))))) (fun z => 0 ≤ z.1 ∧ z.1 ≤ n ∧ I z.1 z.2) (fun z => ((n : Int) - z.1).toNat) (fun z => [(22, .int .i64 z.1)]) (fun z => H z.2) ((0, x0)) (⟨by simp only; omega, by simp only; omega, h0⟩) (.cons rfl .nil) (fun w hw => hw) ?_
  rintro ⟨i, x⟩ ⟨i0, i1, hI⟩ ih
  dsimp only [List.cons_append, List.nil_append] at ih ⊢
  simp only at i0 i1 hI
  refine g_seq ?_
  refine g_region ?_
  refine l_lss rfl rfl rfl ?_
  refine l_nil ?_
  refine g_seq ?_
  refine g_cond rfl ?_ ?_
  · intro hbr
    have hbr := of_decide_eq_true hbr
    refine g_skip ?_
    refine g_seq ?_
    refine g_block ?_
    refine g_seq ?_
    refine g_region ?_
    refine l_move rfl rfl ?_
    refine l_assign rfl rfl ?_
    refine l_nil ?_
    refine g_seq ?_
    refine g_region ?_
    refine l_loadc (v := .pointer (some ⟨b1, 0, none⟩)) rfl Try.isAgg25 rfl (hm _ _ hI).1 ?_
    refine l_loadc (v := .pointer (some ⟨b2, 0, none⟩)) rfl Try.isAgg25 rfl (hm _ _ hI).2 ?_
    refine l_move rfl rfl ?_
    refine l_call rfl Try.call31 rfl (unlike_r _ _ b1 g1 c1 b2 g2 c2 n (A x) (B x) (hA _ _ hI).1 (hA _ _ hI).2 (hB _ _ hI).1 (hB _ _ hI).2 hn i (by omega) (by unfold inR; omega)) ?_; rintro _ _ ⟨rfl, rfl⟩
    refine l_move rfl rfl ?_
    refine l_split 29 rfl ?_ ?_
    · intro hbr
      have hb29 := hbr
      refine l_guard_yes rfl rfl ?_
      refine l_move rfl rfl ?_
      refine l_guard_yes rfl rfl ?_
      refine l_move rfl rfl ?_
      refine l_guard_yes rfl rfl ?_
      refine l_yield rfl rfl rfl (hY i x i0 (by omega) hI (of_decide_eq_true hb29)) ?_
      rintro _ F3 ⟨q, rfl, hq1, hq2⟩
      refine l_guard_yes rfl rfl ?_
      refine l_not rfl rfl ?_
      refine l_pick_t rfl rfl rfl ?_
      refine l_nil ?_
      refine g_cond rfl ?_ ?_
      · intro hbr
        have hb34 := hbr
        refine g_ret Try.func30 rfl .nil ?_
        (first | exact Gives.mki (.inr (hq2 (by simpa using hb34))) | exact Gives.mki (.inl ⟨x, hI, rfl⟩))
      intro hbr
      have hb34 := hbr
      refine g_skip ?_
      refine g_inBlock ?_
      refine g_region ?_
      first | refine l_add rfl rfl rfl (w_i64 (by omega) (by omega)) ?_ | refine l_addw rfl rfl rfl ?_
      refine l_move rfl rfl ?_
      refine l_nil ?_
      (first | (obtain ⟨x2, hI2, hF3⟩ := hq1 (by simpa using hb34); refine g_heap hF3 ?_; exact g_againi (ih (i + 1, x2) ⟨by simp only; omega, by simp only; omega, hI2⟩ (by simp only; omega)) (.cons rfl (.cons rfl (.cons rfl (.cons rfl (.cons rfl (.nil))))))) | exact g_againi (ih (i + 1, x) ⟨by simp only; omega, by simp only; omega, hS i x i0 (by omega) hI (Decidable.not_not.1 (of_decide_eq_false hb29))⟩ (by simp only; omega)) (.cons rfl (.cons rfl (.cons rfl (.cons rfl (.cons rfl (.nil)))))))
    intro hbr
    have hb29 := hbr
    refine l_guard_no rfl rfl rfl ?_
    refine l_guard_no rfl rfl rfl ?_
    refine l_guard_no rfl rfl rfl ?_
    refine l_guard_no rfl rfl rfl ?_
    refine l_pick_f rfl rfl rfl ?_
    refine l_nil ?_
    first | refine g_cond_f rfl ?_ | refine g_cond_f (congrArg (fun b => some (Value.bool b)) (decide_eq_false hbr)) ?_
    refine g_skip ?_
    refine g_inBlock ?_
    refine g_region ?_
    first | refine l_add rfl rfl rfl (w_i64 (by omega) (by omega)) ?_ | refine l_addw rfl rfl rfl ?_
    refine l_move rfl rfl ?_
    refine l_nil ?_
    (first | (obtain ⟨x2, hI2, hF3⟩ := hq1 (by simpa using hb34); refine g_heap hF3 ?_; exact g_againi (ih (i + 1, x2) ⟨by simp only; omega, by simp only; omega, hI2⟩ (by simp only; omega)) (.cons rfl (.cons rfl (.cons rfl (.cons rfl (.cons rfl (.nil))))))) | exact g_againi (ih (i + 1, x) ⟨by simp only; omega, by simp only; omega, hS i x i0 (by omega) hI (Decidable.not_not.1 (of_decide_eq_false hb29))⟩ (by simp only; omega)) (.cons rfl (.cons rfl (.cons rfl (.cons rfl (.cons rfl (.nil)))))))
  intro hbr
  have hbr := of_decide_eq_false hbr
  refine g_exit rfl ?_
  obtain rfl : i = n := by omega
  refine g_end Try.func30 rfl .nil ?_
  (first | exact Gives.mki (.inr (hq2 (by simpa using hb34))) | exact Gives.mki (.inl ⟨x, hI, rfl⟩))
end Go.Proofs.Ytlgcghhjgcdigaa.Fw
