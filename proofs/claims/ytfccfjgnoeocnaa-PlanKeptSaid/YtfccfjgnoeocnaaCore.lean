import Derived.Test.YtfccfjgnoeocnaaCfg
namespace Go.Proofs.Ytfccfjgnoeocnaa.Fw
open Go Go.Proofs
set_option linter.unusedVariables false
set_option linter.unusedSimpArgs false
set_option maxRecDepth 10000
theorem fa_27_5 (a : Addr) (w : World) : (Instr.fieldAt 27 (.pointer (some a)) 5).run Try.prog w = .ok (.pointer (some (a.add 5))) w := by
  simp [Instr.fieldAt, Try.runUnderlying27, Instr.sureAddr, fieldPlace, Try.sizeOf24, Sem.run_bind, Sem.run_pure]
theorem fa_27_4 (a : Addr) (w : World) : (Instr.fieldAt 27 (.pointer (some a)) 4).run Try.prog w = .ok (.pointer (some (a.add 4))) w := by
  simp [Instr.fieldAt, Try.runUnderlying27, Instr.sureAddr, fieldPlace, Try.sizeOf23, Sem.run_bind, Sem.run_pure]
theorem fa_40_0 (a : Addr) (w : World) : (Instr.fieldAt 40 (.pointer (some a)) 0).run Try.prog w = .ok (.pointer (some (a.add 0))) w := by
  simp [Instr.fieldAt, Try.runUnderlying40, Instr.sureAddr, fieldPlace, Try.sizeOf3, Sem.run_bind, Sem.run_pure]
def HasP (p : Int) (L : List Win) (n : Nat) : Prop := ∃ i, i < n ∧ (wat L i).1 = p
def CoreSays (Ks : List CoreR) (cn pn : Nat) (p x e : Int) : Prop := (¬ (0 ≤ p ∧ p < pn) → x = 0 ∧ e = 142) ∧ ((0 ≤ p ∧ p < pn) → e = 0 ∧ ((∃ k : Nat, k < cn ∧ HasP p (kat Ks k).L (kat Ks k).n ∧ (∀ j, j < k → ¬ HasP p (kat Ks j).L (kat Ks j).n) ∧ x = k) ∨ ((∀ j, j < cn → ¬ HasP p (kat Ks j).L (kat Ks j).n) ∧ x = -1)))
theorem core_one {Ks : List CoreR} {cn pn : Nat} {p x e y f : Int} (h1 : CoreSays Ks cn pn p x e) (h2 : CoreSays Ks cn pn p y f) : x = y ∧ e = f := by
  unfold CoreSays at h1 h2
  by_cases hp : 0 ≤ p ∧ p < pn
  · obtain ⟨a1, a2⟩ := h1.2 hp
    obtain ⟨b1, b2⟩ := h2.2 hp
    refine ⟨?_, by omega⟩
    rcases a2 with ⟨k, a3, a4, a5, a6⟩ | ⟨a3, a4⟩ <;> rcases b2 with ⟨k2, b3, b4, b5, b6⟩ | ⟨b3, b4⟩
    · rcases Nat.lt_trichotomy k k2 with h | h | h
      · exact absurd a4 (b5 k h)
      · omega
      · exact absurd b4 (a5 k2 h)
    · exact absurd a4 (b3 k a3)
    · exact absurd b4 (a3 k2 b3)
    · omega
  · obtain ⟨a1, a2⟩ := h1.1 hp
    obtain ⟨b1, b2⟩ := h2.1 hp
    omega
theorem no_next {p : Int} {L : List Win} {i : Nat} (h : ∀ j, j < i → ¬ (wat L j).1 = p) (h1 : ¬ (wat L i).1 = p) : ∀ j, j < i + 1 → ¬ (wat L j).1 = p := fun j hj => by
  by_cases hh : j < i
  · exact h j hh
  · have : j = i := by omega
    rw [this]; exact h1
theorem nop_next {p : Int} {Ks : List CoreR} {k : Nat} {a n c L} (hk : kat Ks k = ⟨a, n, c, L⟩) (h : ∀ j, j < k → ¬ HasP p (kat Ks j).L (kat Ks j).n) (h1 : ∀ i, i < n → ¬ (wat L i).1 = p) : ∀ j, j < k + 1 → ¬ HasP p (kat Ks j).L (kat Ks j).n := fun j hj => by
  by_cases hh : j < k
  · exact h j hh
  · have : j = k := by omega
    rw [this, hk]
    rintro ⟨i, h2, h3⟩
    exact h1 i h2 h3
theorem core_any (w0 : World) (F : List Atom) (fr mj kr rm : Int) (ca pa ha : Option Addr) (cn cc pn pc hn hc : Nat) (Ks : List CoreR) (hCR : CR w0 F ca cn Ks) (hcn : cn ≤ 9223372036854775807) (hpn : pn ≤ 9223372036854775807) (hmj : I64 mj) (p : Int) (p0 : -9223372036854775808 ≤ p) (p1 : p ≤ 9223372036854775807) :
    CallK Try.prog 25 [.agg [Value.int .i64 fr, .int .i64 mj, .int .i64 kr, .int .i64 rm, .slice ca cn cc, .slice pa pn pc, .slice ha hn hc].toArray, .int .i64 p] w0 (F) (Gives w0 fun v F2 => ∃ x e, v = .tuple #[.int .i64 x, .int .i64 e] ∧ F2 = F ∧ CoreSays Ks cn pn p x e) := by
  have hCl := hCR.1
  refine c_enter Try.func25 rfl rfl rfl ?_
  refine g_seq ?_
  refine g_region ?_
  refine l_boxs rfl rfl ?_; intro b2
  refine l_assign rfl rfl ?_
  refine l_assign rfl rfl ?_
  refine l_nil ?_
  refine g_seq ?_
  refine g_seq ?_
  refine g_region ?_
  refine l_move rfl rfl ?_
  refine l_lss rfl rfl rfl ?_
  refine l_move rfl rfl ?_
  refine l_split 12 rfl ?_ ?_
  · intro hbr
    have hbr := of_decide_eq_true hbr
    refine l_guard_no rfl rfl rfl ?_
    refine l_guard_no rfl rfl rfl ?_
    refine l_guard_no rfl rfl rfl ?_
    refine l_guard_no rfl rfl rfl ?_
    refine l_guard_no rfl rfl rfl ?_
    refine l_pick_t rfl rfl rfl ?_
    refine l_nil ?_
    first | refine g_cond_t rfl ?_ | refine g_cond_t (congrArg (fun b => some (Value.bool b)) (decide_eq_true hbr)) ?_
    refine g_seq ?_
    refine g_region ?_
    refine l_assign rfl rfl ?_
    refine l_assign rfl rfl ?_
    refine l_nil ?_
    refine g_ret Try.func25 rfl (.tmp rfl (.tmp rfl .nil)) ?_
    (first | exact Gives.mki ⟨_, _, rfl, rfl, fun h => absurd ⟨by omega, by omega⟩ h, fun _ => ⟨rfl, .inl ⟨k.toNat, by omega, by rw [hk]; exact ⟨i.toNat, by simp only; omega, hbr⟩, hnp, by omega⟩⟩⟩ | exact Gives.mki ⟨_, _, rfl, rfl, fun h => absurd ⟨by omega, by omega⟩ h, fun _ => ⟨rfl, .inr ⟨hnp, rfl⟩⟩⟩ | exact Gives.mki ⟨_, _, rfl, rfl, fun _ => ⟨rfl, rfl⟩, fun h => by omega⟩)
  intro hbr
  have hbr := of_decide_eq_false hbr
  refine l_guard_yes rfl rfl ?_
  refine l_move rfl rfl ?_
  refine l_guard_yes rfl rfl ?_
  refine l_fieldAddr rfl fa_27_5 rfl ?_
  refine l_guard_yes rfl rfl ?_
  refine l_ld rfl Try.isAgg24 rfl rfl ?_
  refine l_guard_yes rfl rfl ?_
  refine l_len rfl Try.underlying24 rfl ?_
  refine l_guard_yes rfl rfl ?_
  refine l_geq rfl rfl rfl ?_
  refine l_pick_f rfl rfl rfl ?_
  refine l_nil ?_
  refine g_cond rfl ?_ ?_
  · intro hbr
    have hbr := of_decide_eq_true hbr
    refine g_seq ?_
    refine g_region ?_
    refine l_assign rfl rfl ?_
    refine l_assign rfl rfl ?_
    refine l_nil ?_
    refine g_ret Try.func25 rfl (.tmp rfl (.tmp rfl .nil)) ?_
    (first | exact Gives.mki ⟨_, _, rfl, rfl, fun h => absurd ⟨by omega, by omega⟩ h, fun _ => ⟨rfl, .inl ⟨k.toNat, by omega, by rw [hk]; exact ⟨i.toNat, by simp only; omega, hbr⟩, hnp, by omega⟩⟩⟩ | exact Gives.mki ⟨_, _, rfl, rfl, fun h => absurd ⟨by omega, by omega⟩ h, fun _ => ⟨rfl, .inr ⟨hnp, rfl⟩⟩⟩ | exact Gives.mki ⟨_, _, rfl, rfl, fun _ => ⟨rfl, rfl⟩, fun h => by omega⟩)
  intro hbr
  have hbr := of_decide_eq_false hbr
  refine g_skip ?_
  refine g_seq ?_
  refine g_seq ?_
  refine g_region ?_
  refine l_fieldAddr rfl fa_27_4 rfl ?_
  refine l_ld rfl Try.isAgg23 rfl rfl ?_
  refine l_len rfl Try.underlying23 rfl ?_
  refine l_move rfl rfl ?_
  refine l_nil ?_
  refine g_block ?_
  refine g_loopc (X := Int) [(1, _), (20, _), (21, _)] (.cons rfl (.cons rfl (.cons rfl (.nil)))) (fun k => 0 ≤ k ∧ k ≤ cn ∧ ∀ j, j < k.toNat → ¬ HasP p (kat Ks j).L (kat Ks j).n) (fun k => (cn - k).toNat) (fun k => [(22, .int .i64 k)]) (0) (⟨by omega, by omega, fun j hj => by simp at hj⟩) (.cons rfl .nil) ?_
  rintro k ⟨k0, k1, hnp⟩ ih
  dsimp only [List.cons_append, List.nil_append] at ih ⊢
  obtain ⟨⟨a, n, c, L⟩, hk⟩ : ∃ K, kat Ks k.toNat = K := ⟨_, rfl⟩
  refine g_seq ?_
  refine g_region ?_
  refine l_lss rfl rfl rfl ?_
  refine l_nil ?_
  refine g_seq ?_
  refine g_cond rfl ?_ ?_
  · intro hbr
    have hbr := of_decide_eq_true hbr
    refine g_skip ?_
    refine g_seq ?_
    refine g_block ?_
    refine g_seq ?_
    refine g_region ?_
    refine l_move rfl rfl ?_
    obtain ⟨b8, o8, rfl, hr8⟩ := hCR.some (i := k.toNat) (by omega)
    refine l_ixs rfl Try.underlying23 Try.sizeOf38 rfl rfl (by omega) (by omega) ?_
    obtain ⟨hW, hn9⟩ := hCR.ok hk (by omega)
    have hL := hW.1
    have hI := hW.2.1
    unfold I64 at hI
    refine l_loadc rfl Try.isAgg38 rfl (core_cell hr8.ex hk (by omega)) ?_
    refine l_assign rfl rfl ?_
    refine l_assign rfl rfl ?_
    refine l_nil ?_
    refine g_seq ?_
    refine g_region ?_
    refine l_move rfl rfl ?_
    refine l_len rfl Try.underlying38 rfl ?_
    refine l_move rfl rfl ?_
    refine l_nil ?_
    refine g_block ?_
    refine g_loopc (X := Int) [(1, _), (6, _), (7, _), (20, _), (21, _), (22, _), (23, _), (24, _), (25, _), (26, _), (27, _), (28, _)] (.cons rfl (.cons rfl (.cons rfl (.cons rfl (.cons rfl (.cons rfl (.cons rfl (.cons rfl (.cons rfl (.cons rfl (.cons rfl (.cons rfl (.nil))))))))))))) (fun i => 0 ≤ i ∧ i ≤ n ∧ ∀ j, j < i.toNat → ¬ (wat L j).1 = p) (fun i => (n - i).toNat) (fun i => [(29, .int .i64 i)]) (0) (⟨by omega, by omega, fun j hj => by simp at hj⟩) (.cons rfl .nil) ?_
    rintro i ⟨i0, i1, hni⟩ ihi
    dsimp only [List.cons_append, List.nil_append] at ihi ⊢
    refine g_seq ?_
    refine g_region ?_
    refine l_lss rfl rfl rfl ?_
    refine l_nil ?_
    refine g_seq ?_
    refine g_cond rfl ?_ ?_
    · intro hbr
      have hbr := of_decide_eq_true hbr
      refine g_skip ?_
      refine g_seq ?_
      refine g_block ?_
      refine g_seq ?_
      refine g_region ?_
      have hIi := hI i.toNat (by omega)
      obtain ⟨b9, o9, rfl, hr9⟩ := hW.some (i := i.toNat) (by omega)
      refine l_ixs rfl Try.underlying38 Try.sizeOf40 rfl rfl (by omega) (by omega) ?_
      refine l_loadr (l := winRow (wat L i.toNat)) rfl Try.isAgg40 Try.sizeOf40 rfl rfl (row_elem hr9.ex (win_len L) (win_at (i := i.toNat) (by omega))) ?_
      refine l_allocs rfl Try.zeroValue40 ?_; intro b9
      refine l_sts Try.sizeOf40 rfl rfl rfl rfl rfl ?_
      refine l_nil ?_
      refine g_seq ?_
      refine g_region ?_
      refine l_fieldAddr rfl fa_40_0 rfl ?_
      first | refine l_ld rfl Try.isAgg3 rfl rfl ?_ | refine l_ldw rfl Try.isAgg3 rfl (by omega) ?_
      refine l_move rfl rfl ?_
      refine l_eql rfl rfl rfl ?_
      refine l_nil ?_
      refine g_cond rfl ?_ ?_
      · intro hbr
        have hbr := of_decide_eq_true hbr
        refine g_seq ?_
        refine g_region ?_
        refine l_move rfl rfl ?_
        refine l_assign rfl rfl ?_
        refine l_assign rfl rfl ?_
        refine l_nil ?_
        refine g_ret Try.func25 rfl (.tmp rfl (.tmp rfl .nil)) ?_
        (first | exact Gives.mki ⟨_, _, rfl, rfl, fun h => absurd ⟨by omega, by omega⟩ h, fun _ => ⟨rfl, .inl ⟨k.toNat, by omega, by rw [hk]; exact ⟨i.toNat, by simp only; omega, hbr⟩, hnp, by omega⟩⟩⟩ | exact Gives.mki ⟨_, _, rfl, rfl, fun h => absurd ⟨by omega, by omega⟩ h, fun _ => ⟨rfl, .inr ⟨hnp, rfl⟩⟩⟩ | exact Gives.mki ⟨_, _, rfl, rfl, fun _ => ⟨rfl, rfl⟩, fun h => by omega⟩)
      intro hbr
      have hbr := of_decide_eq_false hbr
      refine g_skip ?_
      refine g_inBlock ?_
      refine g_region ?_
      first | refine l_add rfl rfl rfl (w_i64 (by omega) (by omega)) ?_ | refine l_addw rfl rfl rfl ?_
      refine l_move rfl rfl ?_
      refine l_nil ?_
      exact g_againi (ihi (i + 1) ⟨by omega, by omega, by rw [show (i + 1).toNat = i.toNat + 1 by omega]; exact no_next hni hbr⟩ (by omega)) (.cons rfl (.cons rfl (.cons rfl (.cons rfl (.cons rfl (.cons rfl (.cons rfl (.cons rfl (.cons rfl (.cons rfl (.cons rfl (.cons rfl (.cons rfl (.nil))))))))))))))
    intro hbr
    have hbr := of_decide_eq_false hbr
    refine g_exit rfl ?_
    obtain rfl : i = n := by omega
    rw [Int.toNat_natCast] at hni
    refine g_inBlock ?_
    refine g_region ?_
    first | refine l_add rfl rfl rfl (w_i64 (by omega) (by omega)) ?_ | refine l_addw rfl rfl rfl ?_
    refine l_move rfl rfl ?_
    refine l_nil ?_
    exact g_againi (ih (k + 1) ⟨by omega, by omega, by rw [show (k + 1).toNat = k.toNat + 1 by omega]; exact nop_next hk hnp hni⟩ (by omega)) (.cons rfl (.cons rfl (.cons rfl (.cons rfl (.nil)))))
  intro hbr
  have hbr := of_decide_eq_false hbr
  refine g_exit rfl ?_
  obtain rfl : k = cn := by omega
  rw [Int.toNat_natCast] at hnp
  refine g_seq ?_
  refine g_region ?_
  refine l_assign rfl rfl ?_
  refine l_assign rfl rfl ?_
  refine l_nil ?_
  refine g_ret Try.func25 rfl (.tmp rfl (.tmp rfl .nil)) ?_
  (first | exact Gives.mki ⟨_, _, rfl, rfl, fun h => absurd ⟨by omega, by omega⟩ h, fun _ => ⟨rfl, .inl ⟨k.toNat, by omega, by rw [hk]; exact ⟨i.toNat, by simp only; omega, hbr⟩, hnp, by omega⟩⟩⟩ | exact Gives.mki ⟨_, _, rfl, rfl, fun h => absurd ⟨by omega, by omega⟩ h, fun _ => ⟨rfl, .inr ⟨hnp, rfl⟩⟩⟩ | exact Gives.mki ⟨_, _, rfl, rfl, fun _ => ⟨rfl, rfl⟩, fun h => by omega⟩)
theorem rcore_any (w0 : World) (F : List Atom) (fr mj kr rm : Int) (ca pa ha : Option Addr) (cn cc pn pc hn hc : Nat) (Ks : List CoreR) (hCR : CR w0 F ca cn Ks) (hcn : cn ≤ 9223372036854775807) (hpn : pn ≤ 9223372036854775807) (hmj : I64 mj) (p : Int) (p0 : -9223372036854775808 ≤ p) (p1 : p ≤ 9223372036854775807) :
    CallK Try.prog 26 [.agg [Value.int .i64 fr, .int .i64 mj, .int .i64 kr, .int .i64 rm, .slice ca cn cc, .slice pa pn pc, .slice ha hn hc].toArray, .int .i64 p] w0 (F) (Gives w0 fun v F2 => ∃ x e, v = .tuple #[.int .i64 x, .int .i64 e] ∧ F2 = F ∧ CoreSays Ks cn pn p x e) := by
  have hCl := hCR.1
  refine c_enter Try.func26 rfl rfl rfl ?_
  refine g_seq ?_
  refine g_region ?_
  refine l_boxs rfl rfl ?_; intro b2
  refine l_assign rfl rfl ?_
  refine l_assign rfl rfl ?_
  refine l_nil ?_
  refine g_seq ?_
  refine g_seq ?_
  refine g_region ?_
  refine l_lds rfl Try.isAgg27 Try.sizeOf27 rfl rfl ?_
  refine l_move rfl rfl ?_
  refine l_inl rfl Try.call40 rfl ?_
  refine c_enter Try.func40 rfl rfl rfl ?_
  refine g_seq ?_
  refine g_region ?_
  refine l_boxs rfl rfl ?_; intro b2c10
  refine l_assign rfl rfl ?_
  refine l_nil ?_
  refine g_seq ?_
  refine g_region ?_
  refine l_move rfl rfl ?_
  refine l_geq rfl rfl rfl ?_
  refine l_move rfl rfl ?_
  refine l_split 7 rfl ?_ ?_
  · intro hbr
    have hbr := of_decide_eq_true hbr
    refine l_guard_yes rfl rfl ?_
    refine l_move rfl rfl ?_
    refine l_guard_yes rfl rfl ?_
    refine l_fieldAddr rfl fa_27_5 rfl ?_
    refine l_guard_yes rfl rfl ?_
    refine l_ld rfl Try.isAgg24 rfl rfl ?_
    refine l_guard_yes rfl rfl ?_
    refine l_len rfl Try.underlying24 rfl ?_
    refine l_guard_yes rfl rfl ?_
    refine l_lss rfl rfl rfl ?_
    refine l_pick_t rfl rfl rfl ?_
    refine l_assign rfl rfl ?_
    refine l_nil ?_
    refine g_ret Try.func40 rfl (.tmp rfl .nil) ?_
    first | refine ⟨.bool _, rfl, ?_⟩ | refine ⟨_, rfl, ?_⟩
    refine l_not rfl rfl ?_
    refine l_nil ?_
    refine g_cond rfl ?_ ?_
    · intro hbr
      have hbr := of_decide_eq_false (nb_t hbr)
      refine g_seq ?_
      refine g_region ?_
      refine l_assign rfl rfl ?_
      refine l_assign rfl rfl ?_
      refine l_nil ?_
      refine g_ret Try.func26 rfl (.tmp rfl (.tmp rfl .nil)) ?_
      (first | exact Gives.mki ⟨_, _, rfl, rfl, fun h => absurd ⟨by omega, by omega⟩ h, fun _ => ⟨rfl, .inl ⟨k.toNat, by omega, by rw [hk]; exact ⟨i.toNat, by simp only; omega, hbr⟩, hnp, by omega⟩⟩⟩ | exact Gives.mki ⟨_, _, rfl, rfl, fun h => absurd ⟨by omega, by omega⟩ h, fun _ => ⟨rfl, .inr ⟨hnp, rfl⟩⟩⟩ | exact Gives.mki ⟨_, _, rfl, rfl, fun _ => ⟨rfl, rfl⟩, fun h => by omega⟩)
    intro hbr
    have hbr := of_decide_eq_true (nb_f hbr)
    refine g_skip ?_
    refine g_seq ?_
    refine g_seq ?_
    refine g_region ?_
    refine l_assign rfl rfl ?_
    refine l_nil ?_
    refine g_block ?_
    refine g_loopc (X := Int) [(1, _), (2, _)] (.cons rfl (.cons rfl (.nil))) (fun k => 0 ≤ k ∧ k ≤ cn ∧ ∀ j, j < k.toNat → ¬ HasP p (kat Ks j).L (kat Ks j).n) (fun k => (cn - k).toNat) (fun k => [(6, .int .i64 k)]) (0) (⟨by omega, by omega, fun j hj => by simp at hj⟩) (.cons rfl .nil) ?_
    rintro k ⟨k0, k1, hnp⟩ ih
    dsimp only [List.cons_append, List.nil_append] at ih ⊢
    obtain ⟨⟨a, n, c, L⟩, hk⟩ : ∃ K, kat Ks k.toNat = K := ⟨_, rfl⟩
    refine g_seq ?_
    refine g_seq ?_
    refine g_region ?_
    refine l_move rfl rfl ?_
    refine l_fieldAddr rfl fa_27_4 rfl ?_
    refine l_ld rfl Try.isAgg23 rfl rfl ?_
    refine l_len rfl Try.underlying23 rfl ?_
    refine l_lss rfl rfl rfl ?_
    refine l_nil ?_
    refine g_cond rfl ?_ ?_
    · intro hbr
      have hbr := of_decide_eq_true hbr
      refine g_skip ?_
      refine g_seq ?_
      refine g_block ?_
      refine g_seq ?_
      refine g_region ?_
      refine l_assign rfl rfl ?_
      refine l_nil ?_
      refine g_block ?_
      obtain ⟨hW, hn9⟩ := hCR.ok hk (by omega)
      have hL := hW.1
      have hI := hW.2.1
      unfold I64 at hI
      obtain ⟨b8, o8, rfl, hr8⟩ := hCR.some (i := k.toNat) (by omega)
      refine g_loopc (X := Int) [(1, _), (2, _), (6, _), (12, _), (13, _), (14, _), (15, _), (16, _)] (.cons rfl (.cons rfl (.cons rfl (.cons rfl (.cons rfl (.cons rfl (.cons rfl (.cons rfl (.nil))))))))) (fun i => 0 ≤ i ∧ i ≤ n ∧ ∀ j, j < i.toNat → ¬ (wat L j).1 = p) (fun i => (n - i).toNat) (fun i => [(7, .int .i64 i)]) (0) (⟨by omega, by omega, fun j hj => by simp at hj⟩) (.cons rfl .nil) ?_
      rintro i ⟨i0, i1, hni⟩ ihi
      dsimp only [List.cons_append, List.nil_append] at ihi ⊢
      refine g_seq ?_
      refine g_seq ?_
      refine g_region ?_
      refine l_move rfl rfl ?_
      refine l_fieldAddr rfl fa_27_4 rfl ?_
      refine l_ld rfl Try.isAgg23 rfl rfl ?_
      refine l_move rfl rfl ?_
      refine l_ixs rfl Try.underlying23 Try.sizeOf38 rfl rfl (by omega) (by omega) ?_
      refine l_loadc rfl Try.isAgg38 rfl (core_cell hr8.ex hk (by omega)) ?_
      refine l_len rfl Try.underlying38 rfl ?_
      refine l_lss rfl rfl rfl ?_
      refine l_nil ?_
      refine g_cond rfl ?_ ?_
      · intro hbr
        have hbr := of_decide_eq_true hbr
        refine g_skip ?_
        refine g_seq ?_
        refine g_block ?_
        refine g_seq ?_
        refine g_region ?_
        refine l_fieldAddr rfl fa_27_4 rfl ?_
        refine l_ld rfl Try.isAgg23 rfl rfl ?_
        refine l_move rfl rfl ?_
        refine l_ixs rfl Try.underlying23 Try.sizeOf38 rfl rfl (by omega) (by omega) ?_
        refine l_loadc rfl Try.isAgg38 rfl (core_cell hr8.ex hk (by omega)) ?_
        refine l_move rfl rfl ?_
        have hIi := hI i.toNat (by omega)
        obtain ⟨b9, o9, rfl, hr9⟩ := hW.some (i := i.toNat) (by omega)
        refine l_ixs rfl Try.underlying38 Try.sizeOf40 rfl rfl (by omega) (by omega) ?_
        refine l_fieldAddr rfl fa_40_0 rfl ?_
        refine l_loadc rfl Try.isAgg3 rfl ((row_elem hr9.ex (win_len L) (win_at (i := i.toNat) (by omega))).cell (j := 0) (v := .int .i64 (wat L i.toNat).1) rfl) ?_
        refine l_move rfl rfl ?_
        refine l_eql rfl rfl rfl ?_
        refine l_nil ?_
        refine g_cond rfl ?_ ?_
        · intro hbr
          have hbr := of_decide_eq_true hbr
          refine g_seq ?_
          refine g_region ?_
          refine l_move rfl rfl ?_
          refine l_assign rfl rfl ?_
          refine l_assign rfl rfl ?_
          refine l_nil ?_
          refine g_ret Try.func26 rfl (.tmp rfl (.tmp rfl .nil)) ?_
          (first | exact Gives.mki ⟨_, _, rfl, rfl, fun h => absurd ⟨by omega, by omega⟩ h, fun _ => ⟨rfl, .inl ⟨k.toNat, by omega, by rw [hk]; exact ⟨i.toNat, by simp only; omega, hbr⟩, hnp, by omega⟩⟩⟩ | exact Gives.mki ⟨_, _, rfl, rfl, fun h => absurd ⟨by omega, by omega⟩ h, fun _ => ⟨rfl, .inr ⟨hnp, rfl⟩⟩⟩ | exact Gives.mki ⟨_, _, rfl, rfl, fun _ => ⟨rfl, rfl⟩, fun h => by omega⟩)
        intro hbr
        have hbr := of_decide_eq_false hbr
        refine g_skip ?_
        refine g_inBlock ?_
        refine g_region ?_
        refine l_move rfl rfl ?_
        first | refine l_add rfl rfl rfl (w_i64 (by omega) (by omega)) ?_ | refine l_addw rfl rfl rfl ?_
        refine l_assign rfl rfl ?_
        refine l_nil ?_
        exact g_againi (ihi (i + 1) ⟨by omega, by omega, by rw [show (i + 1).toNat = i.toNat + 1 by omega]; exact no_next hni hbr⟩ (by omega)) (.cons rfl (.cons rfl (.cons rfl (.cons rfl (.cons rfl (.cons rfl (.cons rfl (.cons rfl (.cons rfl (.nil))))))))))
      intro hbr
      have hbr := of_decide_eq_false hbr
      refine g_exit rfl ?_
      obtain rfl : i = n := by omega
      rw [Int.toNat_natCast] at hni
      refine g_inBlock ?_
      refine g_region ?_
      refine l_move rfl rfl ?_
      first | refine l_add rfl rfl rfl (w_i64 (by omega) (by omega)) ?_ | refine l_addw rfl rfl rfl ?_
      refine l_assign rfl rfl ?_
      refine l_nil ?_
      exact g_againi (ih (k + 1) ⟨by omega, by omega, by rw [show (k + 1).toNat = k.toNat + 1 by omega]; exact nop_next hk hnp hni⟩ (by omega)) (.cons rfl (.cons rfl (.cons rfl (.nil))))
    intro hbr
    have hbr := of_decide_eq_false hbr
    refine g_exit rfl ?_
    obtain rfl : k = cn := by omega
    rw [Int.toNat_natCast] at hnp
    refine g_seq ?_
    refine g_region ?_
    refine l_assign rfl rfl ?_
    refine l_assign rfl rfl ?_
    refine l_nil ?_
    refine g_ret Try.func26 rfl (.tmp rfl (.tmp rfl .nil)) ?_
    (first | exact Gives.mki ⟨_, _, rfl, rfl, fun h => absurd ⟨by omega, by omega⟩ h, fun _ => ⟨rfl, .inl ⟨k.toNat, by omega, by rw [hk]; exact ⟨i.toNat, by simp only; omega, hbr⟩, hnp, by omega⟩⟩⟩ | exact Gives.mki ⟨_, _, rfl, rfl, fun h => absurd ⟨by omega, by omega⟩ h, fun _ => ⟨rfl, .inr ⟨hnp, rfl⟩⟩⟩ | exact Gives.mki ⟨_, _, rfl, rfl, fun _ => ⟨rfl, rfl⟩, fun h => by omega⟩)
  intro hbr
  have hbr := of_decide_eq_false hbr
  refine l_guard_no rfl rfl rfl ?_
  refine l_guard_no rfl rfl rfl ?_
  refine l_guard_no rfl rfl rfl ?_
  refine l_guard_no rfl rfl rfl ?_
  refine l_guard_no rfl rfl rfl ?_
  refine l_pick_f rfl rfl rfl ?_
  refine l_assign rfl rfl ?_
  refine l_nil ?_
  refine g_ret Try.func40 rfl (.tmp rfl .nil) ?_
  first | refine ⟨.bool _, rfl, ?_⟩ | refine ⟨_, rfl, ?_⟩
  refine l_not rfl rfl ?_
  refine l_nil ?_
  first | refine g_cond_t rfl ?_ | refine g_cond_t (congrArg (fun b => some (Value.bool b)) (decide_eq_true hbr)) ?_
  refine g_seq ?_
  refine g_region ?_
  refine l_assign rfl rfl ?_
  refine l_assign rfl rfl ?_
  refine l_nil ?_
  refine g_ret Try.func26 rfl (.tmp rfl (.tmp rfl .nil)) ?_
  (first | exact Gives.mki ⟨_, _, rfl, rfl, fun h => absurd ⟨by omega, by omega⟩ h, fun _ => ⟨rfl, .inl ⟨k.toNat, by omega, by rw [hk]; exact ⟨i.toNat, by simp only; omega, hbr⟩, hnp, by omega⟩⟩⟩ | exact Gives.mki ⟨_, _, rfl, rfl, fun h => absurd ⟨by omega, by omega⟩ h, fun _ => ⟨rfl, .inr ⟨hnp, rfl⟩⟩⟩ | exact Gives.mki ⟨_, _, rfl, rfl, fun _ => ⟨rfl, rfl⟩, fun h => by omega⟩)
end Go.Proofs.Ytfccfjgnoeocnaa.Fw
