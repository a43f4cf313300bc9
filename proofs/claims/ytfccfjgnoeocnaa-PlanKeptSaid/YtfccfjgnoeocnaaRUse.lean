import Derived.Test.YtfccfjgnoeocnaaViz
import Derived.Test.YtfccfjgnoeocnaaRRounds
import Derived.Test.YtfccfjgnoeocnaaShare2
namespace Go.Proofs.Ytfccfjgnoeocnaa.Fw
open Go Go.Proofs
set_option linter.unusedVariables false
set_option linter.unusedSimpArgs false
set_option maxRecDepth 10000

theorem full_bd {Ks : List CoreR} {cn : Nat} {mj : Int} (h : Full Ks cn mj) : 1 ≤ mj ∧ mj ≤ 16384 := ⟨h.2.1, h.2.2.1⟩
theorem eta_core (Ks : List CoreR) (k : Nat) : kat Ks k = ⟨(kat Ks k).a, (kat Ks k).n, (kat Ks k).c, (kat Ks k).L⟩ := rfl
def usT (Ks : List CoreR) (l : List Span) : Int := usL Ks l l.length
theorem usL_app {Ks : List CoreR} {l l2 : List Span} : ∀ j, j ≤ l.length → usL Ks (l ++ l2) j = usL Ks l j
  | 0, _ => rfl
  | j + 1, h => by
    have h1 := usL_app (Ks := Ks) (l2 := l2) j (show j ≤ l.length by omega)
    have h2 : sat (l ++ l2) j = sat l j := by simp [sat, List.getD_eq_getElem?_getD, List.getElem?_append_left (show j < l.length by omega)]
    simp only [usL, h1, h2]
theorem usT_snoc {Ks : List CoreR} {l : List Span} {k i : Nat} {x y : Int} : usT Ks (l ++ [((k : Int), (i : Int), x, y)]) = usT Ks l + (wat (kat Ks k).L i).2.1 := by
  have h2 : sat (l ++ [((k : Int), (i : Int), x, y)]) l.length = ((k : Int), (i : Int), x, y) := by simp [sat]
  simp only [usT, List.length_append, List.length_singleton, usL, usL_app l.length (Nat.le_refl _), h2, Int.toNat_natCast]
theorem usT_bound {Ks : List CoreR} {p : Int} : ∀ {k : Nat}, AllMay Ks k → (∀ j, j < k → (kat Ks j).n = (kat Ks j).L.length) → 0 ≤ usT Ks (spC p Ks k) ∧ usT Ks (spC p Ks k) ≤ 262144 * k ∧ ∀ i, May (kat Ks k).L → i ≤ (kat Ks k).L.length → 0 ≤ usT Ks (spI p Ks k i) ∧ usT Ks (spI p Ks k i) ≤ 262144 * k + 16384 * i := by
  intro k
  induction k with
  | zero =>
    intro _ _
    refine ⟨by simp [spC, usT, usL], by simp [spC, usT, usL], ?_⟩
    intro i hm
    induction i with
    | zero => intro _; simp [spI, spC, spK, usT, usL]
    | succ i ih =>
      intro hi
      have h1 := ih (by omega)
      have h2 := hm.2.2 i (by omega)
      unfold okW at h2
      by_cases hp : (wat (kat Ks 0).L i).1 = p
      · have := usT_snoc (Ks := Ks) (l := spI p Ks 0 i) (k := 0) (i := i) (x := bg (kat Ks 0).L i) (y := bg (kat Ks 0).L (i + 1))
        rw [spI_yes (eta_core Ks 0) hp] at this
        rw [this]; omega
      · rw [← spI_no (eta_core Ks 0) hp]; omega
  | succ k ihk =>
    intro hall hn
    have h3 := ihk (fun j hj => hall j (by omega)) (fun j hj => hn j (by omega))
    have hmk := hall k (by omega)
    have h4 := h3.2.2 (kat Ks k).n hmk (by rw [hn k (by omega)]; exact Nat.le_refl _)
    have h5 : spI p Ks k (kat Ks k).n = spC p Ks (k + 1) := rfl
    rw [h5] at h4
    have h6 := hn k (by omega)
    have h7 := hmk.2.1
    refine ⟨h4.1, by omega, ?_⟩
    intro i hm
    induction i with
    | zero =>
      intro _
      rw [spI_zero]; omega
    | succ i ih =>
      intro hi
      have h1 := ih (by omega)
      have h2 := hm.2.2 i (by omega)
      unfold okW at h2
      by_cases hp : (wat (kat Ks (k + 1)).L i).1 = p
      · have := usT_snoc (Ks := Ks) (l := spI p Ks (k + 1) i) (k := k + 1) (i := i) (x := bg (kat Ks (k + 1)).L i) (y := bg (kat Ks (k + 1)).L (i + 1))
        rw [spI_yes (eta_core Ks (k + 1)) hp] at this
        rw [this]; omega
      · rw [← spI_no (eta_core Ks (k + 1)) hp]; omega
theorem CR.ns {w0 : World} {F : List Atom} {ca : Option Addr} {cn : Nat} {Ks : List CoreR} (h : CR w0 F ca cn Ks) : ∀ j, j < cn → (kat Ks j).n = (kat Ks j).L.length := fun j hj => (h.2.1 j hj).1.1.symm
theorem fills_any (w0 : World) (F : List Atom) (fr mj kr rm : Int) (ca pa ha : Option Addr) (cn cc pn pc hn hc : Nat) (Ks : List CoreR) (hCR : CR w0 F ca cn Ks) (hcn : cn ≤ 9223372036854775807) (hpn : pn ≤ 9223372036854775807) (hmj : I64 mj) :
    CallK Try.prog 48 [.agg [Value.int .i64 fr, .int .i64 mj, .int .i64 kr, .int .i64 rm, .slice ca cn cc, .slice pa pn pc, .slice ha hn hc].toArray] w0 (F) (Gives w0 fun v F2 => ∃ ok, v = .bool ok ∧ F2 = F ∧ (ok = true → Full Ks cn mj) ∧ (ok = false → ¬ Full Ks cn mj)) := by
  have hCl := hCR.1
  unfold I64 at hmj
  refine c_enter Try.func48 rfl rfl rfl ?_
  refine g_seq ?_
  refine g_region ?_
  refine l_boxs rfl rfl ?_; intro b1
  refine l_assign rfl rfl ?_
  refine l_nil ?_
  refine g_seq ?_
  refine g_seq ?_
  refine g_region ?_
  refine l_lds rfl Try.isAgg27 Try.sizeOf27 rfl rfl ?_
  refine l_call rfl Try.call38 rfl (all_any _ _ fr mj kr rm ca pa ha cn cc pn pc hn hc Ks hCR.ex hcn hpn hmj) ?_; rintro _ _ ⟨ok, rfl, rfl, hyes, hno⟩
  refine l_not rfl rfl ?_
  refine l_move rfl rfl ?_
  refine l_split 7 rfl ?_ ?_
  · intro hbr
    have hb7 := hbr
    refine l_guard_no rfl rfl rfl ?_
    refine l_guard_no rfl rfl rfl ?_
    refine l_guard_no rfl rfl rfl ?_
    refine l_pick_t rfl rfl rfl ?_
    refine l_move rfl rfl ?_
    refine l_guard_no rfl rfl rfl ?_
    refine l_guard_no rfl rfl rfl ?_
    refine l_guard_no rfl rfl rfl ?_
    refine l_pick_t rfl rfl rfl ?_
    refine l_nil ?_
    first | refine g_cond_t rfl ?_ | refine g_cond_t (congrArg (fun b => some (Value.bool b)) (decide_eq_true hbr)) ?_
    refine g_seq ?_
    refine g_region ?_
    refine l_assign rfl rfl ?_
    refine l_nil ?_
    refine g_ret Try.func48 rfl (.tmp rfl .nil) ?_
    (first | exact Gives.mki ⟨true, rfl, rfl, fun _ => ⟨hga, by omega, by omega, hfl⟩, fun h => by cases h⟩ | exact Gives.mki ⟨false, rfl, rfl, (fun h => by cases h), fun _ h => by first | exact fills_bad hk (by omega) (fun h2 => by omega) h | (have := full_bd h; omega) | exact hno (nb_t hb7) h.1⟩)
  intro hbr
  have hb7 := hbr
  refine l_guard_yes rfl rfl ?_
  refine l_fieldAddr rfl fa_27_1 rfl ?_
  refine l_guard_yes rfl rfl ?_
  first | refine l_ld rfl Try.isAgg3 rfl rfl ?_ | refine l_ldw rfl Try.isAgg3 rfl (by omega) ?_
  refine l_guard_yes rfl rfl ?_
  refine l_lss rfl rfl rfl ?_
  refine l_pick_f rfl rfl rfl ?_
  refine l_move rfl rfl ?_
  refine l_split 12 rfl ?_ ?_
  · intro hbr
    have hbr := of_decide_eq_true hbr
    refine l_guard_no rfl rfl rfl ?_
    refine l_guard_no rfl rfl rfl ?_
    refine l_guard_no rfl rfl rfl ?_
    refine l_pick_t rfl rfl rfl ?_
    refine l_nil ?_
    first | refine g_cond_t rfl ?_ | refine g_cond_t (congrArg (fun b => some (Value.bool b)) (decide_eq_true hbr)) ?_
    refine g_seq ?_
    refine g_region ?_
    refine l_assign rfl rfl ?_
    refine l_nil ?_
    refine g_ret Try.func48 rfl (.tmp rfl .nil) ?_
    (first | exact Gives.mki ⟨true, rfl, rfl, fun _ => ⟨hga, by omega, by omega, hfl⟩, fun h => by cases h⟩ | exact Gives.mki ⟨false, rfl, rfl, (fun h => by cases h), fun _ h => by first | exact fills_bad hk (by omega) (fun h2 => by omega) h | (have := full_bd h; omega) | exact hno (nb_t hb7) h.1⟩)
  intro hbr
  have hbr := of_decide_eq_false hbr
  refine l_guard_yes rfl rfl ?_
  refine l_fieldAddr rfl fa_27_1 rfl ?_
  refine l_guard_yes rfl rfl ?_
  first | refine l_ld rfl Try.isAgg3 rfl rfl ?_ | refine l_ldw rfl Try.isAgg3 rfl (by omega) ?_
  refine l_guard_yes rfl rfl ?_
  refine l_gtr rfl rfl rfl ?_
  refine l_pick_f rfl rfl rfl ?_
  refine l_nil ?_
  refine g_cond rfl ?_ ?_
  · intro hbr
    have hbr := of_decide_eq_true hbr
    refine g_seq ?_
    refine g_region ?_
    refine l_assign rfl rfl ?_
    refine l_nil ?_
    refine g_ret Try.func48 rfl (.tmp rfl .nil) ?_
    (first | exact Gives.mki ⟨true, rfl, rfl, fun _ => ⟨hga, by omega, by omega, hfl⟩, fun h => by cases h⟩ | exact Gives.mki ⟨false, rfl, rfl, (fun h => by cases h), fun _ h => by first | exact fills_bad hk (by omega) (fun h2 => by omega) h | (have := full_bd h; omega) | exact hno (nb_t hb7) h.1⟩)
  intro hbr
  have hbr := of_decide_eq_false hbr
  refine g_skip ?_
  refine g_seq ?_
  refine g_seq ?_
  refine g_region ?_
  have hga := hyes (nb_f hb7)
  refine l_assign rfl rfl ?_
  refine l_nil ?_
  refine g_block ?_
  refine g_loopc (X := Int) [(1, _)] (.cons rfl (.nil)) (fun k => 0 ≤ k ∧ k ≤ cn ∧ Fills Ks k.toNat mj) (fun k => (cn - k).toNat) (fun k => [(3, .int .i64 k)]) (0) (⟨by omega, by omega, fun j hj => by simp at hj⟩) (.cons rfl .nil) ?_
  rintro k ⟨k0, k1, hfl⟩ ih
  dsimp only [List.cons_append, List.nil_append] at ih ⊢
  obtain ⟨⟨a, n, c, L⟩, hk⟩ : ∃ K, kat Ks k.toNat = K := ⟨_, rfl⟩
  refine g_seq ?_
  refine g_seq ?_
  refine g_region ?_
  refine l_move rfl rfl ?_
  refine l_fieldAddr rfl fa_27_4 rfl ?_
  refine l_ld rfl Try.isAgg23 rfl rfl ?_
  refine l_len rfl Try.underlying23 rfl ?_
  refine l_lss rfl rfl rfl ?_
  refine l_nil ?_
  refine g_cond rfl ?_ ?_
  · intro hbr
    have hbr := of_decide_eq_true hbr
    refine g_skip ?_
    refine g_seq ?_
    refine g_block ?_
    refine g_seq ?_
    refine gp_start mo (by kernel_rfl) (by kernel_rfl) ?_
    refine gp_quiet 0 rfl rfl rfl rfl rfl rfl (q_fieldAddr fa_27_4 rfl) ?_
    refine gp_quiet 1 rfl rfl rfl rfl rfl rfl (q_ld Try.isAgg23 rfl rfl) ?_
    refine gp_quiet 2 rfl rfl rfl rfl rfl rfl (q_move rfl) ?_
    obtain ⟨b8, o8, rfl, hr8⟩ := hCR.some (i := k.toNat) (by omega)
    refine gp_quiet 3 rfl rfl rfl rfl rfl rfl (q_ixs Try.underlying23 Try.sizeOf38 rfl rfl (by omega) (by omega)) ?_
    obtain ⟨hW, hn9⟩ := hCR.ok hk (by omega)
    have hm : May L := by have := hga k.toNat (by omega); rwa [hk] at this
    have hL := hW.1
    have hI := hW.2.1
    unfold I64 at hI
    obtain ⟨m1, m2, _⟩ := id hm
    refine gp_quiet 4 rfl rfl rfl rfl rfl rfl (q_loadc Try.isAgg38 rfl (core_cell hr8.ex hk (by omega))) ?_
    refine gp_quiet 5 rfl rfl rfl rfl rfl rfl (q_fieldAddr fa_27_4 rfl) ?_
    refine gp_quiet 6 rfl rfl rfl rfl rfl rfl (q_ld Try.isAgg23 rfl rfl) ?_
    refine gp_quiet 7 rfl rfl rfl rfl rfl rfl (q_move rfl) ?_
    refine gp_quiet 8 rfl rfl rfl rfl rfl rfl (q_ixs Try.underlying23 Try.sizeOf38 rfl rfl (by omega) (by omega)) ?_
    refine gp_quiet 9 rfl rfl rfl rfl rfl rfl (q_loadc Try.isAgg38 rfl (core_cell hr8.ex hk (by omega))) ?_
    refine gp_quiet 10 rfl rfl rfl rfl rfl rfl (q_len Try.underlying38 rfl) ?_
    refine gp_quiet 12 rfl rfl rfl rfl rfl rfl (q_fieldAddr fa_27_1 rfl) ?_
    first | refine gp_quiet 13 rfl rfl rfl rfl rfl rfl (q_ld Try.isAgg3 rfl rfl) ?_ | refine gp_quiet 13 rfl rfl rfl rfl rfl rfl (q_ldw Try.isAgg3 rfl (by omega)) ?_
    refine gp_effa 11 [4, 10] [13, 12, 9, 8, 7, 6, 5, 3, 2, 1, 0] rfl rfl rfl rfl rfl rfl rfl (does_call Try.call36 rfl (begin_ok _ _ a n c L hW.ex hn9 hm n (by omega) (by omega))) ?_
    rintro _ _ ⟨rfl, rfl⟩
    rw [Int.toNat_natCast]
    refine ⟨?_, ?_⟩
    · first | refine .cons rfl rfl rfl rfl rfl (q_ld Try.isAgg3 rfl rfl) ?_ | refine .cons rfl rfl rfl rfl rfl (q_ldw Try.isAgg3 rfl (by omega)) ?_
      refine .cons rfl rfl rfl rfl rfl (q_fieldAddr fa_27_1 rfl) ?_
      refine .cons rfl rfl rfl rfl rfl (q_loadc Try.isAgg38 rfl (core_cell hr8.ex hk (by omega))) ?_
      refine .cons rfl rfl rfl rfl rfl (q_ixs Try.underlying23 Try.sizeOf38 rfl rfl (by omega) (by omega)) ?_
      refine .cons rfl rfl rfl rfl rfl (q_move rfl) ?_
      refine .cons rfl rfl rfl rfl rfl (q_ld Try.isAgg23 rfl rfl) ?_
      refine .cons rfl rfl rfl rfl rfl (q_fieldAddr fa_27_4 rfl) ?_
      refine .cons rfl rfl rfl rfl rfl (q_ixs Try.underlying23 Try.sizeOf38 rfl rfl (by omega) (by omega)) ?_
      refine .cons rfl rfl rfl rfl rfl (q_move rfl) ?_
      refine .cons rfl rfl rfl rfl rfl (q_ld Try.isAgg23 rfl rfl) ?_
      refine .cons rfl rfl rfl rfl rfl (q_fieldAddr fa_27_4 rfl) ?_
      exact .nil
    refine gp_quiet 14 rfl rfl rfl rfl rfl rfl (q_neq rfl rfl) ?_
    refine gp_end rfl rfl ?_
    refine g_cond rfl ?_ ?_
    · intro hbr
      have hbr := of_decide_eq_true hbr
      refine g_seq ?_
      refine g_region ?_
      refine l_assign rfl rfl ?_
      refine l_nil ?_
      refine g_ret Try.func48 rfl (.tmp rfl .nil) ?_
      (first | exact Gives.mki ⟨true, rfl, rfl, fun _ => ⟨hga, by omega, by omega, hfl⟩, fun h => by cases h⟩ | exact Gives.mki ⟨false, rfl, rfl, (fun h => by cases h), fun _ h => by first | exact fills_bad hk (by omega) (fun h2 => by omega) h | (have := full_bd h; omega) | exact hno (nb_t hb7) h.1⟩)
    intro hbr
    have hbr := of_decide_eq_false hbr
    refine g_skip ?_
    refine g_inBlock ?_
    refine g_region ?_
    refine l_move rfl rfl ?_
    first | refine l_add rfl rfl rfl (w_i64 (by omega) (by omega)) ?_ | refine l_addw rfl rfl rfl ?_
    refine l_assign rfl rfl ?_
    refine l_nil ?_
    exact g_againi (ih (k + 1) ⟨by omega, by omega, fills_next hk k0 (by omega) hfl⟩ (by omega)) (.cons rfl (.cons rfl (.nil)))
  intro hbr
  have hbr := of_decide_eq_false hbr
  refine g_exit rfl ?_
  obtain rfl : k = cn := by omega
  rw [Int.toNat_natCast] at hfl
  refine g_seq ?_
  refine g_region ?_
  refine l_assign rfl rfl ?_
  refine l_nil ?_
  refine g_ret Try.func48 rfl (.tmp rfl .nil) ?_
  (first | exact Gives.mki ⟨true, rfl, rfl, fun _ => ⟨hga, by omega, by omega, hfl⟩, fun h => by cases h⟩ | exact Gives.mki ⟨false, rfl, rfl, (fun h => by cases h), fun _ h => by first | exact fills_bad hk (by omega) (fun h2 => by omega) h | (have := full_bd h; omega) | exact hno (nb_t hb7) h.1⟩)
theorem rusable_any (w0 : World) (F : List Atom) (fr mj kr rm : Int) (ca pa ha : Option Addr) (cn cc pn pc hn hc : Nat) (Ks : List CoreR) (hCR : CR w0 F ca cn Ks) (hcn : cn ≤ 9223372036854775807) (hpn : pn ≤ 9223372036854775807) (hmj : I64 mj) (p : Int) (p0 : -9223372036854775808 ≤ p) (p1 : p ≤ 9223372036854775807) (hcn2 : cn ≤ 2147483647) :
    CallK Try.prog 44 [.agg [Value.int .i64 fr, .int .i64 mj, .int .i64 kr, .int .i64 rm, .slice ca cn cc, .slice pa pn pc, .slice ha hn hc].toArray, .int .i64 p] w0 (F) (Gives w0 fun v F2 => ∃ x e, v = .tuple #[.int .i64 x, .int .i64 e] ∧ F2 = F ∧ (e = 0 → (0 ≤ p ∧ p < pn) ∧ Full Ks cn mj ∧ x = usT Ks (spC p Ks cn)) ∧ (e ≠ 0 → x = 0 ∧ ((e = 142 ∧ ¬ (0 ≤ p ∧ p < pn)) ∨ (e = 1 ∧ (0 ≤ p ∧ p < pn) ∧ ¬ Full Ks cn mj)))) := by
  have hCl := hCR.1
  refine c_enter Try.func44 rfl rfl rfl ?_
  refine g_seq ?_
  refine g_region ?_
  refine l_boxs rfl rfl ?_; intro b2
  refine l_assign rfl rfl ?_
  refine l_assign rfl rfl ?_
  refine l_nil ?_
  refine g_seq ?_
  refine g_seq ?_
  refine g_region ?_
  refine l_lds rfl Try.isAgg27 Try.sizeOf27 rfl rfl ?_
  refine l_move rfl rfl ?_
  refine l_inl rfl Try.call40 rfl ?_
  refine c_enter Try.func40 rfl rfl rfl ?_
  refine g_seq ?_
  refine g_region ?_
  refine l_boxs rfl rfl ?_; intro b2c11
  refine l_assign rfl rfl ?_
  refine l_nil ?_
  refine g_seq ?_
  refine g_region ?_
  refine l_move rfl rfl ?_
  refine l_geq rfl rfl rfl ?_
  refine l_move rfl rfl ?_
  refine l_split 7 rfl ?_ ?_
  · intro hbr
    have hbr := of_decide_eq_true hbr
    refine l_guard_yes rfl rfl ?_
    refine l_move rfl rfl ?_
    refine l_guard_yes rfl rfl ?_
    refine l_fieldAddr rfl fa_27_5 rfl ?_
    refine l_guard_yes rfl rfl ?_
    refine l_ld rfl Try.isAgg24 rfl rfl ?_
    refine l_guard_yes rfl rfl ?_
    refine l_len rfl Try.underlying24 rfl ?_
    refine l_guard_yes rfl rfl ?_
    refine l_lss rfl rfl rfl ?_
    refine l_pick_t rfl rfl rfl ?_
    refine l_assign rfl rfl ?_
    refine l_nil ?_
    refine g_ret Try.func40 rfl (.tmp rfl .nil) ?_
    first | refine ⟨.bool _, rfl, ?_⟩ | refine ⟨_, rfl, ?_⟩
    refine l_not rfl rfl ?_
    refine l_nil ?_
    refine g_cond rfl ?_ ?_
    · intro hbr
      have hbr := of_decide_eq_false (nb_t hbr)
      refine g_seq ?_
      refine g_region ?_
      refine l_assign rfl rfl ?_
      refine l_assign rfl rfl ?_
      refine l_nil ?_
      refine g_ret Try.func44 rfl (.tmp rfl (.tmp rfl .nil)) ?_
      (first | exact Gives.mki ⟨_, 0, rfl, rfl, fun _ => ⟨⟨by omega, by omega⟩, hyes (nb_f hb15), rfl⟩, fun h => absurd rfl h⟩ | exact Gives.mki ⟨0, _, rfl, rfl, (fun h => absurd h (by decide)), fun _ => ⟨rfl, by first | exact .inl ⟨rfl, fun h => by omega⟩ | exact .inr ⟨rfl, ⟨by omega, by omega⟩, hno (nb_t hb15)⟩⟩⟩)
    intro hbr
    have hbr := of_decide_eq_true (nb_f hbr)
    refine g_skip ?_
    refine g_seq ?_
    refine g_seq ?_
    refine g_region ?_
    refine l_lds rfl Try.isAgg27 Try.sizeOf27 rfl rfl ?_
    refine l_call rfl Try.call48 rfl (fills_any _ _ fr mj kr rm ca pa ha cn cc pn pc hn hc Ks hCR.ex hcn hpn hmj) ?_; rintro _ _ ⟨ok, rfl, rfl, hyes, hno⟩
    refine l_not rfl rfl ?_
    refine l_nil ?_
    refine g_cond rfl ?_ ?_
    · intro hbr
      have hb15 := hbr
      refine g_seq ?_
      refine g_region ?_
      refine l_assign rfl rfl ?_
      refine l_assign rfl rfl ?_
      refine l_nil ?_
      refine g_ret Try.func44 rfl (.tmp rfl (.tmp rfl .nil)) ?_
      (first | exact Gives.mki ⟨_, 0, rfl, rfl, fun _ => ⟨⟨by omega, by omega⟩, hyes (nb_f hb15), rfl⟩, fun h => absurd rfl h⟩ | exact Gives.mki ⟨0, _, rfl, rfl, (fun h => absurd h (by decide)), fun _ => ⟨rfl, by first | exact .inl ⟨rfl, fun h => by omega⟩ | exact .inr ⟨rfl, ⟨by omega, by omega⟩, hno (nb_t hb15)⟩⟩⟩)
    intro hbr
    have hb15 := hbr
    refine g_skip ?_
    refine g_seq ?_
    refine g_region ?_
    refine l_assign rfl rfl ?_
    refine l_nil ?_
    refine g_seq ?_
    refine g_seq ?_
    refine g_region ?_
    refine l_assign rfl rfl ?_
    refine l_nil ?_
    refine g_block ?_
    refine g_loopc (X := Int) [(1, _), (2, _), (4, _), (5, _)] (.cons rfl (.cons rfl (.cons rfl (.cons rfl (.nil))))) (fun k => 0 ≤ k ∧ k ≤ cn) (fun k => (cn - k).toNat) (fun k => [(6, .int .i64 (usT Ks (spC p Ks k.toNat))), (7, .int .i64 k)]) (0) (by omega) (.cons rfl (.cons rfl .nil)) ?_
    rintro k ⟨k0, k1⟩ ih
    dsimp only [List.cons_append, List.nil_append] at ih ⊢
    obtain ⟨⟨a, n, c, L⟩, hk⟩ : ∃ K, kat Ks k.toNat = K := ⟨_, rfl⟩
    refine g_seq ?_
    refine g_seq ?_
    refine g_region ?_
    refine l_move rfl rfl ?_
    refine l_fieldAddr rfl fa_27_4 rfl ?_
    refine l_ld rfl Try.isAgg23 rfl rfl ?_
    refine l_len rfl Try.underlying23 rfl ?_
    refine l_lss rfl rfl rfl ?_
    refine l_nil ?_
    refine g_cond rfl ?_ ?_
    · intro hbr
      have hbr := of_decide_eq_true hbr
      refine g_skip ?_
      refine g_seq ?_
      refine g_block ?_
      refine g_seq ?_
      refine g_region ?_
      refine l_assign rfl rfl ?_
      refine l_nil ?_
      refine g_block ?_
      have hfu := hyes (nb_f hb15)
      obtain ⟨hW, hn9⟩ := hCR.ok hk (by omega)
      have hm : May L := by have := hfu.1 k.toNat (by omega); rwa [hk] at this
      have hL := hW.1
      have hI := hW.2.1
      unfold I64 at hI
      obtain ⟨m1, m2, _⟩ := id hm
      obtain ⟨b8, o8, rfl, hr8⟩ := hCR.some (i := k.toNat) (by omega)
      rw [← spI_zero p Ks k.toNat]
      refine g_loopc (X := Int) [(1, _), (2, _), (4, _), (5, _), (7, _), (16, _), (17, _), (18, _), (19, _), (20, _)] (.cons rfl (.cons rfl (.cons rfl (.cons rfl (.cons rfl (.cons rfl (.cons rfl (.cons rfl (.cons rfl (.cons rfl (.nil))))))))))) (fun i => 0 ≤ i ∧ i ≤ n) (fun i => (n - i).toNat) (fun i => [(6, .int .i64 (usT Ks (spI p Ks k.toNat i.toNat))), (8, .int .i64 i)]) (0) (by omega) (.cons rfl (.cons rfl .nil)) ?_
      rintro i ⟨i0, i1⟩ ihi
      dsimp only [List.cons_append, List.nil_append] at ihi ⊢
      have hub := (usT_bound (p := p) (fun j (hj : j < k.toNat) => hfu.1 j (by omega)) (fun j hj => hCR.ns j (by omega))).2.2 i.toNat (by rw [hk]; exact hm) (by rw [hk]; simp only; omega)
      have hmi := fun h => hm.2.2 i.toNat h
      unfold okW at hmi
      refine g_seq ?_
      refine g_seq ?_
      refine g_region ?_
      refine l_move rfl rfl ?_
      refine l_fieldAddr rfl fa_27_4 rfl ?_
      refine l_ld rfl Try.isAgg23 rfl rfl ?_
      refine l_move rfl rfl ?_
      refine l_ixs rfl Try.underlying23 Try.sizeOf38 rfl rfl (by omega) (by omega) ?_
      refine l_loadc rfl Try.isAgg38 rfl (core_cell hr8.ex hk (by omega)) ?_
      refine l_len rfl Try.underlying38 rfl ?_
      refine l_lss rfl rfl rfl ?_
      refine l_nil ?_
      refine g_cond rfl ?_ ?_
      · intro hbr
        have hbr := of_decide_eq_true hbr
        refine g_skip ?_
        refine g_seq ?_
        refine g_block ?_
        refine g_seq ?_
        refine g_region ?_
        refine l_fieldAddr rfl fa_27_4 rfl ?_
        refine l_ld rfl Try.isAgg23 rfl rfl ?_
        refine l_move rfl rfl ?_
        refine l_ixs rfl Try.underlying23 Try.sizeOf38 rfl rfl (by omega) (by omega) ?_
        refine l_loadc rfl Try.isAgg38 rfl (core_cell hr8.ex hk (by omega)) ?_
        refine l_move rfl rfl ?_
        have hIi := hI i.toNat (by omega)
        obtain ⟨b9, o9, rfl, hr9⟩ := hW.some (i := i.toNat) (by omega)
        refine l_ixs rfl Try.underlying38 Try.sizeOf40 rfl rfl (by omega) (by omega) ?_
        refine l_fieldAddr rfl fa_40_0 rfl ?_
        refine l_loadc rfl Try.isAgg3 rfl ((row_elem hr9.ex (win_len L) (win_at (i := i.toNat) (by omega))).cell (j := 0) (v := .int .i64 (wat L i.toNat).1) rfl) ?_
        refine l_move rfl rfl ?_
        refine l_eql rfl rfl rfl ?_
        refine l_nil ?_
        refine g_cond rfl ?_ ?_
        · intro hbr
          have hbr := of_decide_eq_true hbr
          refine g_region ?_
          refine l_move rfl rfl ?_
          refine l_fieldAddr rfl fa_27_4 rfl ?_
          refine l_ld rfl Try.isAgg23 rfl rfl ?_
          refine l_move rfl rfl ?_
          refine l_ixs rfl Try.underlying23 Try.sizeOf38 rfl rfl (by omega) (by omega) ?_
          refine l_loadc rfl Try.isAgg38 rfl (core_cell hr8.ex hk (by omega)) ?_
          refine l_move rfl rfl ?_
          refine l_ixs rfl Try.underlying38 Try.sizeOf40 rfl rfl (by omega) (by omega) ?_
          refine l_fieldAddr rfl fa_40_1 rfl ?_
          refine l_loadc rfl Try.isAgg3 rfl ((row_elem hr9.ex (win_len L) (win_at (i := i.toNat) (by omega))).cell (j := 1) (v := .int .i64 (wat L i.toNat).2.1) rfl) ?_
          first | refine l_add rfl rfl rfl (w_i64 (by omega) (by omega)) ?_ | refine l_addw rfl rfl rfl ?_
          refine l_assign rfl rfl ?_
          refine l_nil ?_
          refine g_inBlock ?_
          refine g_region ?_
          refine l_move rfl rfl ?_
          first | refine l_add rfl rfl rfl (w_i64 (by omega) (by omega)) ?_ | refine l_addw rfl rfl rfl ?_
          refine l_assign rfl rfl ?_
          refine l_nil ?_
          (first | (rw [spI_no hk hbr, show i.toNat + 1 = (i + 1).toNat by omega]; exact g_againi (ihi (i + 1) (by omega) (by omega)) (.cons rfl (.cons rfl (.cons rfl (.cons rfl (.cons rfl (.cons rfl (.cons rfl (.cons rfl (.cons rfl (.cons rfl (.cons rfl (.cons rfl (.nil)))))))))))))) | (have hy := spI_yes hk hbr; have hu := usT_snoc (Ks := Ks) (l := spI p Ks k.toNat i.toNat) (k := k.toNat) (i := i.toNat) (x := bg L i.toNat) (y := bg L (i.toNat + 1)); rw [hy, hk] at hu; rw [← hu, show i.toNat + 1 = (i + 1).toNat by omega]; exact g_againi (ihi (i + 1) (by omega) (by omega)) (.cons rfl (.cons rfl (.cons rfl (.cons rfl (.cons rfl (.cons rfl (.cons rfl (.cons rfl (.cons rfl (.cons rfl (.cons rfl (.cons rfl (.nil)))))))))))))))
        intro hbr
        have hbr := of_decide_eq_false hbr
        refine g_skip ?_
        refine g_inBlock ?_
        refine g_region ?_
        refine l_move rfl rfl ?_
        first | refine l_add rfl rfl rfl (w_i64 (by omega) (by omega)) ?_ | refine l_addw rfl rfl rfl ?_
        refine l_assign rfl rfl ?_
        refine l_nil ?_
        (first | (rw [spI_no hk hbr, show i.toNat + 1 = (i + 1).toNat by omega]; exact g_againi (ihi (i + 1) (by omega) (by omega)) (.cons rfl (.cons rfl (.cons rfl (.cons rfl (.cons rfl (.cons rfl (.cons rfl (.cons rfl (.cons rfl (.cons rfl (.cons rfl (.cons rfl (.nil)))))))))))))) | (have hy := spI_yes hk hbr; have hu := usT_snoc (Ks := Ks) (l := spI p Ks k.toNat i.toNat) (k := k.toNat) (i := i.toNat) (x := bg L i.toNat) (y := bg L (i.toNat + 1)); rw [hy, hk] at hu; rw [← hu, show i.toNat + 1 = (i + 1).toNat by omega]; exact g_againi (ihi (i + 1) (by omega) (by omega)) (.cons rfl (.cons rfl (.cons rfl (.cons rfl (.cons rfl (.cons rfl (.cons rfl (.cons rfl (.cons rfl (.cons rfl (.cons rfl (.cons rfl (.nil)))))))))))))))
      intro hbr
      have hbr := of_decide_eq_false hbr
      refine g_exit rfl ?_
      obtain rfl : i = n := by omega
      rw [Int.toNat_natCast, spI_end hk]
      refine g_inBlock ?_
      refine g_region ?_
      refine l_move rfl rfl ?_
      first | refine l_add rfl rfl rfl (w_i64 (by omega) (by omega)) ?_ | refine l_addw rfl rfl rfl ?_
      refine l_assign rfl rfl ?_
      refine l_nil ?_
      rw [show k.toNat + 1 = (k + 1).toNat by omega]
      exact g_againi (ih (k + 1) (by omega) (by omega)) (.cons rfl (.cons rfl (.cons rfl (.cons rfl (.cons rfl (.cons rfl (.nil)))))))
    intro hbr
    have hbr := of_decide_eq_false hbr
    refine g_exit rfl ?_
    obtain rfl : k = cn := by omega
    rw [Int.toNat_natCast]
    refine g_seq ?_
    refine g_region ?_
    refine l_move rfl rfl ?_
    refine l_assign rfl rfl ?_
    refine l_assign rfl rfl ?_
    refine l_nil ?_
    refine g_ret Try.func44 rfl (.tmp rfl (.tmp rfl .nil)) ?_
    (first | exact Gives.mki ⟨_, 0, rfl, rfl, fun _ => ⟨⟨by omega, by omega⟩, hyes (nb_f hb15), rfl⟩, fun h => absurd rfl h⟩ | exact Gives.mki ⟨0, _, rfl, rfl, (fun h => absurd h (by decide)), fun _ => ⟨rfl, by first | exact .inl ⟨rfl, fun h => by omega⟩ | exact .inr ⟨rfl, ⟨by omega, by omega⟩, hno (nb_t hb15)⟩⟩⟩)
  intro hbr
  have hbr := of_decide_eq_false hbr
  refine l_guard_no rfl rfl rfl ?_
  refine l_guard_no rfl rfl rfl ?_
  refine l_guard_no rfl rfl rfl ?_
  refine l_guard_no rfl rfl rfl ?_
  refine l_guard_no rfl rfl rfl ?_
  refine l_pick_f rfl rfl rfl ?_
  refine l_assign rfl rfl ?_
  refine l_nil ?_
  refine g_ret Try.func40 rfl (.tmp rfl .nil) ?_
  first | refine ⟨.bool _, rfl, ?_⟩ | refine ⟨_, rfl, ?_⟩
  refine l_not rfl rfl ?_
  refine l_nil ?_
  first | refine g_cond_t rfl ?_ | refine g_cond_t (congrArg (fun b => some (Value.bool b)) (decide_eq_true hbr)) ?_
  refine g_seq ?_
  refine g_region ?_
  refine l_assign rfl rfl ?_
  refine l_assign rfl rfl ?_
  refine l_nil ?_
  refine g_ret Try.func44 rfl (.tmp rfl (.tmp rfl .nil)) ?_
  (first | exact Gives.mki ⟨_, 0, rfl, rfl, fun _ => ⟨⟨by omega, by omega⟩, hyes (nb_f hb15), rfl⟩, fun h => absurd rfl h⟩ | exact Gives.mki ⟨0, _, rfl, rfl, (fun h => absurd h (by decide)), fun _ => ⟨rfl, by first | exact .inl ⟨rfl, fun h => by omega⟩ | exact .inr ⟨rfl, ⟨by omega, by omega⟩, hno (nb_t hb15)⟩⟩⟩)
end Go.Proofs.Ytfccfjgnoeocnaa.Fw
