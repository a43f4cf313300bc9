import Derived.Test.YtfccfjgnoeocnaaSpans
namespace Go.Proofs.Ytfccfjgnoeocnaa.Fw
open Go Go.Proofs
set_option linter.unusedVariables false
set_option linter.unusedSimpArgs false
set_option maxRecDepth 10000

def rs (cn : Nat) (L : List Win) : Nat → Int
  | 0 => 0
  | i + 1 => rs cn L i + ((wat L i).2.1 + 2 + ((wat L i).2.1 / 25 + 1) * (8 + 4 * cn))
def mx (cn : Nat) (Ks : List CoreR) : Nat → Int
  | 0 => 0
  | k + 1 => max (mx cn Ks k) (rs cn (kat Ks k).L (kat Ks k).n)
theorem prod_bound {a b : Int} (h0 : 0 ≤ a) (h1 : a ≤ 656) (h2 : 0 ≤ b) (h3 : b ≤ 24) : 0 ≤ a * b ∧ a * b ≤ 15744 :=
  ⟨Int.mul_nonneg h0 h2, Int.le_trans (Int.mul_le_mul h1 h3 h2 (by omega)) (by decide)⟩
theorem rs_bound {cn : Nat} {L : List Win} (hc : cn ≤ 4) (h : ∀ i, i < L.length → okW (wat L i)) : ∀ i, i ≤ L.length → 0 ≤ rs cn L i ∧ rs cn L i ≤ 33000 * i
  | 0, _ => by simp [rs]
  | i + 1, hi => by
    have h1 := rs_bound hc h i (by omega)
    have h2 := h i (by omega)
    unfold okW at h2
    have h3 := prod_bound (a := (wat L i).2.1 / 25 + 1) (b := 8 + 4 * cn) (by omega) (by omega) (by omega) (by omega)
    simp only [rs]
    omega
theorem mx_bound {cn : Nat} {Ks : List CoreR} {w0 : World} {F : List Atom} {ca : Option Addr} (hC : CR w0 F ca cn Ks) (hc : cn ≤ 4) : ∀ k, k ≤ cn → AllMay Ks k → 0 ≤ mx cn Ks k ∧ mx cn Ks k ≤ 528000
  | 0, _, _ => by simp [mx]
  | k + 1, hk, hm => by
    have h1 := mx_bound hC hc k (by omega) fun j hj => hm j (by omega)
    have h2 := hm k (by omega)
    have h4 := (hC.2.1 k (by omega)).1.1
    have h5 := h2.2.1
    have h3 := rs_bound hc h2.2.2 (kat Ks k).n (by omega)
    simp only [mx]
    omega
theorem rounds_any (w0 : World) (F : List Atom) (fr mj kr rm : Int) (ca pa ha : Option Addr) (cn cc pn pc hn hc : Nat) (Ks : List CoreR) (hCR : CR w0 F ca cn Ks) (hcn : cn ≤ 9223372036854775807) (hpn : pn ≤ 9223372036854775807) (hmj : I64 mj) :
    CallK Try.prog 16 [.agg [Value.int .i64 fr, .int .i64 mj, .int .i64 kr, .int .i64 rm, .slice ca cn cc, .slice pa pn pc, .slice ha hn hc].toArray] w0 (F) (Gives w0 fun v F2 => ∃ x, v = .int .i64 x ∧ F2 = F ∧ ((1 ≤ cn ∧ cn ≤ 4 ∧ AllMay Ks cn) → x = 4 + mx cn Ks cn) ∧ (¬ (1 ≤ cn ∧ cn ≤ 4 ∧ AllMay Ks cn) → x = 0)) := by
  have hCl := hCR.1
  refine c_enter Try.func16 rfl rfl rfl ?_
  refine g_seq ?_
  refine g_region ?_
  refine l_boxs rfl rfl ?_; intro b1
  refine l_assign rfl rfl ?_
  refine l_nil ?_
  refine g_seq ?_
  refine g_region ?_
  refine l_fieldAddr rfl fa_27_4 rfl ?_
  refine l_ld rfl Try.isAgg23 rfl rfl ?_
  refine l_len rfl Try.underlying23 rfl ?_
  refine l_assign rfl rfl ?_
  refine l_nil ?_
  refine g_seq ?_
  refine g_seq ?_
  refine g_region ?_
  refine l_move rfl rfl ?_
  refine l_lss rfl rfl rfl ?_
  refine l_move rfl rfl ?_
  refine l_split 18 rfl ?_ ?_
  · intro hbr
    have hbr := of_decide_eq_true hbr
    refine l_guard_no rfl rfl rfl ?_
    refine l_guard_no rfl rfl rfl ?_
    refine l_pick_t rfl rfl rfl ?_
    refine l_nil ?_
    first | refine g_cond_t rfl ?_ | refine g_cond_t (congrArg (fun b => some (Value.bool b)) (decide_eq_true hbr)) ?_
    refine g_seq ?_
    refine g_region ?_
    refine l_assign rfl rfl ?_
    refine l_nil ?_
    refine g_ret Try.func16 rfl (.tmp rfl .nil) ?_
    (first | exact Gives.mki ⟨_, rfl, rfl, fun _ => rfl, fun h => absurd ⟨by omega, by omega, hall⟩ h⟩ | exact Gives.mki ⟨0, rfl, rfl, fun h => by omega, fun _ => rfl⟩ | exact Gives.mki ⟨0, rfl, rfl, fun h => absurd (h.2.2 k.toNat (by omega)) (by rw [hk]; exact (hbad (nb_t hbr)).1), fun _ => rfl⟩)
  intro hbr
  have hbr := of_decide_eq_false hbr
  refine l_guard_yes rfl rfl ?_
  refine l_move rfl rfl ?_
  refine l_guard_yes rfl rfl ?_
  refine l_gtr rfl rfl rfl ?_
  refine l_pick_f rfl rfl rfl ?_
  refine l_nil ?_
  refine g_cond rfl ?_ ?_
  · intro hbr
    have hbr := of_decide_eq_true hbr
    refine g_seq ?_
    refine g_region ?_
    refine l_assign rfl rfl ?_
    refine l_nil ?_
    refine g_ret Try.func16 rfl (.tmp rfl .nil) ?_
    (first | exact Gives.mki ⟨_, rfl, rfl, fun _ => rfl, fun h => absurd ⟨by omega, by omega, hall⟩ h⟩ | exact Gives.mki ⟨0, rfl, rfl, fun h => by omega, fun _ => rfl⟩ | exact Gives.mki ⟨0, rfl, rfl, fun h => absurd (h.2.2 k.toNat (by omega)) (by rw [hk]; exact (hbad (nb_t hbr)).1), fun _ => rfl⟩)
  intro hbr
  have hbr := of_decide_eq_false hbr
  refine g_skip ?_
  refine g_seq ?_
  refine g_region ?_
  refine l_assign rfl rfl ?_
  refine l_nil ?_
  refine g_seq ?_
  refine g_seq ?_
  refine g_region ?_
  refine l_fieldAddr rfl fa_27_4 rfl ?_
  refine l_ld rfl Try.isAgg23 rfl rfl ?_
  refine l_len rfl Try.underlying23 rfl ?_
  refine l_move rfl rfl ?_
  refine l_nil ?_
  refine g_block ?_
  refine g_loop (X := Int) (fun k => 0 ≤ k ∧ k ≤ cn ∧ AllMay Ks k.toNat) (fun k => (cn - k).toNat) (fun k => [(3, .int .i64 cn), (4, .int .i64 (mx cn Ks k.toNat)), (23, .slice ca cn cc), (24, .int .i64 cn), (25, .int .i64 k)]) (fun k => F) 0 ⟨by omega, by omega, fun j hj => by simp at hj⟩ (.cons rfl (.cons rfl (.cons rfl (.cons rfl (.cons rfl (.nil)))))) (fun w hw => SPI.holds hw) ?_
  rintro k ⟨k0, k1, hall⟩ ih
  obtain ⟨⟨a, n, c, L⟩, hk⟩ : ∃ K, kat Ks k.toNat = K := ⟨_, rfl⟩
  have hmb := mx_bound hCR (by omega) k.toNat (by omega) hall
  refine g_seq ?_
  refine g_region ?_
  refine l_lss rfl rfl rfl ?_
  refine l_nil ?_
  refine g_seq ?_
  refine g_cond rfl ?_ ?_
  · intro hbr
    have hbr := of_decide_eq_true hbr
    refine g_skip ?_
    refine g_seq ?_
    refine g_block ?_
    refine g_seq ?_
    refine g_region ?_
    obtain ⟨b8, o8, rfl, hr8⟩ := hCR.some (i := k.toNat) (by omega)
    refine l_ixs rfl Try.underlying23 Try.sizeOf38 rfl rfl (by omega) (by omega) ?_
    obtain ⟨hW, hn9⟩ := hCR.ok hk (by omega)
    have hL := hW.1
    have hI := hW.2.1
    unfold I64 at hI
    refine l_loadc rfl Try.isAgg38 rfl (core_cell hr8.ex hk (by omega)) ?_
    refine l_assign rfl rfl ?_
    refine l_nil ?_
    refine g_seq ?_
    refine g_seq ?_
    refine g_region ?_
    refine l_move rfl rfl ?_
    refine l_call rfl Try.call37 rfl (frame_any _ _ a n c L hW.ex hn9) ?_; rintro _ _ ⟨u5, m5, e5, ok, rfl, rfl, hok, hbad⟩
    refine l_move rfl rfl ?_
    refine l_extract rfl rfl rfl ?_
    refine l_extract rfl rfl rfl ?_
    refine l_extract rfl rfl rfl ?_
    refine l_assign rfl rfl ?_
    refine l_assign rfl rfl ?_
    refine l_assign rfl rfl ?_
    refine l_nil ?_
    refine g_seq ?_
    refine g_region ?_
    refine l_move rfl rfl ?_
    refine l_not rfl rfl ?_
    refine l_nil ?_
    refine g_cond rfl ?_ ?_
    · intro hbr
      have hb36 := hbr
      refine g_seq ?_
      refine g_region ?_
      refine l_assign rfl rfl ?_
      refine l_nil ?_
      refine g_ret Try.func16 rfl (.tmp rfl .nil) ?_
      (first | exact Gives.mki ⟨_, rfl, rfl, fun _ => rfl, fun h => absurd ⟨by omega, by omega, hall⟩ h⟩ | exact Gives.mki ⟨0, rfl, rfl, fun h => by omega, fun _ => rfl⟩ | exact Gives.mki ⟨0, rfl, rfl, fun h => absurd (h.2.2 k.toNat (by omega)) (by rw [hk]; exact (hbad (nb_t hbr)).1), fun _ => rfl⟩)
    intro hbr
    have hb36 := hbr
    refine g_skip ?_
    refine g_seq ?_
    refine g_region ?_
    obtain ⟨hm, _, _, _⟩ := hok (nb_f hbr)
    obtain ⟨m1, m2, _⟩ := id hm
    refine l_assign rfl rfl ?_
    refine l_nil ?_
    refine g_seq ?_
    refine g_seq ?_
    refine g_region ?_
    refine l_move rfl rfl ?_
    refine l_len rfl Try.underlying38 rfl ?_
    refine l_move rfl rfl ?_
    refine l_nil ?_
    refine g_block ?_
    refine g_loop (X := Int) (fun i => 0 ≤ i ∧ i ≤ n) (fun i => (n - i).toNat) (fun i => [(3, .int .i64 cn), (4, .int .i64 (mx cn Ks k.toNat)), (23, .slice (some ⟨b8, o8, none⟩) cn cc), (24, .int .i64 cn), (25, .int .i64 k), (10, .int .i64 (rs cn L i.toNat)), (37, .slice a n c), (38, .int .i64 n), (39, .int .i64 i)]) (fun i => F) 0 (by omega) (.cons rfl (.cons rfl (.cons rfl (.cons rfl (.cons rfl (.cons rfl (.cons rfl (.cons rfl (.cons rfl (.nil)))))))))) (fun w hw => SPI.holds hw) ?_
    rintro i ⟨i0, i1⟩ ihi
    have hb1 := rs_bound (cn := cn) (by omega) hm.2.2 i.toNat (by omega)
    have hb2 := fun h => hm.2.2 i.toNat h
    unfold okW at hb2
    refine g_seq ?_
    refine g_region ?_
    refine l_lss rfl rfl rfl ?_
    refine l_nil ?_
    refine g_seq ?_
    refine g_cond rfl ?_ ?_
    · intro hbr
      have hbr := of_decide_eq_true hbr
      refine g_skip ?_
      refine g_seq ?_
      refine g_block ?_
      refine g_seq ?_
      refine g_region ?_
      have hIi := hI i.toNat (by omega)
      obtain ⟨b9, o9, rfl, hr9⟩ := hW.some (i := i.toNat) (by omega)
      refine l_ixs rfl Try.underlying38 Try.sizeOf40 rfl rfl (by omega) (by omega) ?_
      refine l_loadr (l := winRow (wat L i.toNat)) rfl Try.isAgg40 Try.sizeOf40 rfl rfl (row_elem hr9.ex (win_len L) (win_at (i := i.toNat) (by omega))) ?_
      refine l_allocs rfl Try.zeroValue40 ?_; intro b12
      refine l_sts Try.sizeOf40 rfl rfl rfl rfl rfl ?_
      refine l_nil ?_
      refine g_region ?_
      refine l_move rfl rfl ?_
      refine l_fieldAddr rfl fa_40_1 rfl ?_
      first | refine l_ld rfl Try.isAgg3 rfl rfl ?_ | refine l_ldw rfl Try.isAgg3 rfl (by omega) ?_
      first | refine l_add rfl rfl rfl (w_i64 (by omega) (by omega)) ?_ | refine l_addw rfl rfl rfl ?_
      refine l_fieldAddr rfl fa_40_1 rfl ?_
      first | refine l_ld rfl Try.isAgg3 rfl rfl ?_ | refine l_ldw rfl Try.isAgg3 rfl (by omega) ?_
      refine l_quo rfl rfl rfl (by omega) (by omega) (w_i64 (by omega) (by omega)) ?_
      first | refine l_add rfl rfl rfl (w_i64 (by omega) (by omega)) ?_ | refine l_addw rfl rfl rfl ?_
      refine l_move rfl rfl ?_
      first | refine l_mul rfl rfl rfl (w_i64 (by omega) (by omega)) ?_ | refine l_mulw rfl rfl rfl ?_
      first | refine l_add rfl rfl rfl (w_i64 (by omega) (by omega)) ?_ | refine l_addw rfl rfl rfl ?_
      have hpb := prod_bound (a := (wat L i.toNat).2.1 / 25 + 1) (b := 8 + 4 * cn) (by omega) (by omega) (by omega) (by omega)
      refine l_mul rfl rfl rfl (w_i64 (by omega) (by omega)) ?_
      first | refine l_add rfl rfl rfl (w_i64 (by omega) (by omega)) ?_ | refine l_addw rfl rfl rfl ?_
      first | refine l_add rfl rfl rfl (w_i64 (by omega) (by omega)) ?_ | refine l_addw rfl rfl rfl ?_
      refine l_assign rfl rfl ?_
      refine l_nil ?_
      refine g_inBlock ?_
      refine g_region ?_
      first | refine l_add rfl rfl rfl (w_i64 (by omega) (by omega)) ?_ | refine l_addw rfl rfl rfl ?_
      refine l_move rfl rfl ?_
      refine l_nil ?_
      rw [show rs cn L i.toNat + ((wat L i.toNat).2.1 + 2 + ((wat L i.toNat).2.1 / 25 + 1) * (8 + 4 * cn)) = rs cn L (i + 1).toNat by rw [show (i + 1).toNat = i.toNat + 1 by omega]; rfl]
      exact g_againi (ihi (i + 1) (by omega) (by omega)) (.cons rfl (.cons rfl (.cons rfl (.cons rfl (.cons rfl (.cons rfl (.cons rfl (.cons rfl (.cons rfl (.nil))))))))))
    intro hbr
    have hbr := of_decide_eq_false hbr
    refine g_exit rfl ?_
    obtain rfl : i = n := by omega
    rw [Int.toNat_natCast]
    have hb3 := rs_bound (cn := cn) (by omega) hm.2.2 n (by omega)
    refine g_region ?_
    refine l_move rfl rfl ?_
    refine l_move rfl rfl ?_
    refine l_max rfl rfl rfl ?_
    refine l_assign rfl rfl ?_
    refine l_nil ?_
    refine g_inBlock ?_
    refine g_region ?_
    first | refine l_add rfl rfl rfl (w_i64 (by omega) (by omega)) ?_ | refine l_addw rfl rfl rfl ?_
    refine l_move rfl rfl ?_
    refine l_nil ?_
    have hms : max (mx cn Ks k.toNat) (rs cn L n) = mx cn Ks (k + 1).toNat := by rw [show (k + 1).toNat = k.toNat + 1 by omega]; simp [mx, hk]
    rw [hms]
    exact g_againi (ih (k + 1) ⟨by omega, by omega, all_next hk k0 hm hall⟩ (by omega)) (.cons rfl (.cons rfl (.cons rfl (.cons rfl (.cons rfl (.nil))))))
  intro hbr
  have hbr := of_decide_eq_false hbr
  refine g_exit rfl ?_
  obtain rfl : k = cn := by omega
  rw [Int.toNat_natCast] at hall hmb ⊢
  refine g_seq ?_
  refine g_region ?_
  refine l_move rfl rfl ?_
  first | refine l_add rfl rfl rfl (w_i64 (by omega) (by omega)) ?_ | refine l_addw rfl rfl rfl ?_
  refine l_assign rfl rfl ?_
  refine l_nil ?_
  refine g_ret Try.func16 rfl (.tmp rfl .nil) ?_
  (first | exact Gives.mki ⟨_, rfl, rfl, fun _ => rfl, fun h => absurd ⟨by omega, by omega, hall⟩ h⟩ | exact Gives.mki ⟨0, rfl, rfl, fun h => by omega, fun _ => rfl⟩ | exact Gives.mki ⟨0, rfl, rfl, fun h => absurd (h.2.2 k.toNat (by omega)) (by rw [hk]; exact (hbad (nb_t hbr)).1), fun _ => rfl⟩)
end Go.Proofs.Ytfccfjgnoeocnaa.Fw
