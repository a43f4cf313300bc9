import Derived.Test.YtfccfjgnoeocnaaRRounds
namespace Go.Proofs.Ytfccfjgnoeocnaa.Fw
open Go Go.Proofs
set_option linter.unusedVariables false
set_option linter.unusedSimpArgs false
set_option maxRecDepth 10000

theorem rrounds_any (w0 : World) (F : List Atom) (fr mj kr rm : Int) (ca pa ha : Option Addr) (cn cc pn pc hn hc : Nat) (Ks : List CoreR) (hCR : CR w0 F ca cn Ks) (hcn : cn ≤ 9223372036854775807) (hpn : pn ≤ 9223372036854775807) (hmj : I64 mj) :
    CallK Try.prog 17 [.agg [Value.int .i64 fr, .int .i64 mj, .int .i64 kr, .int .i64 rm, .slice ca cn cc, .slice pa pn pc, .slice ha hn hc].toArray] w0 (F) (Gives w0 fun v F2 => ∃ x, v = .int .i64 x ∧ F2 = F ∧ ((1 ≤ cn ∧ cn ≤ 4 ∧ AllMay Ks cn) → x = 4 + mx cn Ks cn) ∧ (¬ (1 ≤ cn ∧ cn ≤ 4 ∧ AllMay Ks cn) → x = 0)) := by
  have hCl := hCR.1
  refine c_enter Try.func17 rfl rfl rfl ?_
  refine g_seq ?_
  refine g_region ?_
  refine l_boxs rfl rfl ?_; intro b1
  refine l_assign rfl rfl ?_
  refine l_nil ?_
  refine g_seq ?_
  refine g_region ?_
  refine l_fieldAddr rfl fa_27_4 rfl ?_
  refine l_ld rfl Try.isAgg23 rfl rfl ?_
  refine l_len rfl Try.underlying23 rfl ?_
  refine l_assign rfl rfl ?_
  refine l_nil ?_
  refine g_seq ?_
  refine g_seq ?_
  refine g_region ?_
  refine l_move rfl rfl ?_
  refine l_lss rfl rfl rfl ?_
  refine l_move rfl rfl ?_
  refine l_split 14 rfl ?_ ?_
  · intro hbr
    have hbr := of_decide_eq_true hbr
    refine l_guard_no rfl rfl rfl ?_
    refine l_guard_no rfl rfl rfl ?_
    refine l_pick_t rfl rfl rfl ?_
    refine l_move rfl rfl ?_
    refine l_guard_no rfl rfl rfl ?_
    refine l_guard_no rfl rfl rfl ?_
    refine l_guard_no rfl rfl rfl ?_
    refine l_pick_t rfl rfl rfl ?_
    refine l_nil ?_
    first | refine g_cond_t rfl ?_ | refine g_cond_t (congrArg (fun b => some (Value.bool b)) (decide_eq_true hbr)) ?_
    refine g_seq ?_
    refine g_region ?_
    refine l_assign rfl rfl ?_
    refine l_nil ?_
    refine g_ret Try.func17 rfl (.tmp rfl .nil) ?_
    (first | exact Gives.mki ⟨_, rfl, rfl, fun _ => rfl, fun h => absurd ⟨by omega, by omega, hall⟩ h⟩ | exact Gives.mki ⟨0, rfl, rfl, fun h => by omega, fun _ => rfl⟩ | exact Gives.mki ⟨0, rfl, rfl, fun h => absurd h.2.2 (hno (nb_t hbr)), fun _ => rfl⟩)
  intro hbr
  have hbr := of_decide_eq_false hbr
  refine l_guard_yes rfl rfl ?_
  refine l_move rfl rfl ?_
  refine l_guard_yes rfl rfl ?_
  refine l_gtr rfl rfl rfl ?_
  refine l_pick_f rfl rfl rfl ?_
  refine l_move rfl rfl ?_
  refine l_split 18 rfl ?_ ?_
  · intro hbr
    have hbr := of_decide_eq_true hbr
    refine l_guard_no rfl rfl rfl ?_
    refine l_guard_no rfl rfl rfl ?_
    refine l_guard_no rfl rfl rfl ?_
    refine l_pick_t rfl rfl rfl ?_
    refine l_nil ?_
    first | refine g_cond_t rfl ?_ | refine g_cond_t (congrArg (fun b => some (Value.bool b)) (decide_eq_true hbr)) ?_
    refine g_seq ?_
    refine g_region ?_
    refine l_assign rfl rfl ?_
    refine l_nil ?_
    refine g_ret Try.func17 rfl (.tmp rfl .nil) ?_
    (first | exact Gives.mki ⟨_, rfl, rfl, fun _ => rfl, fun h => absurd ⟨by omega, by omega, hall⟩ h⟩ | exact Gives.mki ⟨0, rfl, rfl, fun h => by omega, fun _ => rfl⟩ | exact Gives.mki ⟨0, rfl, rfl, fun h => absurd h.2.2 (hno (nb_t hbr)), fun _ => rfl⟩)
  intro hbr
  have hbr := of_decide_eq_false hbr
  refine l_guard_yes rfl rfl ?_
  refine l_lds rfl Try.isAgg27 Try.sizeOf27 rfl rfl ?_
  refine l_guard_yes rfl rfl ?_
  refine l_call rfl Try.call38 rfl (all_any _ _ fr mj kr rm ca pa ha cn cc pn pc hn hc Ks hCR.ex hcn hpn hmj) ?_; rintro _ _ ⟨ok, rfl, rfl, hyes, hno⟩
  refine l_guard_yes rfl rfl ?_
  refine l_not rfl rfl ?_
  refine l_pick_f rfl rfl rfl ?_
  refine l_nil ?_
  refine g_cond rfl ?_ ?_
  · intro hbr
    have hb22 := hbr
    refine g_seq ?_
    refine g_region ?_
    refine l_assign rfl rfl ?_
    refine l_nil ?_
    refine g_ret Try.func17 rfl (.tmp rfl .nil) ?_
    (first | exact Gives.mki ⟨_, rfl, rfl, fun _ => rfl, fun h => absurd ⟨by omega, by omega, hall⟩ h⟩ | exact Gives.mki ⟨0, rfl, rfl, fun h => by omega, fun _ => rfl⟩ | exact Gives.mki ⟨0, rfl, rfl, fun h => absurd h.2.2 (hno (nb_t hbr)), fun _ => rfl⟩)
  intro hbr
  have hb22 := hbr
  refine g_skip ?_
  refine g_seq ?_
  refine g_region ?_
  have hall := hyes (nb_f hbr)
  refine l_assign rfl rfl ?_
  refine l_nil ?_
  refine g_seq ?_
  refine g_seq ?_
  refine g_region ?_
  refine l_assign rfl rfl ?_
  refine l_nil ?_
  refine g_block ?_
  refine g_loop (X := Int) (fun k => 0 ≤ k ∧ k ≤ cn) (fun k => (cn - k).toNat) (fun k => [(1, .pointer (some ⟨b1, 0, none⟩)), (3, .int .i64 cn), (4, .int .i64 (mx cn Ks k.toNat)), (5, .int .i64 k)]) (fun k => Blk b1 (.cells [.int .i64 fr, .int .i64 mj, .int .i64 kr, .int .i64 rm, .slice ca cn cc, .slice pa pn pc, .slice ha hn hc].toArray 27 (0, 0)) :: F) 0 ⟨by omega, by omega⟩ (.cons rfl (.cons rfl (.cons rfl (.cons rfl (.nil))))) (fun w hw => SPI.holds hw) ?_
  rintro k ⟨k0, k1⟩ ih
  obtain ⟨⟨a, n, c, L⟩, hk⟩ : ∃ K, kat Ks k.toNat = K := ⟨_, rfl⟩
  have hmb := mx_bound hCR (by omega) k.toNat (by omega) (fun j hj => hall j (by omega))
  refine g_seq ?_
  refine g_seq ?_
  refine g_region ?_
  refine l_move rfl rfl ?_
  refine l_move rfl rfl ?_
  refine l_lss rfl rfl rfl ?_
  refine l_nil ?_
  refine g_cond rfl ?_ ?_
  · intro hbr
    have hbr := of_decide_eq_true hbr
    refine g_skip ?_
    refine g_seq ?_
    refine g_block ?_
    refine g_seq ?_
    refine g_region ?_
    refine l_assign rfl rfl ?_
    refine l_nil ?_
    refine g_seq ?_
    refine g_seq ?_
    refine g_region ?_
    refine l_assign rfl rfl ?_
    refine l_nil ?_
    refine g_block ?_
    have hok := fun h => hCR.ok hk (show k.toNat < cn from h)
    have hm : k < cn → May L := fun h => by have := hall k.toNat (by omega); rwa [hk] at this
    replace hm := hm (by omega)
    obtain ⟨m1, m2, _⟩ := id hm
    obtain ⟨hW, hn9⟩ := hCR.ok hk (by omega)
    have hL := hW.1
    have hI := hW.2.1
    unfold I64 at hI
    refine g_loop (X := Int) (fun i => 0 ≤ i ∧ i ≤ n) (fun i => (n - i).toNat) (fun i => [(1, .pointer (some ⟨b1, 0, none⟩)), (3, .int .i64 cn), (4, .int .i64 (mx cn Ks k.toNat)), (5, .int .i64 k), (6, .int .i64 (rs cn L i.toNat)), (7, .int .i64 i)]) (fun i => Blk b1 (.cells [.int .i64 fr, .int .i64 mj, .int .i64 kr, .int .i64 rm, .slice ca cn cc, .slice pa pn pc, .slice ha hn hc].toArray 27 (0, 0)) :: F) 0 (by omega) (.cons rfl (.cons rfl (.cons rfl (.cons rfl (.cons rfl (.cons rfl (.nil))))))) (fun w hw => SPI.holds hw) ?_
    rintro i ⟨i0, i1⟩ ihi
    have hb1 := rs_bound (cn := cn) (by omega) hm.2.2 i.toNat (by omega)
    have hb2 := fun h => hm.2.2 i.toNat h
    unfold okW at hb2
    refine g_seq ?_
    refine g_seq ?_
    refine g_region ?_
    refine l_move rfl rfl ?_
    refine l_fieldAddr rfl fa_27_4 rfl ?_
    refine l_ld rfl Try.isAgg23 rfl rfl ?_
    refine l_move rfl rfl ?_
    obtain ⟨b8, o8, rfl, hr8⟩ := hCR.some (i := k.toNat) (by omega)
    refine l_ixs rfl Try.underlying23 Try.sizeOf38 rfl rfl (by omega) (by omega) ?_
    refine l_loadc rfl Try.isAgg38 rfl (core_cell hr8.ex hk (by omega)) ?_
    refine l_len rfl Try.underlying38 rfl ?_
    refine l_lss rfl rfl rfl ?_
    refine l_nil ?_
    refine g_cond rfl ?_ ?_
    · intro hbr
      have hbr := of_decide_eq_true hbr
      refine g_skip ?_
      refine g_seq ?_
      refine g_block ?_
      refine g_seq ?_
      refine g_region ?_
      refine l_fieldAddr rfl fa_27_4 rfl ?_
      refine l_ld rfl Try.isAgg23 rfl rfl ?_
      refine l_move rfl rfl ?_
      refine l_ixs rfl Try.underlying23 Try.sizeOf38 rfl rfl (by omega) (by omega) ?_
      refine l_loadc rfl Try.isAgg38 rfl (core_cell hr8.ex hk (by omega)) ?_
      refine l_move rfl rfl ?_
      have hIi := hI i.toNat (by omega)
      obtain ⟨b9, o9, rfl, hr9⟩ := hW.some (i := i.toNat) (by omega)
      refine l_ixs rfl Try.underlying38 Try.sizeOf40 rfl rfl (by omega) (by omega) ?_
      refine l_fieldAddr rfl fa_40_1 rfl ?_
      refine l_loadc rfl Try.isAgg3 rfl ((row_elem hr9.ex (win_len L) (win_at (i := i.toNat) (by omega))).cell (j := 1) (v := .int .i64 (wat L i.toNat).2.1) rfl) ?_
      refine l_assign rfl rfl ?_
      refine l_nil ?_
      refine g_region ?_
      refine l_move rfl rfl ?_
      refine l_move rfl rfl ?_
      first | refine l_add rfl rfl rfl (w_i64 (by omega) (by omega)) ?_ | refine l_addw rfl rfl rfl ?_
      refine l_move rfl rfl ?_
      refine l_quo rfl rfl rfl (by omega) (by omega) (w_i64 (by omega) (by omega)) ?_
      first | refine l_add rfl rfl rfl (w_i64 (by omega) (by omega)) ?_ | refine l_addw rfl rfl rfl ?_
      refine l_move rfl rfl ?_
      first | refine l_mul rfl rfl rfl (w_i64 (by omega) (by omega)) ?_ | refine l_mulw rfl rfl rfl ?_
      first | refine l_add rfl rfl rfl (w_i64 (by omega) (by omega)) ?_ | refine l_addw rfl rfl rfl ?_
      have hpb := prod_bound (a := (wat L i.toNat).2.1 / 25 + 1) (b := 8 + 4 * cn) (by omega) (by omega) (by omega) (by omega)
      refine l_mul rfl rfl rfl (w_i64 (by omega) (by omega)) ?_
      first | refine l_add rfl rfl rfl (w_i64 (by omega) (by omega)) ?_ | refine l_addw rfl rfl rfl ?_
      first | refine l_add rfl rfl rfl (w_i64 (by omega) (by omega)) ?_ | refine l_addw rfl rfl rfl ?_
      refine l_assign rfl rfl ?_
      refine l_nil ?_
      refine g_inBlock ?_
      refine g_region ?_
      refine l_move rfl rfl ?_
      first | refine l_add rfl rfl rfl (w_i64 (by omega) (by omega)) ?_ | refine l_addw rfl rfl rfl ?_
      refine l_assign rfl rfl ?_
      refine l_nil ?_
      rw [show rs cn L i.toNat + ((wat L i.toNat).2.1 + 2 + ((wat L i.toNat).2.1 / 25 + 1) * (8 + 4 * cn)) = rs cn L (i + 1).toNat by rw [show (i + 1).toNat = i.toNat + 1 by omega]; rfl]
      exact g_againi (ihi (i + 1) (by omega) (by omega)) (.cons rfl (.cons rfl (.cons rfl (.cons rfl (.cons rfl (.cons rfl (.nil)))))))
    intro hbr
    have hbr := of_decide_eq_false hbr
    refine g_exit rfl ?_
    obtain rfl : i = n := by omega
    have hb3 := rs_bound (cn := cn) (by omega) hm.2.2 n (by omega)
    refine g_seq ?_
    refine g_region ?_
    refine l_move rfl rfl ?_
    refine l_move rfl rfl ?_
    refine l_gtr rfl rfl rfl ?_
    refine l_nil ?_
    refine g_cond rfl ?_ ?_
    · intro hbr
      have hbr := of_decide_eq_true hbr
      refine g_region ?_
      refine l_move rfl rfl ?_
      refine l_assign rfl rfl ?_
      refine l_nil ?_
      refine g_inBlock ?_
      refine g_region ?_
      refine l_move rfl rfl ?_
      first | refine l_add rfl rfl rfl (w_i64 (by omega) (by omega)) ?_ | refine l_addw rfl rfl rfl ?_
      refine l_assign rfl rfl ?_
      refine l_nil ?_
      have hnn : ((n : Int)).toNat = n := Int.toNat_natCast n
      rw [hnn] at hbr
      have hms : mx cn Ks (k + 1).toNat = max (mx cn Ks k.toNat) (rs cn L n) := by rw [show (k + 1).toNat = k.toNat + 1 by omega]; simp [mx, hk]
      (first | (have e1 : rs cn L ((n : Int)).toNat = mx cn Ks (k + 1).toNat := (by rw [hnn, hms]; omega); rw [e1]; exact g_againi (ih (k + 1) ⟨by omega, by omega⟩ (by omega)) (.cons rfl (.cons rfl (.cons rfl (.cons rfl (.nil)))))) | (have e2 : mx cn Ks k.toNat = mx cn Ks (k + 1).toNat := (by rw [hms]; omega); rw [e2]; exact g_againi (ih (k + 1) ⟨by omega, by omega⟩ (by omega)) (.cons rfl (.cons rfl (.cons rfl (.cons rfl (.nil)))))))
    intro hbr
    have hbr := of_decide_eq_false hbr
    refine g_skip ?_
    refine g_inBlock ?_
    refine g_region ?_
    refine l_move rfl rfl ?_
    first | refine l_add rfl rfl rfl (w_i64 (by omega) (by omega)) ?_ | refine l_addw rfl rfl rfl ?_
    refine l_assign rfl rfl ?_
    refine l_nil ?_
    have hnn : ((n : Int)).toNat = n := Int.toNat_natCast n
    rw [hnn] at hbr
    have hms : mx cn Ks (k + 1).toNat = max (mx cn Ks k.toNat) (rs cn L n) := by rw [show (k + 1).toNat = k.toNat + 1 by omega]; simp [mx, hk]
    (first | (have e1 : rs cn L ((n : Int)).toNat = mx cn Ks (k + 1).toNat := (by rw [hnn, hms]; omega); rw [e1]; exact g_againi (ih (k + 1) ⟨by omega, by omega⟩ (by omega)) (.cons rfl (.cons rfl (.cons rfl (.cons rfl (.nil)))))) | (have e2 : mx cn Ks k.toNat = mx cn Ks (k + 1).toNat := (by rw [hms]; omega); rw [e2]; exact g_againi (ih (k + 1) ⟨by omega, by omega⟩ (by omega)) (.cons rfl (.cons rfl (.cons rfl (.cons rfl (.nil)))))))
  intro hbr
  have hbr := of_decide_eq_false hbr
  refine g_exit rfl ?_
  obtain rfl : k = cn := by omega
  rw [Int.toNat_natCast] at hmb ⊢
  refine g_seq ?_
  refine g_region ?_
  refine l_move rfl rfl ?_
  first | refine l_add rfl rfl rfl (w_i64 (by omega) (by omega)) ?_ | refine l_addw rfl rfl rfl ?_
  refine l_assign rfl rfl ?_
  refine l_nil ?_
  refine g_ret Try.func17 rfl (.tmp rfl .nil) ?_
  (first | exact Gives.mki ⟨_, rfl, rfl, fun _ => rfl, fun h => absurd ⟨by omega, by omega, hall⟩ h⟩ | exact Gives.mki ⟨0, rfl, rfl, fun h => by omega, fun _ => rfl⟩ | exact Gives.mki ⟨0, rfl, rfl, fun h => absurd h.2.2 (hno (nb_t hbr)), fun _ => rfl⟩)
end Go.Proofs.Ytfccfjgnoeocnaa.Fw
