import Derived.Test.YtecibldbnekgbaaQLaw
import Derived.Test.YtecibldbnekgbaaKeepW
namespace Go.Proofs.Ytecibldbnekgbaa.Fw
open Go Go.Proofs
set_option linter.unusedVariables false
set_option linter.unusedSimpArgs false
set_option maxRecDepth 10000

theorem seven_u : W32s [7] := fun i => by
  match i with
  | 0 => exact ⟨by decide, by decide⟩
  | i + 1 => exact ⟨by rw [getD_over (by simp)]; decide, by rw [getD_over (by simp)]; decide⟩
set_option maxHeartbeats 4000000 in
theorem awake_ok (w0 : World) (F : List Atom)  :
    CallK Try.prog 22 [] w0 (F) (Gives w0 fun v F2 => v = .bool true ∧ F2 = F) := by
  refine c_enter Try.func22 rfl rfl rfl ?_
  refine g_seq ?_
  refine g_region ?_
  refine l_assign rfl rfl ?_
  refine l_nil ?_
  refine g_seq ?_
  refine g_region ?_
  refine l_call rfl Try.call13 rfl (new_ok _ _ 1 (by omega) (by omega)) ?_; rintro _ _ ⟨b, g, c, rfl, hc, hF9⟩; rw [hF9]; clear hF9
  rw [show ((1 : Int) * 16).toNat = 16 from rfl] at *
  have H0 : QSt 16 1 1 0 5 (List.replicate 16 0) [] [] 0 := QSt.zero (by decide) (by decide) (by decide)
  refine l_move rfl rfl ?_
  refine l_extract rfl rfl rfl ?_
  refine l_extract rfl rfl rfl ?_
  refine l_assign rfl rfl ?_
  refine l_assign rfl rfl ?_
  refine l_nil ?_
  refine g_seq ?_
  refine g_seq ?_
  refine g_region ?_
  refine l_move rfl rfl ?_
  refine l_neq rfl rfl rfl ?_
  refine l_move rfl rfl ?_
  refine l_split 17 rfl ?_ ?_
  · intro hbr
    have hbr := of_decide_eq_true hbr
    (exfalso; omega)
  intro hbr
  have hbr := of_decide_eq_false hbr
  refine l_guard_yes rfl rfl ?_
  refine l_move rfl rfl ?_
  refine l_guard_yes rfl rfl ?_
  refine l_eqpn rfl Try.underlying22 rfl rfl ?_
  refine l_pick_f rfl rfl rfl ?_
  refine l_nil ?_
  refine g_cond rfl ?_ ?_
  · intro hbr
    first | (exfalso; simp at hbr; done) | (exfalso; simp at hbr; omega)
  intro hbr
  have hb20 := hbr
  refine g_skip ?_
  refine g_seq ?_
  refine g_region ?_
  refine l_move rfl rfl ?_
  refine l_buildSlice rfl Try.underlying29 Try.sizeOf33 Try.zeroValue33 rfl rfl rfl rfl rfl rfl ?_; intro b23
  refine l_fronto g ?_
  refine l_frontb b ?_
  refine l_call rfl Try.call7 rfl (put_in _ _ 1 1 (by omega) (by omega) (by omega) (by omega) b g 16 c _ H0.len hc (by omega) H0.u 0 (by decide) (some ⟨b23, 0, none⟩) 1 1 [7] (IR.own rfl (mem_getO 0 rfl) (.inr ⟨_, rfl⟩)) (by omega) (by omega)) ?_; rintro _ _ ⟨ok, e, W1, rfl, hl1, rfl, hQ⟩
  obtain ⟨rfl, hh⟩ := H0.put (by omega) (by omega) (by omega) (by decide) (by decide) ⟨by decide, seven_u⟩ hQ
  obtain ⟨rfl, _, H1⟩ := hh.resolve_right (fun h => by have := h.2.1; simp at this)
  simp only [List.nil_append] at H1
  refine l_move rfl rfl ?_
  refine l_extract rfl rfl rfl ?_
  refine l_extract rfl rfl rfl ?_
  refine l_assign rfl rfl ?_
  refine l_assign rfl rfl ?_
  refine l_nil ?_
  refine g_seq ?_
  refine g_region ?_
  refine l_move rfl rfl ?_
  refine l_buildSlice rfl Try.underlying52 Try.sizeOf3 Try.zeroValue3 rfl rfl rfl rfl rfl rfl ?_; intro b28
  refine l_fronto g ?_
  refine l_frontb b ?_
  refine l_call rfl Try.call9 rfl (deliver1 _ _ 1 1 (by omega) (by omega) (by omega) (by omega) b g 16 c _ H1.len hc (by omega) H1.u 0 5 (by decide) (by decide) b28 1 (.own (mem_getO 0 rfl)) [[7]] [] H1.stg H1.prt) ?_; rintro _ _ ⟨R, ls, rfl, hdl, rfl⟩
  have H2 := H1.del (by omega) (by omega) (by omega) (by decide) (by decide) hdl
  obtain ⟨rfl, rfl⟩ : R = [[7]] ∧ ls = 0 := by
    have h9 : delN 1 [] (W1.getD ((5 : Int).toNat + 2) 0) [[7]] 1 = (R, ls) := hdl
    rw [H1.lost] at h9
    have h8 : delN 1 [] 0 [[7]] 1 = ([[7]], 0) := rfl
    rw [h8] at h9
    exact ⟨(congrArg Prod.fst h9).symm, (congrArg Prod.snd h9).symm⟩
  refine l_assign rfl rfl ?_
  refine l_nil ?_
  refine g_seq ?_
  refine g_region ?_
  refine l_move rfl rfl ?_
  refine l_fronto g ?_
  refine l_frontb b ?_
  refine l_call rfl Try.call10 rfl (look_in _ _ 1 1 (by omega) (by omega) (by omega) (by omega) b g 16 c _ H2.len hc (by omega) H2.u 5 (by decide)) ?_; rintro _ _ ⟨al, ql, cl, T, th, e2, rfl, rfl, hTl, hal, hQ2⟩
  obtain ⟨rfl, hh2⟩ := H2.look hQ2
  obtain ⟨rfl, _, rfl⟩ := hh2.resolve_right (fun h => by cases h.2.1)
  obtain rfl : 1 = ql := hTl
  refine l_move rfl rfl ?_
  refine l_extract rfl rfl rfl ?_
  refine l_extract rfl rfl rfl ?_
  refine l_extract rfl rfl rfl ?_
  refine l_assign rfl rfl ?_
  refine l_assign rfl rfl ?_
  refine l_assign rfl rfl ?_
  refine l_nil ?_
  refine g_seq ?_
  refine g_region ?_
  refine l_move rfl rfl ?_
  refine l_fronto g ?_
  refine l_frontb b ?_
  refine l_call rfl Try.call11 rfl (takeq_in _ _ 1 1 (by omega) (by omega) (by omega) (by omega) b g 16 c _ H2.len hc (by omega) H2.u 5 (by decide)) ?_; rintro _ _ ⟨ok3, e3, W3, rfl, hl3, rfl, hQ3⟩
  obtain ⟨rfl, hh3⟩ := H2.take (by omega) (by omega) (by omega) (by decide) (by decide) hQ3
  obtain ⟨rfl, _, H3⟩ := hh3.resolve_right (fun h => by cases h.2.1)
  obtain ⟨gl, rfl⟩ := hal.resolve_left (by omega)
  refine l_move rfl rfl ?_
  refine l_extract rfl rfl rfl ?_
  refine l_extract rfl rfl rfl ?_
  refine l_assign rfl rfl ?_
  refine l_assign rfl rfl ?_
  refine l_nil ?_
  refine g_seq ?_
  refine g_region ?_
  refine l_move rfl rfl ?_
  refine l_move rfl rfl ?_
  refine l_split 42 rfl ?_ ?_
  · intro hbr
    have hb42 := hbr
    refine l_guard_yes rfl rfl ?_
    refine l_move rfl rfl ?_
    refine l_guard_yes rfl rfl ?_
    refine l_eql rfl rfl rfl ?_
    refine l_pick_t rfl rfl rfl ?_
    refine l_move rfl rfl ?_
    refine l_split 46 rfl ?_ ?_
    · intro hbr
      have hbr := of_decide_eq_true hbr
      refine l_guard_yes rfl rfl ?_
      refine l_move rfl rfl ?_
      refine l_guard_yes rfl rfl ?_
      refine l_eql rfl rfl rfl ?_
      refine l_pick_t rfl rfl rfl ?_
      refine l_move rfl rfl ?_
      refine l_split 50 rfl ?_ ?_
      · intro hbr
        have hbr := of_decide_eq_true hbr
        refine l_guard_yes rfl rfl ?_
        refine l_move rfl rfl ?_
        refine l_pick_t rfl rfl rfl ?_
        refine l_move rfl rfl ?_
        refine l_split 53 rfl ?_ ?_
        · intro hbr
          have hb53 := hbr
          refine l_guard_yes rfl rfl ?_
          refine l_move rfl rfl ?_
          refine l_guard_yes rfl rfl ?_
          refine l_eql rfl rfl rfl ?_
          refine l_pick_t rfl rfl rfl ?_
          refine l_move rfl rfl ?_
          refine l_split 57 rfl ?_ ?_
          · intro hbr
            have hbr := of_decide_eq_true hbr
            refine l_guard_yes rfl rfl ?_
            refine l_move rfl rfl ?_
            refine l_guard_yes rfl rfl ?_
            refine l_len rfl Try.underlying29 rfl ?_
            refine l_guard_yes rfl rfl ?_
            refine l_eql rfl rfl rfl ?_
            refine l_pick_t rfl rfl rfl ?_
            refine l_move rfl rfl ?_
            refine l_split 62 rfl ?_ ?_
            · intro hbr
              have hbr := of_decide_eq_true hbr
              refine l_guard_yes rfl rfl ?_
              refine l_move rfl rfl ?_
              refine l_guard_yes rfl rfl ?_
              refine l_ixs rfl Try.underlying29 Try.sizeOf33 rfl rfl (by omega) (by omega) ?_
              refine l_guard_yes rfl rfl ?_
              refine l_ldw rfl Try.isAgg33 rfl (by decide) ?_
              rw [show (tat [[7]] 0).getD (0 : Int).toNat 0 = 7 from rfl]
              refine l_guard_yes rfl rfl ?_
              refine l_eql rfl rfl rfl ?_
              refine l_pick_t rfl rfl rfl ?_
              refine l_move rfl rfl ?_
              refine l_split 68 rfl ?_ ?_
              · intro hbr
                have hbr := of_decide_eq_true hbr
                refine l_guard_yes rfl rfl ?_
                refine l_move rfl rfl ?_
                refine l_pick_t rfl rfl rfl ?_
                refine l_move rfl rfl ?_
                refine l_split 71 rfl ?_ ?_
                · intro hbr
                  have hb71 := hbr
                  refine l_guard_yes rfl rfl ?_
                  refine l_move rfl rfl ?_
                  refine l_guard_yes rfl rfl ?_
                  refine l_eql rfl rfl rfl ?_
                  refine l_pick_t rfl rfl rfl ?_
                  refine l_assign rfl rfl ?_
                  refine l_nil ?_
                  refine g_ret Try.func22 rfl (.tmp rfl .nil) ?_
                  exact Gives.mki ⟨by simp [resVal], rfl⟩
                · intro hbr
                  first | (exfalso; simp at hbr; done) | (exfalso; simp at hbr; omega)
              · intro hbr
                have hbr := of_decide_eq_false hbr
                (exfalso; omega)
            · intro hbr
              have hbr := of_decide_eq_false hbr
              (exfalso; omega)
          · intro hbr
            have hbr := of_decide_eq_false hbr
            (exfalso; omega)
        · intro hbr
          first | (exfalso; simp at hbr; done) | (exfalso; simp at hbr; omega)
      · intro hbr
        have hbr := of_decide_eq_false hbr
        (exfalso; omega)
    · intro hbr
      have hbr := of_decide_eq_false hbr
      (exfalso; omega)
  · intro hbr
    first | (exfalso; simp at hbr; done) | (exfalso; simp at hbr; omega)
end Go.Proofs.Ytecibldbnekgbaa.Fw
