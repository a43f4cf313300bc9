import Derived.Test.YthngpcaljljlaaaPuts
namespace Go.Proofs.Ythngpcaljljlaaa.Fw
open Go Go.Proofs
set_option linter.unusedVariables false
set_option linter.unusedSimpArgs false
set_option maxRecDepth 10000

theorem rep_u32 (n : Nat) : W32s (List.replicate n 0) := W32s.of fun x hx => by rw [List.eq_of_mem_replicate hx]; decide
theorem nm_1 {W2 : List Int} {e : Int} (h : PutG (List.replicate 16 0) 16 0 2 [] W2 e) : W2 = List.replicate 16 0 ∧ e = 190 := by
  unfold PutG WdOk inR at h
  simp only [List.length_nil] at h
  rcases h with h | h | h | h | h
  · omega
  · omega
  · exact ⟨h.2.2.2.2, h.2.2.2.1⟩
  · omega
  · omega
theorem nm_2 {W2 : List Int} {e : Int} (h : PutG ((List.replicate 16 0).set 0 9) 16 0 2 [1] W2 e) : e = 191 := by
  unfold PutG WdOk inR at h
  simp only [List.length_cons, List.length_nil] at h
  have hn : heldV (part ((List.replicate 16 0).set 0 9) 0 (2 + 2)) 2 = none := heldV_no (fun h => by have := h 0 (by decide); revert this; decide) (fun h => by have := h.1; revert this; decide)
  rcases h with h | h | h | h | h
  · omega
  · omega
  · omega
  · exact h.2.2.2.2.1
  · rw [hn] at h; obtain ⟨T, hT⟩ := h.2.2.2.1; cases hT
theorem nm_u : W32s ((List.replicate 16 0).set 0 9) := W32s.of (by decide)
theorem names_ok (w0 : World) (F : List Atom)  :
    CallK Try.prog 3 [] w0 (F) (Gives w0 fun v F2 => v = .bool true ∧ F2 = F) := by
  refine c_enter Try.func3 rfl rfl rfl ?_
  refine g_seq ?_
  refine g_region ?_
  refine l_assign rfl rfl ?_
  refine l_nil ?_
  refine g_seq ?_
  refine g_region ?_
  refine l_call rfl Try.call8 rfl (new_ok _ _ 1 (by omega) (by omega)) ?_; rintro _ _ ⟨b, g, c, rfl, hc, rfl⟩
  rw [show ((1 : Int) * 16).toNat = 16 from rfl] at *
  refine l_move rfl rfl ?_
  refine l_extract rfl rfl rfl ?_
  refine l_extract rfl rfl rfl ?_
  refine l_assign rfl rfl ?_
  refine l_assign rfl rfl ?_
  refine l_nil ?_
  refine g_seq ?_
  refine g_seq ?_
  refine g_region ?_
  refine l_move rfl rfl ?_
  refine l_neq rfl rfl rfl ?_
  refine l_nil ?_
  refine g_cond rfl ?_ ?_
  · intro hbr
    have hbr := of_decide_eq_true hbr
    (exfalso; omega)
  intro hbr
  have hbr := of_decide_eq_false hbr
  refine g_skip ?_
  refine g_seq ?_
  refine g_region ?_
  refine l_move rfl rfl ?_
  refine l_call rfl Try.call9 rfl (put_ok _ _ b g 16 c (List.replicate 16 0) rfl hc (by omega) (rep_u32 16) (by omega) 0 (by omega) (by omega) 2 (by omega) (by omega) none 0 0 [] ⟨rfl, .inl rfl⟩ (by omega)) ?_; rintro _ _ ⟨W2, e, rfl, hW2, rfl, hP⟩
  obtain ⟨rfl, rfl⟩ := nm_1 hP
  refine l_assign rfl rfl ?_
  refine l_nil ?_
  refine g_seq ?_
  refine g_region ?_
  refine l_move rfl rfl ?_
  refine l_call rfl Try.call10 rfl (write_ok _ _ b g 16 c (List.replicate 16 0) rfl hc (by omega) 0 9 (by omega) (by unfold inR; omega)) ?_; rintro _ _ ⟨rfl, rfl⟩
  rw [show (0 : Int).toNat = 0 from rfl]
  refine l_nil ?_
  refine g_seq ?_
  refine g_region ?_
  refine l_move rfl rfl ?_
  refine l_buildSlice rfl Try.underlying29 Try.sizeOf28 Try.zeroValue28 rfl rfl rfl rfl rfl rfl ?_; intro b16
  refine l_fronto g ?_
  refine l_frontb b ?_
  refine l_call rfl Try.call9 rfl (put_ok _ _ b g 16 c ((List.replicate 16 0).set 0 9) rfl hc (by omega) nm_u (by omega) 0 (by omega) (by omega) 2 (by omega) (by omega) (some ⟨b16, 0, none⟩) 1 1 [1] (IR.own rfl (mem_getO 0 rfl) (.inr ⟨_, rfl⟩)) (by omega)) ?_; rintro _ _ ⟨W3, e, rfl, hW3, rfl, hP2⟩
  obtain rfl := nm_2 hP2
  refine l_assign rfl rfl ?_
  refine l_nil ?_
  refine g_seq ?_
  refine g_region ?_
  refine l_move rfl rfl ?_
  refine l_eql rfl rfl rfl ?_
  rw [show decide ((190 : Int) = 190) = true from rfl]
  refine l_move rfl rfl ?_
  refine l_guard_yes rfl rfl ?_
  refine l_move rfl rfl ?_
  refine l_guard_yes rfl rfl ?_
  refine l_eql rfl rfl rfl ?_
  rw [show decide ((191 : Int) = 191) = true from rfl]
  refine l_pick_t rfl rfl rfl ?_
  refine l_move rfl rfl ?_
  refine l_pick_t rfl rfl rfl ?_
  refine l_move rfl rfl ?_
  refine l_pick_t rfl rfl rfl ?_
  refine l_move rfl rfl ?_
  refine l_pick_t rfl rfl rfl ?_
  refine l_move rfl rfl ?_
  refine l_pick_t rfl rfl rfl ?_
  refine l_assign rfl rfl ?_
  refine l_nil ?_
  refine g_ret Try.func3 rfl (.tmp rfl .nil) ?_
  (first | exact Gives.mki ⟨rfl, rfl⟩ | exact Gives.mki ⟨(show Value.bool _ = _ from congrArg Value.bool (decide_eq_true (by omega))), rfl⟩)
end Go.Proofs.Ythngpcaljljlaaa.Fw
