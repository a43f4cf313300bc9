import Derived.Test.YthngpcaljljlaaaRefF
namespace Go.Proofs.Ythngpcaljljlaaa.Fw
open Go Go.Proofs
set_option linter.unusedVariables false
set_option linter.unusedSimpArgs false
set_option maxRecDepth 10000

def begV (B : List Int) : List Int := spl 0 (B.take 80) (List.replicate 80 0)
theorem begV_len (B : List Int) : (begV B).length = 80 := by unfold begV; rw [spl_length (by rw [List.length_take]; simp; omega)]; simp
set_option maxHeartbeats 4000000 in
theorem begun_ok (w0 : World) (F : List Atom) (a : Option Addr) (n c : Nat) (B : List Int) (hI : IR w0 F .u32 a n B) (hU : W32s B) (hn : n ≤ 9223372036854775807) :
    CallK Try.prog 23 [.slice a n c] w0 (F) (Gives w0 fun v F2 => ∃ g, v = .slice (some ⟨g, 0, none⟩) 80 80 ∧ F2 = Own 28 1 (.slice (some ⟨g, 0, none⟩) 80 80) 80 (ints .u32 (begV B)) :: F) := by
  have hl := hI.1
  refine c_enter Try.func23 rfl rfl rfl ?_
  refine g_seq ?_
  refine g_region ?_
  refine l_assign rfl rfl ?_
  refine l_nil ?_
  refine g_seq ?_
  refine g_region ?_
  refine l_makew rfl Try.underlying29 Try.type28 rfl rfl rfl rfl (by omega) (by show (4 : Int) * _ ≤ _; omega) (by omega) ?_; intro b5; rw [show (80 : Int).toNat = 80 from rfl]
  refine l_assign rfl rfl ?_
  refine l_nil ?_
  refine g_seq ?_
  refine g_seq ?_
  refine g_region ?_
  refine l_move rfl rfl ?_
  refine l_len rfl Try.underlying29 rfl ?_
  refine l_move rfl rfl ?_
  refine l_nil ?_
  refine g_block ?_
  refine g_loopk (X := Int × List Int) [(0, _), (2, _), (3, _), (7, _)] (.cons rfl (.cons rfl (.cons rfl (.cons rfl (.nil))))) (fun z => 0 ≤ z.1 ∧ z.1 ≤ n ∧ z.2 = spl 0 (B.take (min z.1.toNat 80)) (List.replicate 80 0)) (fun z => ((n : Int) - z.1).toNat) (fun z => [(8, .int .i64 z.1)]) (fun z => Own 28 1 (.slice (some ⟨b5, 0, none⟩) 80 80) 80 (ints .u32 z.2) :: F) ((0, List.replicate 80 0)) (⟨by simp only; omega, by simp only; omega, by simp [spl]⟩) (.cons rfl .nil) ((fun w hw => hw)) ?_
  rintro ⟨i, X⟩ ⟨i0, i1, hX⟩ ih
  dsimp only [List.cons_append, List.nil_append] at ih ⊢
  simp only at i0 i1 hX
  have hXl : X.length = 80 := by rw [hX, spl_length (by rw [List.length_take]; simp; omega)]; simp
  refine g_seq ?_
  refine g_region ?_
  refine l_lss rfl rfl rfl ?_
  refine l_nil ?_
  refine g_seq ?_
  refine g_cond rfl ?_ ?_
  · intro hbr
    have hbr := of_decide_eq_true hbr
    refine g_skip ?_
    refine g_seq ?_
    refine g_block ?_
    refine g_seq ?_
    refine g_region ?_
    refine l_move rfl rfl ?_
    refine l_assign rfl rfl ?_
    refine l_nil ?_
    refine g_seq ?_
    refine g_region ?_
    refine l_move rfl rfl ?_
    refine l_lss rfl rfl rfl ?_
    refine l_nil ?_
    refine g_cond rfl ?_ ?_
    · intro hbr
      have hbr := of_decide_eq_true hbr
      refine g_region ?_
      refine l_move rfl rfl ?_
      refine l_move rfl rfl ?_
      refine l_move rfl rfl ?_
      refine l_move rfl rfl ?_
      obtain ⟨b9, o9, rfl, hr9⟩ := hI.some (i := i.toNat) (by omega)
      have hbi := hU i.toNat
      refine l_ixs rfl Try.underlying29 Try.sizeOf28 rfl rfl (by omega) (by omega) ?_
      refine l_loadc rfl Try.isAgg28 rfl (word_any hr9 (by omega)) ?_
      refine l_ixs rfl Try.underlying29 Try.sizeOf28 rfl rfl (by omega) (by omega) ?_
      refine l_storew 0 Try.sizeOf28 rfl rfl rfl (by omega) rfl ?_
      refine l_nil ?_
      refine g_inBlock ?_
      refine g_region ?_
      first | refine l_add rfl rfl rfl (w_i64 (by omega) (by omega)) ?_ | refine l_addw rfl rfl rfl ?_
      refine l_move rfl rfl ?_
      refine l_nil ?_
      (first
        | exact g_againi (ih (i + 1, X.set i.toNat (B.getD i.toNat 0)) ⟨by simp only; omega, by simp only; omega, by simp only; rw [hX, show min (i + 1).toNat 80 = i.toNat + 1 by omega, show min i.toNat 80 = i.toNat by omega]; have := spl_next (o := 0) (i := i.toNat) (Y := B.take 80) (W := List.replicate 80 0) (by rw [List.length_take]; omega) (by rw [List.length_take]; simp; omega); rw [List.take_take, List.take_take, Nat.min_eq_left (by omega), Nat.min_eq_left (by omega), Nat.zero_add] at this; rw [← this]; congr 1; simp [List.getD_eq_getElem?_getD, List.getElem?_take, show i.toNat < 80 by omega]⟩ (by simp only; omega)) (.cons rfl (.cons rfl (.cons rfl (.cons rfl (.cons rfl (.nil))))))
        | exact g_againi (ih (i + 1, X) ⟨by simp only; omega, by simp only; omega, by simp only; rw [hX, show min (i + 1).toNat 80 = 80 by omega, show min i.toNat 80 = 80 by omega]⟩ (by simp only; omega)) (.cons rfl (.cons rfl (.cons rfl (.cons rfl (.cons rfl (.nil)))))))
    intro hbr
    have hbr := of_decide_eq_false hbr
    refine g_skip ?_
    refine g_inBlock ?_
    refine g_region ?_
    first | refine l_add rfl rfl rfl (w_i64 (by omega) (by omega)) ?_ | refine l_addw rfl rfl rfl ?_
    refine l_move rfl rfl ?_
    refine l_nil ?_
    (first
      | exact g_againi (ih (i + 1, X.set i.toNat (B.getD i.toNat 0)) ⟨by simp only; omega, by simp only; omega, by simp only; rw [hX, show min (i + 1).toNat 80 = i.toNat + 1 by omega, show min i.toNat 80 = i.toNat by omega]; have := spl_next (o := 0) (i := i.toNat) (Y := B.take 80) (W := List.replicate 80 0) (by rw [List.length_take]; omega) (by rw [List.length_take]; simp; omega); rw [List.take_take, List.take_take, Nat.min_eq_left (by omega), Nat.min_eq_left (by omega), Nat.zero_add] at this; rw [← this]; congr 1; simp [List.getD_eq_getElem?_getD, List.getElem?_take, show i.toNat < 80 by omega]⟩ (by simp only; omega)) (.cons rfl (.cons rfl (.cons rfl (.cons rfl (.cons rfl (.nil))))))
      | exact g_againi (ih (i + 1, X) ⟨by simp only; omega, by simp only; omega, by simp only; rw [hX, show min (i + 1).toNat 80 = 80 by omega, show min i.toNat 80 = 80 by omega]⟩ (by simp only; omega)) (.cons rfl (.cons rfl (.cons rfl (.cons rfl (.cons rfl (.nil)))))))
  intro hbr
  have hbr := of_decide_eq_false hbr
  refine g_exit rfl ?_
  obtain rfl : i = n := by omega
  refine g_seq ?_
  refine g_region ?_
  refine l_move rfl rfl ?_
  refine l_assign rfl rfl ?_
  refine l_nil ?_
  refine g_ret Try.func23 rfl (.tmp rfl .nil) ?_
  exact Gives.mki ⟨b5, rfl, by rw [show begV B = X by unfold begV; rw [hX, Int.toNat_natCast]; congr 1; rcases Nat.le_total n 80 with h | h; (rw [Nat.min_eq_left h, List.take_of_length_le (by omega), List.take_of_length_le (by omega)]); (rw [Nat.min_eq_right h])]⟩
theorem among_ok (w0 : World) (F : List Atom) (x p k : Int) (x0 : 0 ≤ x) (x1 : x ≤ 9223372036854775807) (p0 : -9223372036854775808 ≤ p) (p1 : p ≤ 9223372036854775807) (hx : x ≤ 1073741824) :
    CallK Try.prog 27 [.int .i64 x, .int .i64 p, .int .i64 k] w0 (F) (Gives w0 fun v F2 => ∃ t, v = .bool t ∧ F2 = F) := by
  refine c_enter Try.func27 rfl rfl rfl ?_
  refine g_seq ?_
  refine g_region ?_
  refine l_assign rfl rfl ?_
  refine l_nil ?_
  refine g_seq ?_
  refine g_region ?_
  refine l_move rfl rfl ?_
  refine l_move rfl rfl ?_
  refine l_geq rfl rfl rfl ?_
  refine l_move rfl rfl ?_
  refine l_split 10 rfl ?_ ?_
  · intro hbr
    have hbr := of_decide_eq_true hbr
    refine l_guard_yes rfl rfl ?_
    refine l_move rfl rfl ?_
    refine l_guard_yes rfl rfl ?_
    refine l_move rfl rfl ?_
    refine l_guard_yes rfl rfl ?_
    first | refine l_sub_ rfl rfl rfl (w_i64 (by omega) (by omega)) ?_ | refine l_subw rfl rfl rfl ?_
    refine l_guard_yes rfl rfl ?_
    refine l_move rfl rfl ?_
    refine l_guard_yes rfl rfl ?_
    refine l_lss rfl rfl rfl ?_
    refine l_pick_t rfl rfl rfl ?_
    refine l_assign rfl rfl ?_
    refine l_nil ?_
    refine g_ret Try.func27 rfl (.tmp rfl .nil) ?_
    exact Gives.mki ⟨_, rfl, rfl⟩
  intro hbr
  have hbr := of_decide_eq_false hbr
  refine l_guard_no rfl rfl rfl ?_
  refine l_guard_no rfl rfl rfl ?_
  refine l_guard_no rfl rfl rfl ?_
  refine l_guard_no rfl rfl rfl ?_
  refine l_guard_no rfl rfl rfl ?_
  refine l_pick_f rfl rfl rfl ?_
  refine l_assign rfl rfl ?_
  refine l_nil ?_
  refine g_ret Try.func27 rfl (.tmp rfl .nil) ?_
  exact Gives.mki ⟨_, rfl, rfl⟩
end Go.Proofs.Ythngpcaljljlaaa.Fw
