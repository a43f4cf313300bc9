import Derived.Test.YtnkmhhjldfapdaaFields
import Derived.Test.YtnkmhhjldfapdaaSum
import Derived.Test.YtnkmhhjldfapdaaOuts
import Derived.Test.YtnkmhhjldfapdaaReader2
namespace Go.Proofs.Ytnkmhhjldfapdaa.Fw
open Go Go.Proofs
set_option linter.unusedVariables false
set_option linter.unusedSimpArgs false
set_option maxRecDepth 10000

theorem v_field : fieldV 305419896 8 12 = 1110 := by decide +kernel
theorem v_put : putV 4294967295 4 8 18 = 4294963503 := by decide +kernel
theorem v_signed : signedV 131072 18 = -131072 := by decide +kernel
theorem v_unsigned : unsignedV (-1) 18 = 262143 := by decide +kernel
theorem v_sum : sumV [49, 50, 51, 52, 53, 54, 55, 56, 57] = 3421780262 := by decide +kernel
theorem v_lay : ([] : List Int) ++ lowB 7 1 = [7] := by decide +kernel
def abS : ByteArray := ⟨#[97, 98]⟩
theorem v_text : [7] ++ (lowB (abS.size : Int) 4 ++ bytesI abS) = [7, 2, 0, 0, 0, 97, 98] := by decide +kernel
theorem v_rd8 : rdN [7, 2, 0, 0, 0, 97, 98] 0 0 1 = (7, 1, 0) := by decide +kernel
theorem v_rdT : rdT [7, 2, 0, 0, 0, 97, 98] 1 0 2 = ([97, 98], 7, 0) := by decide +kernel
theorem v_str : strOfNums [97, 98] = abS := by rfl
theorem v_end : endV 7 7 0 = 0 := by decide +kernel
theorem v_u8 : ∀ i, 0 ≤ [7, 2, 0, 0, 0, 97, 98].getD i (0 : Int) ∧ [7, 2, 0, 0, 0, 97, 98].getD i (0 : Int) ≤ 255 := U8s.of (by decide)
theorem v_u9 : U8s [49, 50, 51, 52, 53, 54, 55, 56, 57] := U8s.of (by decide)
theorem fixed_ok (w0 : World) (F : List Atom)  :
    CallK Try.prog 9 [] w0 (F) (Gives w0 fun v F2 => v = .bool true ∧ F2 = F) := by
  refine c_enter Try.func9 rfl rfl rfl ?_
  refine g_seq ?_
  refine g_region ?_
  refine l_assign rfl rfl ?_
  refine l_nil ?_
  refine g_seq ?_
  refine g_region ?_
  refine l_call rfl Try.call11 rfl (field_in _ _ 305419896 (by decide) (by decide) 8 (by decide) (by decide) 12 (by decide) (by decide) (by unfold There; omega)) ?_; rintro _ _ ⟨rfl, rfl⟩; rw [v_field]
  refine l_move rfl rfl ?_
  refine l_extract rfl rfl rfl ?_
  refine l_extract rfl rfl rfl ?_
  refine l_assign rfl rfl ?_
  refine l_assign rfl rfl ?_
  refine l_nil ?_
  refine g_seq ?_
  refine g_region ?_
  refine l_call rfl Try.call10 rfl (put_in _ _ 4294967295 (by decide) (by decide) 4 (by decide) (by decide) 8 (by decide) (by decide) 18 (by decide) (by decide) (by unfold There; omega) (by decide)) ?_; rintro _ _ ⟨rfl, rfl⟩; rw [v_put]
  refine l_move rfl rfl ?_
  refine l_extract rfl rfl rfl ?_
  refine l_extract rfl rfl rfl ?_
  refine l_assign rfl rfl ?_
  refine l_assign rfl rfl ?_
  refine l_nil ?_
  refine g_seq ?_
  refine g_region ?_
  refine l_call rfl Try.call13 rfl (signed_in _ _ 131072 (by decide) (by decide) 18 (by decide) (by decide) (by omega) (by decide)) ?_; rintro _ _ ⟨rfl, rfl⟩; rw [v_signed]
  refine l_move rfl rfl ?_
  refine l_extract rfl rfl rfl ?_
  refine l_extract rfl rfl rfl ?_
  refine l_assign rfl rfl ?_
  refine l_assign rfl rfl ?_
  refine l_nil ?_
  refine g_seq ?_
  refine g_region ?_
  refine l_call rfl Try.call12 rfl (unsigned_in _ _ (-1) (by decide) (by decide) 18 (by decide) (by decide) (by omega) (by decide) (by decide)) ?_; rintro _ _ ⟨rfl, rfl⟩; rw [v_unsigned]
  refine l_move rfl rfl ?_
  refine l_extract rfl rfl rfl ?_
  refine l_extract rfl rfl rfl ?_
  refine l_assign rfl rfl ?_
  refine l_assign rfl rfl ?_
  refine l_nil ?_
  refine g_seq ?_
  refine g_seq ?_
  refine g_region ?_
  refine l_move rfl rfl ?_
  refine l_neq rfl rfl rfl ?_
  refine l_move rfl rfl ?_
  refine l_split 32 rfl ?_ ?_
  · intro hbr
    have hbr := of_decide_eq_true hbr
    (exfalso; omega)
  intro hbr
  have hbr := of_decide_eq_false hbr
  refine l_guard_yes rfl rfl ?_
  refine l_move rfl rfl ?_
  refine l_guard_yes rfl rfl ?_
  refine l_neq rfl rfl rfl ?_
  refine l_pick_f rfl rfl rfl ?_
  refine l_move rfl rfl ?_
  refine l_split 36 rfl ?_ ?_
  · intro hbr
    have hbr := of_decide_eq_true hbr
    (exfalso; omega)
  intro hbr
  have hbr := of_decide_eq_false hbr
  refine l_guard_yes rfl rfl ?_
  refine l_move rfl rfl ?_
  refine l_guard_yes rfl rfl ?_
  refine l_neq rfl rfl rfl ?_
  refine l_pick_f rfl rfl rfl ?_
  refine l_move rfl rfl ?_
  refine l_split 40 rfl ?_ ?_
  · intro hbr
    have hbr := of_decide_eq_true hbr
    (exfalso; omega)
  intro hbr
  have hbr := of_decide_eq_false hbr
  refine l_guard_yes rfl rfl ?_
  refine l_move rfl rfl ?_
  refine l_guard_yes rfl rfl ?_
  refine l_neq rfl rfl rfl ?_
  refine l_pick_f rfl rfl rfl ?_
  refine l_move rfl rfl ?_
  refine l_split 44 rfl ?_ ?_
  · intro hbr
    have hbr := of_decide_eq_true hbr
    (exfalso; omega)
  intro hbr
  have hbr := of_decide_eq_false hbr
  refine l_guard_yes rfl rfl ?_
  refine l_move rfl rfl ?_
  refine l_guard_yes rfl rfl ?_
  refine l_neq rfl rfl rfl ?_
  refine l_pick_f rfl rfl rfl ?_
  refine l_move rfl rfl ?_
  refine l_split 48 rfl ?_ ?_
  · intro hbr
    have hbr := of_decide_eq_true hbr
    (exfalso; omega)
  intro hbr
  have hbr := of_decide_eq_false hbr
  refine l_guard_yes rfl rfl ?_
  refine l_move rfl rfl ?_
  refine l_guard_yes rfl rfl ?_
  refine l_neq rfl rfl rfl ?_
  refine l_pick_f rfl rfl rfl ?_
  refine l_move rfl rfl ?_
  refine l_split 52 rfl ?_ ?_
  · intro hbr
    have hbr := of_decide_eq_true hbr
    (exfalso; omega)
  intro hbr
  have hbr := of_decide_eq_false hbr
  refine l_guard_yes rfl rfl ?_
  refine l_move rfl rfl ?_
  refine l_guard_yes rfl rfl ?_
  refine l_neq rfl rfl rfl ?_
  refine l_pick_f rfl rfl rfl ?_
  refine l_move rfl rfl ?_
  refine l_split 56 rfl ?_ ?_
  · intro hbr
    have hbr := of_decide_eq_true hbr
    (exfalso; omega)
  intro hbr
  have hbr := of_decide_eq_false hbr
  refine l_guard_yes rfl rfl ?_
  refine l_move rfl rfl ?_
  refine l_guard_yes rfl rfl ?_
  refine l_neq rfl rfl rfl ?_
  refine l_pick_f rfl rfl rfl ?_
  refine l_nil ?_
  refine g_cond rfl ?_ ?_
  · intro hbr
    have hbr := of_decide_eq_true hbr
    (exfalso; omega)
  intro hbr
  have hbr := of_decide_eq_false hbr
  refine g_skip ?_
  refine g_seq ?_
  refine g_region ?_
  refine l_buildSlice rfl Try.underlying36 Try.sizeOf5 Try.zeroValue5 rfl rfl rfl rfl rfl rfl ?_; intro b60
  refine l_conv_mark (W := [49, 50, 51, 52, 53, 54, 55, 56, 57]) 0 rfl Try.underlying36 Try.underlying5 rfl rfl rfl ?_
  refine l_call rfl Try.call15 rfl (sum_ok _ _ _ 9 9 [49, 50, 51, 52, 53, 54, 55, 56, 57] ⟨rfl, .inr ⟨_, _, rfl, .blk (m := 9) (Has.mem (mem_getO 0 rfl)) rfl⟩⟩ v_u9 (by omega)) ?_; rintro _ _ ⟨rfl, rfl⟩; rw [v_sum]
  refine l_assign rfl rfl ?_
  refine l_nil ?_
  refine g_seq ?_
  refine g_region ?_
  refine l_call rfl Try.call25 rfl (neww_ok _ _) ?_; rintro _ _ ⟨bw, br, rfl, rfl⟩
  refine l_assign rfl rfl ?_
  refine l_nil ?_
  refine g_seq ?_
  refine g_seq ?_
  refine g_region ?_
  refine l_move rfl rfl ?_
  refine l_neq rfl rfl rfl ?_
  refine l_move rfl rfl ?_
  refine l_split 66 rfl ?_ ?_
  · intro hbr
    have hbr := of_decide_eq_true hbr
    (exfalso; omega)
  intro hbr
  have hbr := of_decide_eq_false hbr
  refine l_guard_yes rfl rfl ?_
  refine l_move rfl rfl ?_
  refine l_guard_yes rfl rfl ?_
  refine l_eqpn rfl Try.underlying61 rfl rfl ?_
  refine l_pick_f rfl rfl rfl ?_
  refine l_nil ?_
  first | refine g_cond_f rfl ?_ | refine g_cond_f (congrArg (fun b => some (Value.bool b)) (decide_eq_false hbr)) ?_
  refine g_skip ?_
  refine g_seq ?_
  refine g_region ?_
  refine l_move rfl rfl ?_
  refine l_call rfl Try.call40 rfl (u8_ok _ _ bw br none 0 0 [] rfl (.inl rfl) (by omega) _ (by omega) (by omega) _ v_lay) ?_; rintro _ _ ⟨a2, c2, ha2, rfl⟩
  refine l_nil ?_
  refine g_seq ?_
  refine g_region ?_
  refine l_move rfl rfl ?_
  refine l_call rfl Try.call41 rfl (wtext_ok _ _ bw br a2 1 c2 [7] rfl ha2 (by omega) abS (by decide) _ v_text) ?_; rintro _ _ ⟨a3, c3, ha3, rfl⟩
  refine l_nil ?_
  refine g_seq ?_
  refine g_region ?_
  refine l_move rfl rfl ?_
  refine l_call rfl Try.call28 rfl (out_ok _ _ bw br a3 7 c3 _ rfl ha3 (by omega)) ?_; rintro _ _ ⟨go, rfl, rfl⟩
  refine l_call rfl Try.call29 rfl (newr_ok _ _ _ 7 7 [7, 2, 0, 0, 0, 97, 98] rfl (by omega) (.own rfl (.inr ⟨_, _, rfl⟩) (mem_getO 0 rfl))) ?_; rintro _ _ ⟨bq, bs, g, rfl, rfl⟩
  refine l_assign rfl rfl ?_
  refine l_nil ?_
  refine g_seq ?_
  refine g_seq ?_
  refine g_region ?_
  refine l_move rfl rfl ?_
  refine l_eqpn rfl Try.underlying69 rfl rfl ?_
  refine l_nil ?_
  first | refine g_cond_f rfl ?_ | refine g_cond_f (congrArg (fun b => some (Value.bool b)) (decide_eq_false hbr)) ?_
  refine g_skip ?_
  refine g_seq ?_
  refine g_region ?_
  refine l_move rfl rfl ?_
  refine l_call rfl Try.call42 rfl (r8_ok _ _ bq bs g 7 _ rfl v_u8 (by omega) 0 0 (by omega) (by omega) (by omega) (by omega)) ?_; rintro _ _ ⟨_, _, _, hR, rfl, rfl⟩
  rw [v_rd8] at hR
  injection hR with hR1 hR2
  injection hR2 with hR2 hR3
  subst hR1 hR2 hR3
  refine l_assign rfl rfl ?_
  refine l_nil ?_
  refine g_seq ?_
  refine g_region ?_
  refine l_move rfl rfl ?_
  refine l_call rfl Try.call35 rfl (rtext_ok _ _ bq bs g 7 _ rfl v_u8 (by omega) 1 0 (by omega) (by omega) (by omega) (by omega) _ (by omega) (by omega)) ?_; rintro _ _ ⟨_, _, _, hR, rfl, rfl⟩
  rw [v_rdT] at hR
  injection hR with hR1 hR2
  injection hR2 with hR2 hR3
  subst hR1 hR2 hR3
  rw [v_str]
  refine l_assign rfl rfl ?_
  refine l_nil ?_
  refine g_seq ?_
  refine g_region ?_
  refine l_move rfl rfl ?_
  refine l_eql rfl rfl rfl ?_
  refine l_move rfl rfl ?_
  refine l_split 85 rfl ?_ ?_
  · intro hbr
    have hbr := of_decide_eq_true hbr
    refine l_guard_yes rfl rfl ?_
    refine l_move rfl rfl ?_
    refine l_guard_yes rfl rfl ?_
    refine l_eqls rfl rfl rfl ?_
    rw [show (abS.toList == (⟨#[97, 98]⟩ : ByteArray).toList) = true from beq_self_eq_true _]
    refine l_pick_t rfl rfl rfl ?_
    refine l_move rfl rfl ?_
    refine l_guard_yes rfl rfl ?_
    refine l_move rfl rfl ?_
    refine l_guard_yes rfl rfl ?_
    refine l_call rfl Try.call32 rfl (rend_ok _ _ bq bs g 7 _ rfl v_u8 (by omega) 7 0 (by omega) (by omega) (by omega) (by omega)) ?_; rintro _ _ ⟨rfl, rfl⟩; rw [v_end]
    refine l_guard_yes rfl rfl ?_
    refine l_eql rfl rfl rfl ?_
    refine l_pick_t rfl rfl rfl ?_
    refine l_assign rfl rfl ?_
    refine l_nil ?_
    refine g_ret Try.func9 rfl (.tmp rfl .nil) ?_
    exact Gives.mki ⟨rfl, rfl⟩
  · intro hbr
    have hbr := of_decide_eq_false hbr
    (exfalso; omega)
end Go.Proofs.Ytnkmhhjldfapdaa.Fw
