import Derived.Test.YtlgcghhjgcdigaaLKept
namespace Go.Proofs.Ytlgcghhjgcdigaa.Fw
open Go Go.Proofs
set_option linter.unusedVariables false
set_option linter.unusedSimpArgs false
set_option maxRecDepth 10000

set_option maxHeartbeats 8000000 in
theorem kept_none (w0 : World) (F : List Atom) (fr : Int) (f0 : -9223372036854775808 ≤ fr) (f1 : fr ≤ 9223372036854775807) (sa : Option Addr) (ns cs : Nat) (hns : ns = 0) :
    CallK Try.prog 6 [.int .i64 fr, .slice sa ns cs] w0 (F) (Gives w0 fun v F2 => v = .bool true ∧ F2 = F) := by
  have hp8 := pk_lt fr (show (0:Int) < 8 by omega)
  refine c_enter Try.func6 rfl rfl rfl ?_
  refine g_seq ?_
  refine g_region ?_
  refine l_assign rfl rfl ?_
  refine l_nil ?_
  refine g_seq ?_
  refine g_region ?_
  refine l_move rfl rfl ?_
  refine l_call rfl Try.call8 rfl (pick_ok _ _ _ _ (by omega) (by omega) (by omega) (by omega)) ?_; rintro _ F9 ⟨rfl, hF9⟩; rw [hF9]; clear hF9 F9
  first | refine l_add rfl rfl rfl (w_i64 (by omega) (by omega)) ?_ | refine l_addw rfl rfl rfl ?_
  refine l_call rfl Try.call9 rfl (new_ok _ _ _ (by omega) (by omega)) ?_; rintro _ _ ⟨b, g, c, rfl, hc, rfl⟩
  generalize hN : ((1 + pk fr 8) * 16).toNat = n at hc ⊢
  have hn : n ≤ 1073741824 := by omega
  obtain ⟨W, hW, hW0⟩ : ∃ W : List Int, W.length = n ∧ List.replicate n 0 = W := ⟨_, List.length_replicate, rfl⟩
  rw [hW0]
  clear hW0
  refine l_move rfl rfl ?_
  refine l_extract rfl rfl rfl ?_
  refine l_extract rfl rfl rfl ?_
  refine l_assign rfl rfl ?_
  refine l_assign rfl rfl ?_
  refine l_nil ?_
  refine g_seq ?_
  refine g_seq ?_
  refine g_region ?_
  refine l_move rfl rfl ?_
  refine l_neq rfl rfl rfl ?_
  refine l_move rfl rfl ?_
  refine l_split 28 rfl ?_ ?_
  · intro hbr
    have hbr := of_decide_eq_true hbr
    (exfalso; omega)
  intro hbr
  have hbr := of_decide_eq_false hbr
  refine l_guard_yes rfl rfl ?_
  refine l_move rfl rfl ?_
  refine l_guard_yes rfl rfl ?_
  refine l_eqpn rfl Try.underlying25 rfl rfl ?_
  refine l_pick_f rfl rfl rfl ?_
  refine l_move rfl rfl ?_
  refine l_guard_yes rfl rfl ?_
  refine l_move rfl rfl ?_
  refine l_guard_yes rfl rfl ?_
  refine l_fronto g ?_
  refine l_frontb b ?_
  refine l_call rfl Try.call17 rfl (frames_ok _ _ b g n c W hW hc hn) ?_; rintro _ _ ⟨rfl, rfl⟩
  refine l_guard_yes rfl rfl ?_
  refine l_move rfl rfl ?_
  refine l_guard_yes rfl rfl ?_
  refine l_call rfl Try.call8 rfl (pick_ok _ _ _ _ (by omega) (by omega) (by omega) (by omega)) ?_; rintro _ F9 ⟨rfl, hF9⟩; rw [hF9]; clear hF9 F9
  refine l_guard_yes rfl rfl ?_
  first | refine l_add rfl rfl rfl (w_i64 (by omega) (by omega)) ?_ | refine l_addw rfl rfl rfl ?_
  refine l_guard_yes rfl rfl ?_
  refine l_neq rfl rfl rfl ?_
  refine l_pick_f rfl rfl rfl ?_
  refine l_nil ?_
  refine g_cond rfl ?_ ?_
  · intro hbr
    have hbr := of_decide_eq_true hbr
    (exfalso; omega)
  intro hbr
  have hbr := of_decide_eq_false hbr
  refine g_skip ?_
  refine g_seq ?_
  refine g_seq ?_
  refine g_region ?_
  refine l_assign rfl rfl ?_
  refine l_nil ?_
  refine g_block ?_
  refine g_loop (X := Int × List Int) (fun z => 0 ≤ z.1 ∧ z.1 ≤ ns ∧ z.2.length = n) (fun z => (ns - z.1).toNat) (fun z => [(0, .int .i64 fr), (1, .slice sa ns cs), (5, .pointer (some ⟨b, 0, none⟩)), (7, .int .i64 z.1)]) (fun z => Blk b (.cells [.slice (some ⟨g, 0, none⟩) n c].toArray 77 (0, 0)) :: Own 30 1 (.slice (some ⟨g, 0, none⟩) n c) n (ints .u32 z.2) :: F) (0, W) ⟨by simp only; omega, by simp only; omega, hW⟩ (.cons rfl (.cons rfl (.cons rfl (.cons rfl (.nil))))) (fun w hw => SPI.holds hw) ?_; clear hW; clear W
  rintro ⟨i, W⟩ ⟨i0, i1, hW⟩ ih
  dsimp only
  simp only at i0 i1 hW
  refine g_seq ?_
  refine g_seq ?_
  refine g_region ?_
  refine l_move rfl rfl ?_
  refine l_move rfl rfl ?_
  refine l_len rfl Try.underlying51 rfl ?_
  refine l_lss rfl rfl rfl ?_
  refine l_nil ?_
  refine g_cond rfl ?_ ?_
  · intro hbr
    have hbr := of_decide_eq_true hbr
    (exfalso; omega)
  intro hbr
  have hbr := of_decide_eq_false hbr
  refine g_exit rfl ?_
  refine g_seq ?_
  refine g_region ?_
  refine l_assign rfl rfl ?_
  refine l_nil ?_
  refine g_ret Try.func6 rfl (.tmp rfl .nil) ?_
  exact Gives.mki ⟨rfl, rfl⟩
theorem kept_all (W : World) (fr : Int) (hf : -9223372036854775808 ≤ fr ∧ fr ≤ 9223372036854775807) (a1 : Option Addr) (n1 c1 : Nat) (rows : List (List Value)) (hc1 : n1 ≤ c1) (hm1 : c1 ≤ maxLen) (hl1 : rows.length = n1) (hv1 : ∀ r ∈ rows, r.length = 6 ∧ Vis Try.prog W 58 r)
    (hr1 : (n1 = 0 ∧ (a1 = none → c1 = 0)) ∨ ∃ b o, a1 = some ⟨b, o, none⟩ ∧ ∀ (j : Nat) u, rows.flatten[j]? = some u → W.cell? ⟨b, o + j, none⟩ = some u) :
    CallK Try.prog 6 [.int .i64 fr, .slice a1 n1 c1] W [Old W] (Gives W fun v F2 => v = .bool true ∧ F2 = [Old W]) := by
  simp only [maxLen] at hm1
  obtain ⟨L, hL, hLok⟩ := rows_choose (f := actRow) (R := ActOk W [Old W]) (rows := rows) (fun r hr => vis_act (hv1 r hr).2)
  rcases hr1 with ⟨h, _⟩ | ⟨b, o, rfl, hr⟩
  · exact kept_none W [Old W] fr hf.1 hf.2 a1 n1 c1 h
  · subst hL
    exact kept_some W [Old W] fr hf.1 hf.2 b o n1 c1 L (by simpa using hl1) (by omega) hLok (RowAt.old (by simp) hr)
end Go.Proofs.Ytlgcghhjgcdigaa.Fw
