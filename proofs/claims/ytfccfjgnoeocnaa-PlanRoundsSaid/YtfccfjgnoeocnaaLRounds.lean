import Derived.Test.YtfccfjgnoeocnaaTimes
import Derived.Test.YtfccfjgnoeocnaaRRounds2
namespace Go.Proofs.Ytfccfjgnoeocnaa.Fw
open Go Go.Proofs
set_option linter.unusedVariables false
set_option linter.unusedSimpArgs false
set_option maxRecDepth 10000

theorem rounds_law (w0 : World) (F : List Atom) (fr mj kr rm : Int) (ca pa ha : Option Addr) (cn cc pn pc hn hc : Nat) (Ks : List CoreR) (hCR : CR w0 F ca cn Ks) (hcn : cn ≤ 9223372036854775807) (hpn : pn ≤ 9223372036854775807) (hmj : I64 mj) (rows : List (List Value)) (hPR : PR w0 F pa pn rows) :
    CallK Try.prog 6 [.agg [Value.int .i64 fr, .int .i64 mj, .int .i64 kr, .int .i64 rm, .slice ca cn cc, .slice pa pn pc, .slice ha hn hc].toArray] w0 (F) (Gives w0 fun v F2 => v = .bool true ∧ F2 = F) := by
  refine c_enter Try.func6 rfl rfl rfl ?_
  refine g_seq ?_
  refine g_region ?_
  refine l_boxs rfl rfl ?_; intro b1
  refine l_assign rfl rfl ?_
  refine l_nil ?_
  refine g_seq ?_
  refine g_seq ?_
  refine g_region ?_
  refine l_lds rfl Try.isAgg27 Try.sizeOf27 rfl rfl ?_
  refine l_call rfl Try.call12 rfl (vast_any _ _ fr mj kr rm ca pa ha cn cc pn pc hn hc Ks hCR.ex hcn hpn hmj rows hPR.ex) ?_; rintro _ _ ⟨x9, rfl, rfl⟩
  refine l_nil ?_
  refine g_cond rfl ?_ ?_
  · intro hbr
    refine g_seq ?_
    refine g_region ?_
    refine l_assign rfl rfl ?_
    refine l_nil ?_
    refine g_ret Try.func6 rfl (.tmp rfl .nil) ?_
    exact Gives.mki ⟨rfl, rfl⟩
  intro hbr
  refine g_skip ?_
  refine g_seq ?_
  refine gp_start mo (by kernel_rfl) (by kernel_rfl) ?_
  refine gp_quiet 0 rfl rfl rfl rfl rfl rfl (q_lds Try.isAgg27 Try.sizeOf27 rfl rfl) ?_
  refine gp_quiet 2 rfl rfl rfl rfl rfl rfl (q_lds Try.isAgg27 Try.sizeOf27 rfl rfl) ?_
  refine gp_eff 1 rfl rfl rfl rfl rfl rfl (does_call Try.call16 rfl (rounds_any _ _ fr mj kr rm ca pa ha cn cc pn pc hn hc Ks hCR.ex hcn hpn hmj)) ?_
  rintro _ _ ⟨x, rfl, rfl, x1, x2⟩
  refine ⟨?_, ?_⟩
  · refine .cons rfl rfl rfl rfl rfl (q_lds Try.isAgg27 Try.sizeOf27 rfl rfl) ?_
    refine .cons rfl rfl rfl rfl rfl (q_lds Try.isAgg27 Try.sizeOf27 rfl rfl) ?_
    exact .nil
  refine gp_eff 3 rfl rfl rfl rfl rfl rfl (does_call Try.call17 rfl (rrounds_any _ _ fr mj kr rm ca pa ha cn cc pn pc hn hc Ks hCR.ex hcn hpn hmj)) ?_
  rintro _ _ ⟨y, rfl, rfl, y1, y2⟩
  refine ⟨?_, ?_⟩
  · refine .cons rfl rfl rfl rfl rfl (q_lds Try.isAgg27 Try.sizeOf27 rfl rfl) ?_
    refine .cons rfl rfl rfl rfl rfl (q_lds Try.isAgg27 Try.sizeOf27 rfl rfl) ?_
    exact .nil
  refine gp_quiet 4 rfl rfl rfl rfl rfl rfl (q_eql rfl rfl) ?_
  refine gp_quiet 5 rfl rfl rfl rfl rfl rfl (q_move rfl) ?_
  refine gp_split 10 rfl ?_ ?_
  · intro hbr
    have hg10 := hbr
    have hbr := of_decide_eq_true hbr
    refine gp_effg 6 rfl rfl rfl rfl rfl rfl (.yes rfl rfl rfl) (Does.guard (does_call Try.call11 rfl (awake_ok _ _))) ?_
    rintro _ _ ⟨rfl, rfl⟩
    refine ⟨?_, ?_⟩
    · refine .cons rfl rfl rfl rfl rfl (QV.as (q_move rfl) (congrArg Value.bool hg10)) ?_
      refine .cons rfl rfl rfl rfl rfl (q_eql rfl rfl) ?_
      refine .cons rfl rfl rfl rfl rfl (q_lds Try.isAgg27 Try.sizeOf27 rfl rfl) ?_
      refine .cons rfl rfl rfl rfl rfl (q_lds Try.isAgg27 Try.sizeOf27 rfl rfl) ?_
      exact .nil
    refine gp_quiet 7 rfl rfl rfl rfl rfl rfl (q_pick_t rfl rfl) ?_
    refine gp_quiet 8 rfl rfl rfl rfl rfl rfl (q_assign rfl) ?_
    refine gp_end rfl rfl ?_
    refine g_ret Try.func6 rfl (.tmp rfl .nil) ?_
    exact Gives.mki ⟨rfl, rfl⟩
  · intro hbr
    have hbr := of_decide_eq_false hbr
    (exfalso; first | exact hbr ((Classical.em (1 ≤ cn ∧ cn ≤ 4 ∧ AllMay Ks cn)).elim (fun h => (x1 h).trans (y1 h).symm) (fun h => (x2 h).trans (y2 h).symm)) | omega)
theorem rounds_all (W : World) (l : List Value) (hv : Vis Try.prog W 27 l) : CallK Try.prog 6 [.agg l.toArray] W [Old W] (Gives W fun v F2 => v = .bool true ∧ F2 = [Old W]) := by
  obtain ⟨fr, mj, kr, rm, ca, cn, cc, pa, pn, pc, ha, hn, hc, Ks, rows, rfl, hmj, hCR, hcn, hpn, hPR⟩ := vis_cfg hv
  exact rounds_law W [Old W] fr mj kr rm ca pa ha cn cc pn pc hn hc Ks hCR hcn hpn hmj rows hPR
end Go.Proofs.Ytfccfjgnoeocnaa.Fw
