import Derived.Test.YtfccfjgnoeocnaaRef1
import Derived.Test.YtfccfjgnoeocnaaRounds
namespace Go.Proofs.Ytfccfjgnoeocnaa.Fw
open Go Go.Proofs
set_option linter.unusedVariables false
set_option linter.unusedSimpArgs false
set_option maxRecDepth 10000

theorem may_any (w0 : World) (F : List Atom) (a : Option Addr) (n c : Nat) (L : List Win) (hW : WR w0 F a n L) (hn : n ≤ 9223372036854775807) : CallK Try.prog 35 [.slice a n c] w0 F (Gives w0 fun v F2 => ∃ ok, v = .bool ok ∧ F2 = F ∧ (ok = true → May L) ∧ (ok = false → ¬ May L)) := by
  by_cases hm : May L
  · exact (may_ok w0 F a n c L hW hn hm).gmono fun v F2 ⟨h1, h2⟩ => ⟨true, h1, h2, fun _ => hm, fun h => by cases h⟩
  · exact (may_bad w0 F a n c L hW hn hm).gmono fun v F2 ⟨h1, h2⟩ => ⟨false, h1, h2, (fun h => by cases h), fun _ => hm⟩
theorem all_any (w0 : World) (F : List Atom) (fr mj kr rm : Int) (ca pa ha : Option Addr) (cn cc pn pc hn hc : Nat) (Ks : List CoreR) (hCR : CR w0 F ca cn Ks) (hcn : cn ≤ 9223372036854775807) (hpn : pn ≤ 9223372036854775807) (hmj : I64 mj) :
    CallK Try.prog 38 [.agg [Value.int .i64 fr, .int .i64 mj, .int .i64 kr, .int .i64 rm, .slice ca cn cc, .slice pa pn pc, .slice ha hn hc].toArray] w0 (F) (Gives w0 fun v F2 => ∃ ok, v = .bool ok ∧ F2 = F ∧ (ok = true → AllMay Ks cn) ∧ (ok = false → ¬ AllMay Ks cn)) := by
  have hCl := hCR.1
  refine c_enter Try.func38 rfl rfl rfl ?_
  refine g_seq ?_
  refine g_region ?_
  refine l_boxs rfl rfl ?_; intro b1
  refine l_assign rfl rfl ?_
  refine l_nil ?_
  refine g_seq ?_
  refine g_seq ?_
  refine g_region ?_
  refine l_assign rfl rfl ?_
  refine l_nil ?_
  refine g_block ?_
  refine g_loop (X := Int) (fun k => 0 ≤ k ∧ k ≤ cn ∧ AllMay Ks k.toNat) (fun k => (cn - k).toNat) (fun k => [(1, .pointer (some ⟨b1, 0, none⟩)), (3, .int .i64 k)]) (fun k => Blk b1 (.cells [.int .i64 fr, .int .i64 mj, .int .i64 kr, .int .i64 rm, .slice ca cn cc, .slice pa pn pc, .slice ha hn hc].toArray 27 (0, 0)) :: F) 0 ⟨by omega, by omega, fun j hj => by simp at hj⟩ (.cons rfl (.cons rfl (.nil))) (fun w hw => SPI.holds hw) ?_
  rintro k ⟨k0, k1, hall⟩ ih
  obtain ⟨⟨a, n, c, L⟩, hk⟩ : ∃ K, kat Ks k.toNat = K := ⟨_, rfl⟩
  refine g_seq ?_
  refine g_seq ?_
  refine g_region ?_
  refine l_move rfl rfl ?_
  refine l_fieldAddr rfl fa_27_4 rfl ?_
  refine l_ld rfl Try.isAgg23 rfl rfl ?_
  refine l_len rfl Try.underlying23 rfl ?_
  refine l_lss rfl rfl rfl ?_
  refine l_nil ?_
  refine g_cond rfl ?_ ?_
  · intro hbr
    have hbr := of_decide_eq_true hbr
    refine g_skip ?_
    refine g_seq ?_
    refine g_block ?_
    refine g_seq ?_
    refine g_region ?_
    refine l_fieldAddr rfl fa_27_4 rfl ?_
    refine l_ld rfl Try.isAgg23 rfl rfl ?_
    refine l_move rfl rfl ?_
    obtain ⟨b8, o8, rfl, hr8⟩ := hCR.some (i := k.toNat) (by omega)
    refine l_ixs rfl Try.underlying23 Try.sizeOf38 rfl rfl (by omega) (by omega) ?_
    obtain ⟨hW, hn9⟩ := hCR.ok hk (by omega)
    refine l_loadc rfl Try.isAgg38 rfl (core_cell hr8.ex hk (by omega)) ?_
    refine l_call rfl Try.call35 rfl (may_any _ _ a n c L hW.ex hn9) ?_; rintro _ _ ⟨ok, rfl, rfl, hyes, hno⟩
    refine l_not rfl rfl ?_
    refine l_nil ?_
    refine g_cond rfl ?_ ?_
    · intro hbr
      have hb17 := hbr
      refine g_seq ?_
      refine g_region ?_
      refine l_assign rfl rfl ?_
      refine l_nil ?_
      refine g_ret Try.func38 rfl (.tmp rfl .nil) ?_
      (first | exact Gives.mki ⟨true, rfl, rfl, fun _ => hall, fun h => by cases h⟩ | exact Gives.mki ⟨false, rfl, rfl, (fun h => by cases h), fun _ h => absurd (h k.toNat (by omega)) (by rw [hk]; exact hno (nb_t hbr))⟩)
    intro hbr
    have hb17 := hbr
    refine g_skip ?_
    refine g_inBlock ?_
    refine g_region ?_
    refine l_move rfl rfl ?_
    first | refine l_add rfl rfl rfl (w_i64 (by omega) (by omega)) ?_ | refine l_addw rfl rfl rfl ?_
    refine l_assign rfl rfl ?_
    refine l_nil ?_
    exact g_againi (ih (k + 1) ⟨by omega, by omega, all_next hk k0 (hyes (nb_f hbr)) hall⟩ (by omega)) (.cons rfl (.cons rfl (.nil)))
  intro hbr
  have hbr := of_decide_eq_false hbr
  refine g_exit rfl ?_
  obtain rfl : k = cn := by omega
  rw [Int.toNat_natCast] at hall
  refine g_seq ?_
  refine g_region ?_
  refine l_assign rfl rfl ?_
  refine l_nil ?_
  refine g_ret Try.func38 rfl (.tmp rfl .nil) ?_
  (first | exact Gives.mki ⟨true, rfl, rfl, fun _ => hall, fun h => by cases h⟩ | exact Gives.mki ⟨false, rfl, rfl, (fun h => by cases h), fun _ h => absurd (h k.toNat (by omega)) (by rw [hk]; exact hno (nb_t hbr))⟩)
end Go.Proofs.Ytfccfjgnoeocnaa.Fw
