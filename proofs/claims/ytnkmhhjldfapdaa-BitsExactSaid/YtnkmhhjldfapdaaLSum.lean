import Derived.Test.YtnkmhhjldfapdaaCrc
import Derived.Test.YtnkmhhjldfapdaaFixed
namespace Go.Proofs.Ytnkmhhjldfapdaa.Fw
open Go Go.Proofs
set_option linter.unusedVariables false
set_option linter.unusedSimpArgs false
set_option maxRecDepth 10000

theorem ir_reads {w0 : World} {F : List Atom} {kd : IntKind} {a : Option Addr} {n c : Nat} {W : List Int} (h : IR w0 F kd a n W) (h1 : 0 < n) : Reads w0 F (.slice a n c) n 1 (ints kd W) := by
  obtain ⟨b, o, rfl, hr⟩ := IR.some h (i := 0) h1
  exact ⟨by rw [ints_length, h.1, Nat.mul_one], .inl ⟨_, _, _, rfl, hr⟩⟩
theorem shl8 {k : Int} (h0 : 0 ≤ k) (h1 : k < 8) : IntKind.u8.wrap (1 * 2 ^ min k.toNat IntKind.u8.bits) = ((2 ^ k.toNat : Nat) : Int) := by
  have : min k.toNat IntKind.u8.bits = k.toNat := Nat.min_eq_left (by show k.toNat ≤ 8; omega)
  rw [this, Int.one_mul, pow_nat]
  have h2 : 2 ^ k.toNat ≤ 2 ^ 7 := Nat.pow_le_pow_right (by decide) (by omega)
  generalize 2 ^ k.toNat = q at h2 ⊢
  exact w_u8 (by omega) (by omega)
theorem pick_ok (w0 : World) (F : List Atom) (c : Int) (c0 : -9223372036854775808 ≤ c) (c1 : c ≤ 9223372036854775807) (n : Int) (n0 : 0 < n) (n1 : n ≤ 9223372036854775807) :
    CallK Try.prog 14 [.int .i64 c, .int .i64 n] w0 (F) (Gives w0 fun v F2 => v = .int .i64 (pickV c n) ∧ F2 = F) := by
  refine c_enter Try.func14 rfl rfl rfl ?_
  refine g_seq ?_
  refine g_region ?_
  refine l_assign rfl rfl ?_
  refine l_nil ?_
  refine g_seq ?_
  refine g_seq ?_
  refine g_region ?_
  refine l_move rfl rfl ?_
  refine l_lss rfl rfl rfl ?_
  refine l_nil ?_
  refine g_cond rfl ?_ ?_
  · intro hbr
    have hbr := of_decide_eq_true hbr
    refine g_region ?_
    refine l_move rfl rfl ?_
    first | refine l_add rfl rfl rfl (w_i64 (by omega) (by omega)) ?_ | refine l_addw rfl rfl rfl ?_
    refine l_neg rfl rfl (w_i64 (by omega) (by omega)) ?_
    refine l_assign rfl rfl ?_
    refine l_nil ?_
    refine g_seq ?_
    refine g_region ?_
    refine l_move rfl rfl ?_
    refine l_move rfl rfl ?_
    have hp1 := Int.emod_nonneg c (show n ≠ 0 by omega)
    have hp2 := Int.emod_lt_of_pos c n0
    have hp3 := Int.emod_nonneg (-(c + 1)) (show n ≠ 0 by omega)
    have hp4 := Int.emod_lt_of_pos (-(c + 1)) n0
    refine l_rem rfl rfl rfl (by omega) (by omega) (w_i64 (by omega) (by omega)) ?_
    refine l_assign rfl rfl ?_
    refine l_nil ?_
    refine g_ret Try.func14 rfl (.tmp rfl .nil) ?_
    (first | exact Gives.mki ⟨by unfold pickV; rw [if_pos (by omega)]; rfl, rfl⟩ | exact Gives.mki ⟨by unfold pickV; rw [if_neg (by omega)]; rfl, rfl⟩)
  intro hbr
  have hbr := of_decide_eq_false hbr
  refine g_skip ?_
  refine g_seq ?_
  refine g_region ?_
  refine l_move rfl rfl ?_
  refine l_move rfl rfl ?_
  have hp1 := Int.emod_nonneg c (show n ≠ 0 by omega)
  have hp2 := Int.emod_lt_of_pos c n0
  have hp3 := Int.emod_nonneg (-(c + 1)) (show n ≠ 0 by omega)
  have hp4 := Int.emod_lt_of_pos (-(c + 1)) n0
  refine l_rem rfl rfl rfl (by omega) (by omega) (w_i64 (by omega) (by omega)) ?_
  refine l_assign rfl rfl ?_
  refine l_nil ?_
  refine g_ret Try.func14 rfl (.tmp rfl .nil) ?_
  (first | exact Gives.mki ⟨by unfold pickV; rw [if_pos (by omega)]; rfl, rfl⟩ | exact Gives.mki ⟨by unfold pickV; rw [if_neg (by omega)]; rfl, rfl⟩)
theorem sum_law_ok (w0 : World) (F : List Atom) (a : Option Addr) (n c : Nat) (B : List Int) (hB : B.length = n) (hI : IR w0 F .u8 a n B) (hU : U8s B) (hn : n ≤ 9223372036854775807) (at_ : Int) (at_0 : -9223372036854775808 ≤ at_) (at_1 : at_ ≤ 9223372036854775807) (mask : Int) (m0 : 0 ≤ mask) (m1 : mask ≤ 4294967295) :
    CallK Try.prog 6 [.slice a n c, .int .i64 at_, .int .u32 mask] w0 (F) (Gives w0 fun v F2 => v = .bool true ∧ F2 = F) := by
  refine c_enter Try.func6 rfl rfl rfl ?_
  refine g_seq ?_
  refine g_region ?_
  refine l_assign rfl rfl ?_
  refine l_nil ?_
  refine g_seq ?_
  refine g_seq ?_
  refine g_region ?_
  refine l_call rfl Try.call9 rfl (fixed_ok _ _) ?_; rintro _ F9 ⟨rfl, hF9⟩; rw [hF9]; clear hF9 F9
  refine l_not rfl rfl ?_
  refine l_move rfl rfl ?_
  refine l_guard_yes rfl rfl ?_
  refine l_move rfl rfl ?_
  refine l_guard_yes rfl rfl ?_
  refine l_len rfl Try.underlying36 rfl ?_
  refine l_guard_yes rfl rfl ?_
  refine l_eql rfl rfl rfl ?_
  refine l_pick_f rfl rfl rfl ?_
  refine l_move rfl rfl ?_
  refine l_split 22 rfl ?_ ?_
  · intro hbr
    have hbr := of_decide_eq_true hbr
    refine l_guard_no rfl rfl rfl ?_
    refine l_guard_no rfl rfl rfl ?_
    refine l_guard_no rfl rfl rfl ?_
    refine l_pick_t rfl rfl rfl ?_
    refine l_nil ?_
    first | refine g_cond_t rfl ?_ | refine g_cond_t (congrArg (fun b => some (Value.bool b)) (decide_eq_true hbr)) ?_
    refine g_seq ?_
    refine g_region ?_
    refine l_call rfl Try.call9 rfl (fixed_ok _ _) ?_; rintro _ F9 ⟨rfl, hF9⟩; rw [hF9]; clear hF9 F9
    refine l_assign rfl rfl ?_
    refine l_nil ?_
    refine g_ret Try.func6 rfl (.tmp rfl .nil) ?_
    exact Gives.mki ⟨rfl, rfl⟩
  intro hbr
  have hbr := of_decide_eq_false hbr
  refine l_guard_yes rfl rfl ?_
  refine l_move rfl rfl ?_
  refine l_guard_yes rfl rfl ?_
  refine l_len rfl Try.underlying36 rfl ?_
  refine l_guard_yes rfl rfl ?_
  refine l_gtr rfl rfl rfl ?_
  refine l_pick_f rfl rfl rfl ?_
  refine l_nil ?_
  refine g_cond rfl ?_ ?_
  · intro hbr
    have hbr := of_decide_eq_true hbr
    refine g_seq ?_
    refine g_region ?_
    refine l_call rfl Try.call9 rfl (fixed_ok _ _) ?_; rintro _ F9 ⟨rfl, hF9⟩; rw [hF9]; clear hF9 F9
    refine l_assign rfl rfl ?_
    refine l_nil ?_
    refine g_ret Try.func6 rfl (.tmp rfl .nil) ?_
    exact Gives.mki ⟨rfl, rfl⟩
  intro hbr
  have hbr := of_decide_eq_false hbr
  refine g_skip ?_
  refine g_seq ?_
  refine g_region ?_
  refine l_assign rfl rfl ?_
  refine l_nil ?_
  refine g_seq ?_
  refine g_region ?_
  refine l_move rfl rfl ?_
  refine l_move rfl rfl ?_
  refine gl_heap (fun w hw => hw.own_nil 5 1) ?_
  refine l_does rfl (does_apps 0 (by_ := 1) (kd := .u8) (V := []) (W := B) (m := 0) (m2 := n) (m3 := n) (V3 := B) Try.underlying36 Try.type5 rfl rfl rfl rfl rfl rfl rfl (ir_reads hI.ex (by omega)) (by omega) (by simp only [maxLen]; omega) (by omega) rfl (fun _ _ => rfl)) ?_
  rintro _ _ ⟨a30, c30, ha30, hn30, rfl, rfl⟩
  obtain ⟨g, rfl⟩ : ∃ g, a30 = some ⟨g, 0, none⟩ := ha30.resolve_left (by omega)
  refine l_assign rfl rfl ?_
  refine l_nil ?_
  refine g_seq ?_
  refine g_region ?_
  refine l_move rfl rfl ?_
  refine l_move rfl rfl ?_
  refine l_len rfl Try.underlying36 rfl ?_
  first | refine l_mul rfl rfl rfl (w_i64 (by omega) (by omega)) ?_ | refine l_mulw rfl rfl rfl ?_
  refine l_call rfl Try.call14 rfl (pick_ok _ _ at_ (by omega) (by omega) (8 * n) (by omega) (by omega)) ?_; rintro _ F9 ⟨rfl, hF9⟩; rw [hF9]; clear hF9 F9
  have hpk := @pickV_bd at_ (8 * n) (by omega)
  refine l_assign rfl rfl ?_
  refine l_nil ?_
  refine g_seq ?_
  refine g_region ?_
  refine l_assign rfl rfl ?_
  refine l_nil ?_
  refine g_seq ?_
  refine g_seq ?_
  refine g_region ?_
  refine l_assign rfl rfl ?_
  refine l_nil ?_
  refine g_block ?_
  refine g_loopk (X := Int × List Int × Bool) [(0, _), (2, _), (6, _), (7, _), (8, _)] (.cons rfl (.cons rfl (.cons rfl (.cons rfl (.cons rfl (.nil)))))) (fun z => 0 ≤ z.1 ∧ z.1 ≤ 32 ∧ BurstI B z.2.1 (pickV at_ (8 * n)).toNat mask.toNat z.1.toNat z.2.2) (fun z => (32 - z.1).toNat) (fun z => [(9, .bool z.2.2), (10, .int .i64 z.1)]) (fun z => Own 5 1 (.slice (some ⟨g, 0, none⟩) n c30) n (ints .u8 z.2.1) :: F) ((0, B, false)) (⟨by simp only; omega, by simp only; omega, BurstI.zero hU⟩) (.cons rfl (.cons rfl .nil)) (fun w hw => SPI.holds hw) ?_
  rintro ⟨i, C, tb⟩ ⟨i0, i1, hB1⟩ ih
  dsimp only [List.cons_append, List.nil_append] at ih ⊢
  simp only at i0 i1 hB1
  have hCl := hB1.len
  have hCu := hB1.u8 ((pickV at_ (8 * n) + i) / 8).toNat
  refine g_seq ?_
  refine g_seq ?_
  refine g_region ?_
  refine l_move rfl rfl ?_
  refine l_lss rfl rfl rfl ?_
  refine l_nil ?_
  refine g_cond rfl ?_ ?_
  · intro hbr
    have hbr := of_decide_eq_true hbr
    refine g_skip ?_
    refine g_seq ?_
    refine g_block ?_
    refine g_seq ?_
    refine g_region ?_
    refine l_move rfl rfl ?_
    refine l_move rfl rfl ?_
    first | refine l_add rfl rfl rfl (w_i64 (by omega) (by omega)) ?_ | refine l_addw rfl rfl rfl ?_
    refine l_assign rfl rfl ?_
    refine l_nil ?_
    refine g_seq ?_
    refine g_region ?_
    refine l_move rfl rfl ?_
    refine l_move rfl rfl ?_
    first | refine l_conv rfl Try.underlying3 Try.underlying30 rfl (w_u64 (by omega) (by omega)) ?_ | refine l_convm (m := 18446744073709551616) rfl wr_u64 Try.underlying3 Try.underlying30 rfl ?_
    refine l_shr (r := shV mask i) rfl rfl rfl (by omega) (by rw [show min i.toNat IntKind.u32.bits = i.toNat from min32 (by omega)]; rfl) ?_
    refine l_and (m := 32) rfl rfl rfl rfl rfl ?_
    refine l_eql rfl rfl rfl ?_
    refine l_move rfl rfl ?_
    refine l_split 49 rfl ?_ ?_
    · intro hbr
      have hbr := of_decide_eq_true hbr
      refine l_guard_yes rfl rfl ?_
      refine l_move rfl rfl ?_
      refine l_guard_yes rfl rfl ?_
      refine l_move rfl rfl ?_
      refine l_guard_yes rfl rfl ?_
      refine l_len rfl Try.underlying36 rfl ?_
      refine l_guard_yes rfl rfl ?_
      first | refine l_mul rfl rfl rfl (w_i64 (by omega) (by omega)) ?_ | refine l_mulw rfl rfl rfl ?_
      refine l_guard_yes rfl rfl ?_
      refine l_lss rfl rfl rfl ?_
      refine l_pick_t rfl rfl rfl ?_
      refine l_nil ?_
      refine g_cond rfl ?_ ?_
      · intro hbr
        have hbr := of_decide_eq_true hbr
        refine g_seq ?_
        refine g_region ?_
        refine l_move rfl rfl ?_
        refine l_move rfl rfl ?_
        refine l_quo rfl rfl rfl (by omega) (by omega) (w_i64 (by omega) (by omega)) ?_
        refine l_move rfl rfl ?_
        refine l_move rfl rfl ?_
        refine l_quo rfl rfl rfl (by omega) (by omega) (w_i64 (by omega) (by omega)) ?_
        refine l_ixs rfl Try.underlying36 Try.sizeOf5 rfl rfl (by omega) (by omega) ?_
        refine l_loadc rfl Try.isAgg5 rfl (word_at (mem_getO 0 rfl) (by omega)) ?_
        refine l_move rfl rfl ?_
        refine l_rem rfl rfl rfl (by omega) (by omega) (w_i64 (by omega) (by omega)) ?_
        first | refine l_conv rfl Try.underlying3 Try.underlying30 rfl (w_u64 (by omega) (by omega)) ?_ | refine l_convm (m := 18446744073709551616) rfl wr_u64 Try.underlying3 Try.underlying30 rfl ?_
        refine l_shl (r := ((2 ^ ((pickV at_ (8 * n) + i) % 8).toNat : Nat) : Int)) rfl rfl rfl (by omega) (shl8 (by omega) (by omega)) ?_
        refine l_xor (m := 8) rfl rfl rfl rfl rfl ?_
        refine l_ixs rfl Try.underlying36 Try.sizeOf5 rfl rfl (by omega) (by omega) ?_
        refine l_storew 0 Try.sizeOf5 rfl rfl rfl (by omega) rfl ?_
        rw [show C.set ((pickV at_ (8 * n) + i) / 8).toNat (bXor 8 (C.getD ((pickV at_ (8 * n) + i) / 8).toNat 0) ((2 ^ ((pickV at_ (8 * n) + i) % 8).toNat : Nat) : Int)) = flipL C (pickV at_ (8 * n) + i).toNat by unfold flipL; rw [show (pickV at_ (8 * n) + i).toNat / 8 = ((pickV at_ (8 * n) + i) / 8).toNat by omega, show (pickV at_ (8 * n) + i).toNat % 8 = ((pickV at_ (8 * n) + i) % 8).toNat by omega]]
        refine l_nil ?_
        refine g_region ?_
        refine l_assign rfl rfl ?_
        refine l_nil ?_
        refine g_inBlock ?_
        refine g_region ?_
        refine l_move rfl rfl ?_
        first | refine l_add rfl rfl rfl (w_i64 (by omega) (by omega)) ?_ | refine l_addw rfl rfl rfl ?_
        refine l_assign rfl rfl ?_
        refine l_nil ?_
        (first
          | (have hb9 := hB1.flip (i := i.toNat) (by rw [← bit_iff m0]; omega) (by rw [hB]; omega)
             rw [show (pickV at_ (8 * n)).toNat + i.toNat = (pickV at_ (8 * n) + i).toNat by omega] at hb9
             refine g_againi (ih (i + 1, flipL C (pickV at_ (8 * n) + i).toNat, true) ⟨by simp only; omega, by simp only; omega, by simp only; rw [show (i + 1).toNat = i.toNat + 1 by omega]; exact hb9⟩ (by simp only; omega)) (.cons rfl (.cons rfl (.cons rfl (.cons rfl (.cons rfl (.cons rfl (.cons rfl (.nil)))))))))
          | exact g_againi (ih (i + 1, C, tb) ⟨by simp only; omega, by simp only; omega, by simp only; rw [show (i + 1).toNat = i.toNat + 1 by omega]; exact hB1.skip (by rw [← bit_iff m0, hB]; omega)⟩ (by simp only; omega)) (.cons rfl (.cons rfl (.cons rfl (.cons rfl (.cons rfl (.cons rfl (.cons rfl (.nil)))))))))
      intro hbr
      have hbr := of_decide_eq_false hbr
      refine g_skip ?_
      refine g_inBlock ?_
      refine g_region ?_
      refine l_move rfl rfl ?_
      first | refine l_add rfl rfl rfl (w_i64 (by omega) (by omega)) ?_ | refine l_addw rfl rfl rfl ?_
      refine l_assign rfl rfl ?_
      refine l_nil ?_
      (first
        | (have hb9 := hB1.flip (i := i.toNat) (by rw [← bit_iff m0]; omega) (by rw [hB]; omega)
           rw [show (pickV at_ (8 * n)).toNat + i.toNat = (pickV at_ (8 * n) + i).toNat by omega] at hb9
           refine g_againi (ih (i + 1, flipL C (pickV at_ (8 * n) + i).toNat, true) ⟨by simp only; omega, by simp only; omega, by simp only; rw [show (i + 1).toNat = i.toNat + 1 by omega]; exact hb9⟩ (by simp only; omega)) (.cons rfl (.cons rfl (.cons rfl (.cons rfl (.cons rfl (.cons rfl (.cons rfl (.nil)))))))))
        | exact g_againi (ih (i + 1, C, tb) ⟨by simp only; omega, by simp only; omega, by simp only; rw [show (i + 1).toNat = i.toNat + 1 by omega]; exact hB1.skip (by rw [← bit_iff m0, hB]; omega)⟩ (by simp only; omega)) (.cons rfl (.cons rfl (.cons rfl (.cons rfl (.cons rfl (.cons rfl (.cons rfl (.nil)))))))))
    intro hbr
    have hbr := of_decide_eq_false hbr
    refine l_guard_no rfl rfl rfl ?_
    refine l_guard_no rfl rfl rfl ?_
    refine l_guard_no rfl rfl rfl ?_
    refine l_guard_no rfl rfl rfl ?_
    refine l_guard_no rfl rfl rfl ?_
    refine l_pick_f rfl rfl rfl ?_
    refine l_nil ?_
    first | refine g_cond_f rfl ?_ | refine g_cond_f (congrArg (fun b => some (Value.bool b)) (decide_eq_false hbr)) ?_
    refine g_skip ?_
    refine g_inBlock ?_
    refine g_region ?_
    refine l_move rfl rfl ?_
    first | refine l_add rfl rfl rfl (w_i64 (by omega) (by omega)) ?_ | refine l_addw rfl rfl rfl ?_
    refine l_assign rfl rfl ?_
    refine l_nil ?_
    (first
      | (have hb9 := hB1.flip (i := i.toNat) (by rw [← bit_iff m0]; omega) (by rw [hB]; omega)
         rw [show (pickV at_ (8 * n)).toNat + i.toNat = (pickV at_ (8 * n) + i).toNat by omega] at hb9
         refine g_againi (ih (i + 1, flipL C (pickV at_ (8 * n) + i).toNat, true) ⟨by simp only; omega, by simp only; omega, by simp only; rw [show (i + 1).toNat = i.toNat + 1 by omega]; exact hb9⟩ (by simp only; omega)) (.cons rfl (.cons rfl (.cons rfl (.cons rfl (.cons rfl (.cons rfl (.cons rfl (.nil)))))))))
      | exact g_againi (ih (i + 1, C, tb) ⟨by simp only; omega, by simp only; omega, by simp only; rw [show (i + 1).toNat = i.toNat + 1 by omega]; exact hB1.skip (by rw [← bit_iff m0, hB]; omega)⟩ (by simp only; omega)) (.cons rfl (.cons rfl (.cons rfl (.cons rfl (.cons rfl (.cons rfl (.cons rfl (.nil)))))))))
  intro hbr
  have hbr := of_decide_eq_false hbr
  refine g_exit rfl ?_
  obtain rfl : i = 32 := by omega
  have hlaw := hB1.law hU (by omega) (by rw [hB]; omega)
  refine g_seq ?_
  refine g_region ?_
  refine l_move rfl rfl ?_
  refine l_call rfl Try.call15 rfl (sum_ok _ _ a n c B hI.ex hU (by omega)) ?_; rintro _ _ ⟨rfl, rfl⟩
  refine l_assign rfl rfl ?_
  refine l_nil ?_
  refine g_seq ?_
  refine g_region ?_
  refine l_move rfl rfl ?_
  refine l_call rfl Try.call15 rfl (sum_ok _ _ (some ⟨g, 0, none⟩) n c30 C (.own (by omega) (mem_getO 0 rfl) (.inr ⟨_, rfl⟩)) hB1.u8 (by omega)) ?_; rintro _ _ ⟨rfl, rfl⟩
  refine l_assign rfl rfl ?_
  refine l_nil ?_
  refine g_seq ?_
  refine g_region ?_
  refine l_move rfl rfl ?_
  refine l_call rfl Try.call15 rfl (sum_ok _ _ a n c B hI.ex hU (by omega)) ?_; rintro _ _ ⟨rfl, rfl⟩
  refine l_assign rfl rfl ?_
  refine l_nil ?_
  refine g_seq ?_
  refine g_region ?_
  refine l_move rfl rfl ?_
  refine l_move rfl rfl ?_
  refine l_eql rfl rfl rfl ?_
  refine l_move rfl rfl ?_
  refine l_split 79 rfl ?_ ?_
  · intro hbr
    have hbr := of_decide_eq_true hbr
    refine l_guard_yes rfl rfl ?_
    refine l_move rfl rfl ?_
    refine l_guard_yes rfl rfl ?_
    refine l_move rfl rfl ?_
    refine l_guard_yes rfl rfl ?_
    refine l_neq rfl rfl rfl ?_
    refine l_guard_yes rfl rfl ?_
    refine l_move rfl rfl ?_
    refine l_guard_yes rfl rfl ?_
    refine l_eqlb rfl Try.underlying4 rfl rfl ?_
    rw [hlaw]
    refine l_pick_t rfl rfl rfl ?_
    refine l_assign rfl rfl ?_
    refine l_nil ?_
    refine g_ret Try.func6 rfl (.tmp rfl .nil) ?_
    exact Gives.mki ⟨rfl, rfl⟩
  · intro hbr
    have hbr := of_decide_eq_false hbr
    (exfalso; omega)
theorem sum_all (W : World) (a : Option Addr) (n c : Nat) (B : List Int) (hc : n ≤ c) (hm : c ≤ maxLen) (hl : B.length = n) (hwf : ∀ x ∈ B, (Lit.int .u8 x).wf = true) (hx : (n = 0 ∧ (a = none → c = 0)) ∨ ∃ b o, a = some ⟨b, o, none⟩ ∧ ∀ (j : Nat) u, (ints .u8 B)[j]? = some u → W.cell? ⟨b, o + j, none⟩ = some u) (at_ : Int) (h1 : -9223372036854775808 ≤ at_ ∧ at_ ≤ 9223372036854775807) (mask : Int) (h2 : 0 ≤ mask ∧ mask ≤ 4294967295) : CallK Try.prog 6 [.slice a n c, .int .i64 at_, .int .u32 mask] W [Old W] (Gives W fun v F2 => v = .bool true ∧ F2 = [Old W]) := by
  simp only [maxLen] at hm
  refine sum_law_ok W [Old W] a n c B hl ⟨hl, ?_⟩ (U8s.of fun x h => wf_u8 (hwf x h)) (by omega) at_ h1.1 h1.2 mask h2.1 h2.2
  rcases hx with ⟨h, _⟩ | ⟨b, o, rfl, hr⟩
  · exact .inl h
  · exact .inr ⟨b, o, rfl, RowAt.old (by simp) hr⟩
end Go.Proofs.Ytnkmhhjldfapdaa.Fw
