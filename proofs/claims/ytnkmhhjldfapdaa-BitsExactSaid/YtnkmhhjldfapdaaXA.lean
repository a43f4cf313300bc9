import Derived.Test.YtnkmhhjldfapdaaG
import Derived.Test.YtnkmhhjldfapdaaPacks
namespace Go.Proofs.Ytnkmhhjldfapdaa.Fw
open Go Go.Proofs
set_option linter.unusedVariables false
set_option linter.unusedSimpArgs false
set_option maxRecDepth 10000
theorem fa_90_0 (a : Addr) (w : World) : (Instr.fieldAt 90 (.pointer (some a)) 0).run Try.prog w = .ok (.pointer (some (a.add 0))) w := by
  simp [Instr.fieldAt, Try.runUnderlying90, Instr.sureAddr, fieldPlace, Try.sizeOf36, Sem.run_bind, Sem.run_pure]
theorem bd_99_z  (w : World) : (Instr.build 99 #[]).run Try.prog w = .ok (.agg #[.slice none 0 0, .int .i64 0, .int .i64 0]) w := by kernel_rfl
theorem fa_99_0 (a : Addr) (w : World) : (Instr.fieldAt 99 (.pointer (some a)) 0).run Try.prog w = .ok (.pointer (some (a.add 0))) w := by
  simp [Instr.fieldAt, Try.runUnderlying99, Instr.sureAddr, fieldPlace, Try.sizeOf36, Sem.run_bind, Sem.run_pure]
theorem fa_99_2 (a : Addr) (w : World) : (Instr.fieldAt 99 (.pointer (some a)) 2).run Try.prog w = .ok (.pointer (some (a.add 2))) w := by
  simp [Instr.fieldAt, Try.runUnderlying99, Instr.sureAddr, fieldPlace, Try.sizeOf26, Sem.run_bind, Sem.run_pure]
theorem fa_99_1 (a : Addr) (w : World) : (Instr.fieldAt 99 (.pointer (some a)) 1).run Try.prog w = .ok (.pointer (some (a.add 1))) w := by
  simp [Instr.fieldAt, Try.runUnderlying99, Instr.sureAddr, fieldPlace, Try.sizeOf3, Sem.run_bind, Sem.run_pure]
theorem or_bit {a b i : Nat} (ha : a < 2 ^ i) (hb : b < 2) (hi : i < 32) : bOr 32 (a : Int) ((b * 2 ^ i : Nat) : Int) = ((a + b * 2 ^ i : Nat) : Int) := by
  unfold bOr
  rw [ofInt_nat, ofInt_nat]
  have h1 : 2 ^ (i + 1) ≤ 2 ^ 32 := Nat.pow_le_pow_right (by decide) (by omega)
  have h2 : 2 ^ (i + 1) = 2 * 2 ^ i := by rw [Nat.pow_succ, Nat.mul_comm]
  have h3 : b * 2 ^ i ≤ 1 * 2 ^ i := Nat.mul_le_mul_right _ (by omega)
  have h4 : b * 2 ^ i ||| a = b * 2 ^ i + a := by
    have := Nat.shiftLeft_add_eq_or_of_lt ha b
    rw [Nat.shiftLeft_eq] at this
    exact this.symm
  have : (BitVec.ofNat 32 a ||| BitVec.ofNat 32 (b * 2 ^ i)).toNat = a + b * 2 ^ i := by
    rw [BitVec.toNat_or, BitVec.toNat_ofNat, BitVec.toNat_ofNat, Nat.mod_eq_of_lt (by omega), Nat.mod_eq_of_lt (by omega), Nat.or_comm, h4, Nat.add_comm]
  rw [this]
theorem mod_step (m i : Nat) : m % 2 ^ i + m / 2 ^ i % 2 * 2 ^ i = m % 2 ^ (i + 1) := by
  rw [Nat.mod_pow_succ, Nat.mul_comm]
def bitV (x i : Int) : Int := x / 2 ^ i.toNat % 2
theorem bitV_nat (x i : Nat) : bitV x i = ((x / 2 ^ i % 2 : Nat) : Int) := by
  unfold bitV
  rw [Int.toNat_natCast, pow_nat]
  norm_cast
theorem bitV_bd (x i : Int) : 0 ≤ bitV x i ∧ bitV x i ≤ 1 := by unfold bitV; omega
theorem and_bit {x i : Int} (x0 : 0 ≤ x) (x1 : x ≤ 4294967295) (i0 : 0 ≤ i) : bAnd 32 (shV x i) 1 = bitV x i := by
  obtain ⟨x, rfl⟩ := Int.eq_ofNat_of_zero_le x0
  obtain ⟨i, rfl⟩ := Int.eq_ofNat_of_zero_le i0
  try simp only [Int.ofNat_eq_natCast] at *
  rw [bitV_nat]
  have h1 : shV (x : Int) i = ((x / 2 ^ i : Nat) : Int) := by
    unfold shV; rw [Int.toNat_natCast, pow_nat]; norm_cast
  have h2 : x / 2 ^ i ≤ x := Nat.div_le_self _ _
  rw [h1]
  unfold bAnd
  rw [ofInt_nat, show (1 : Int) = ((1 : Nat) : Int) from rfl, ofInt_nat]
  rw [BitVec.toNat_and, BitVec.toNat_ofNat, BitVec.toNat_ofNat, Nat.mod_eq_of_lt (by omega), Nat.mod_eq_of_lt (by decide), Nat.and_one_is_mod]
theorem bit_sh {x i : Int} (i0 : 0 ≤ i) (i1 : i < 32) : 0 ≤ bitV x i * 2 ^ i.toNat ∧ ∀ j : Int, 0 ≤ j → j < 32 → 0 ≤ bitV x i * 2 ^ j.toNat ∧ bitV x i * 2 ^ j.toNat ≤ 4294967295 := by
  have hb := bitV_bd x i
  have key : ∀ j : Int, 0 ≤ j → j < 32 → 0 ≤ bitV x i * 2 ^ j.toNat ∧ bitV x i * 2 ^ j.toNat ≤ 4294967295 := fun j j0 j1 => by
    have hp := pow_bd (k := j.toNat) (by omega)
    have h2 : (2 : Int) ^ j.toNat ≤ 2147483648 := by
      have h3 := Nat.pow_le_pow_right (n := 2) (by decide) (show j.toNat ≤ 31 by omega)
      rw [pow_nat]
      have h4 : (2 : Nat) ^ 31 = 2147483648 := by decide
      rw [h4] at h3
      omega
    have h5 : bitV x i = 0 ∨ bitV x i = 1 := by omega
    rcases h5 with h | h <;> rw [h] <;> omega
  exact ⟨(key i i0 i1).1, key⟩
theorem fieldV_nat (x fr wd : Nat) : fieldV x fr wd = ((x / 2 ^ fr % 2 ^ wd : Nat) : Int) := field_nat
theorem fld_step {x fr i : Int} (x0 : 0 ≤ x) (f0 : 0 ≤ fr) (i0 : 0 ≤ i) (i1 : i < 32) : bOr 32 (fieldV x fr i) (bitV x (fr + i) * 2 ^ i.toNat) = fieldV x fr (i + 1) := by
  obtain ⟨x, rfl⟩ := Int.eq_ofNat_of_zero_le x0
  obtain ⟨fr, rfl⟩ := Int.eq_ofNat_of_zero_le f0
  obtain ⟨i, rfl⟩ := Int.eq_ofNat_of_zero_le i0
  try simp only [Int.ofNat_eq_natCast] at *
  rw [show (fr : Int) + i = ((fr + i : Nat) : Int) from by norm_cast, show (i : Int) + 1 = ((i + 1 : Nat) : Int) from by norm_cast, fieldV_nat, fieldV_nat, bitV_nat, Int.toNat_natCast, pow_nat]
  have e : ((x / 2 ^ (fr + i) % 2 : Nat) : Int) * ((2 ^ i : Nat) : Int) = ((x / 2 ^ (fr + i) % 2 * 2 ^ i : Nat) : Int) := by norm_cast
  rw [e, or_bit (Nat.mod_lt _ (Nat.two_pow_pos i)) (Nat.mod_lt _ (by decide)) (by omega), ← mod_step, Nat.pow_add, Nat.div_div_eq_div_mul]
theorem fieldV_zero (x fr : Int) : fieldV x fr 0 = 0 := by unfold fieldV; simp [Int.emod_one]
/-- The lowest bits of what Put tells. -/
def lowP (r i : Int) : Int := r % 2 ^ i.toNat
theorem lowP_zero (r : Int) : lowP r 0 = 0 := by unfold lowP; simp [Int.emod_one]
theorem lowP_bd {r i : Int} (i0 : 0 ≤ i) (i1 : i ≤ 32) : 0 ≤ lowP r i ∧ lowP r i ≤ 4294967295 := by
  unfold lowP
  have h1 : (0 : Int) < 2 ^ i.toNat := Int.pow_pos (by decide)
  have h2 := pow_bd (k := i.toNat) (by omega)
  have := Int.emod_nonneg r (show (2 : Int) ^ i.toNat ≠ 0 by omega)
  have := Int.emod_lt_of_pos r h1
  omega
theorem lowP_all {r : Int} (r0 : 0 ≤ r) (r1 : r ≤ 4294967295) : lowP r 32 = r := by
  unfold lowP
  rw [show (2 : Int) ^ (32 : Int).toNat = 4294967296 from rfl]; omega
theorem lowP_step {r i : Int} (r0 : 0 ≤ r) (i0 : 0 ≤ i) (i1 : i < 32) : bOr 32 (lowP r i) (bitV r i * 2 ^ i.toNat) = lowP r (i + 1) := by
  obtain ⟨r, rfl⟩ := Int.eq_ofNat_of_zero_le r0
  obtain ⟨i, rfl⟩ := Int.eq_ofNat_of_zero_le i0
  try simp only [Int.ofNat_eq_natCast] at *
  have hl : ∀ k : Nat, lowP (r : Int) (k : Int) = ((r % 2 ^ k : Nat) : Int) := fun k => by unfold lowP; rw [Int.toNat_natCast, pow_nat]; norm_cast
  rw [show (i : Int) + 1 = ((i + 1 : Nat) : Int) from by norm_cast, hl, hl, bitV_nat, Int.toNat_natCast, pow_nat]
  have e : ((r / 2 ^ i % 2 : Nat) : Int) * ((2 ^ i : Nat) : Int) = ((r / 2 ^ i % 2 * 2 ^ i : Nat) : Int) := by norm_cast
  rw [e, or_bit (Nat.mod_lt _ (Nat.two_pow_pos i)) (Nat.mod_lt _ (by decide)) (by omega), mod_step]
theorem bit_tb (x i : Nat) : x / 2 ^ i % 2 = (x.testBit i).toNat := by
  rw [Nat.testBit_eq_decide_div_mod_eq]
  have : x / 2 ^ i % 2 < 2 := Nat.mod_lt _ (by decide)
  by_cases h : x / 2 ^ i % 2 = 1
  · simp [h]
  · simp [h]; omega
theorem put_bit {x fr wd v i : Int} (x0 : 0 ≤ x) (v0 : 0 ≤ v) (f0 : 0 ≤ fr) (w0 : 0 ≤ wd) (hv : v < 2 ^ wd.toNat) (i0 : 0 ≤ i) (i1 : i < 32) : bitV (putV x fr wd v) i = if fr ≤ i ∧ i < fr + wd then bitV v (i - fr) else bitV x i := by
  obtain ⟨x, rfl⟩ := Int.eq_ofNat_of_zero_le x0
  obtain ⟨v, rfl⟩ := Int.eq_ofNat_of_zero_le v0
  obtain ⟨fr, rfl⟩ := Int.eq_ofNat_of_zero_le f0
  obtain ⟨wd, rfl⟩ := Int.eq_ofNat_of_zero_le w0
  obtain ⟨i, rfl⟩ := Int.eq_ofNat_of_zero_le i0
  simp only [Int.toNat_natCast] at *
  have hv2 : v < 2 ^ wd := by rw [pow_nat] at hv; omega
  have hp := (put_nn (x : Int) fr wd v).1
  obtain ⟨r, hr⟩ := Int.eq_ofNat_of_zero_le hp
  try simp only [Int.ofNat_eq_natCast] at hr
  have ht := tb_put (w := x) (fr := fr) (wd := wd) (v := v) (i := i) hv2
  rw [hr, Int.toNat_natCast] at ht
  rw [hr, bitV_nat, bit_tb, ht]
  by_cases h : fr ≤ i ∧ i < fr + wd
  · rw [if_pos h, if_pos (by omega), show (i : Int) - fr = ((i - fr : Nat) : Int) by omega, bitV_nat, bit_tb]
    simp [show i < 32 by omega]
  · rw [if_neg h, if_neg (by omega), bitV_nat, bit_tb]
    simp [show i < 32 by omega]
theorem FldG.one {x fr wd r e r2 e2 : Int} (h1 : FldG x fr wd r e) (h2 : FldG x fr wd r2 e2) : r = r2 ∧ e = e2 := by
  rcases h1 with ⟨a, b, c⟩ | ⟨a, b, c⟩ <;> rcases h2 with ⟨a2, b2, c2⟩ | ⟨a2, b2, c2⟩
  · exact ⟨b.trans b2.symm, c.trans c2.symm⟩
  · exact absurd a2 a
  · exact absurd a a2
  · exact ⟨b.trans b2.symm, c.trans c2.symm⟩
theorem PutG.one {x fr wd v r e r2 e2 : Int} (h1 : PutG x fr wd v r e) (h2 : PutG x fr wd v r2 e2) : r = r2 ∧ e = e2 := by
  rcases h1 with ⟨a, b, c⟩ | ⟨a, b, c, d⟩ | ⟨a, b, c, d⟩ <;> rcases h2 with ⟨a2, b2, c2⟩ | ⟨a2, b2, c2, d2⟩ | ⟨a2, b2, c2, d2⟩ <;> first | exact absurd a2 a | exact absurd a a2 | (exfalso; omega) | exact ⟨b.trans b2.symm, c.trans c2.symm⟩ | exact ⟨c.trans c2.symm, d.trans d2.symm⟩
theorem SgnG.one {v wd r e r2 e2 : Int} (h1 : SgnG v wd r e) (h2 : SgnG v wd r2 e2) : r = r2 ∧ e = e2 := by
  rcases h1 with ⟨a, b, c⟩ | ⟨a, b, c, d⟩ | ⟨a, b, c, d⟩ <;> rcases h2 with ⟨a2, b2, c2⟩ | ⟨a2, b2, c2, d2⟩ | ⟨a2, b2, c2, d2⟩ <;> first | exact absurd a2 a | exact absurd a a2 | (exfalso; omega) | exact ⟨b.trans b2.symm, c.trans c2.symm⟩ | exact ⟨c.trans c2.symm, d.trans d2.symm⟩
theorem UnsG.one {n wd r e r2 e2 : Int} (h1 : UnsG n wd r e) (h2 : UnsG n wd r2 e2) : r = r2 ∧ e = e2 := by
  rcases h1 with ⟨a, b, c⟩ | ⟨a, b, c, d⟩ | ⟨a, b, c, d⟩ <;> rcases h2 with ⟨a2, b2, c2⟩ | ⟨a2, b2, c2, d2⟩ | ⟨a2, b2, c2, d2⟩ <;> first | exact absurd a2 a | exact absurd a a2 | (exfalso; omega) | exact ⟨b.trans b2.symm, c.trans c2.symm⟩ | exact ⟨c.trans c2.symm, d.trans d2.symm⟩
theorem rbit_ok (w0 : World) (F : List Atom) (x : Int) (x0 : 0 ≤ x) (x1 : x ≤ 4294967295) (i : Int) (i0 : 0 ≤ i) (i1 : i < 32) :
    CallK Try.prog 78 [.int .u32 x, .int .i64 i] w0 (F) (Gives w0 fun v F2 => v = .int .u32 (bitV x i) ∧ F2 = F) := by
  refine c_enter Try.func78 rfl rfl rfl ?_
  refine g_seq ?_
  refine g_region ?_
  refine l_assign rfl rfl ?_
  refine l_nil ?_
  refine g_seq ?_
  refine g_region ?_
  refine l_move rfl rfl ?_
  refine l_move rfl rfl ?_
  first | refine l_conv rfl Try.underlying3 Try.underlying30 rfl (w_u64 (by omega) (by omega)) ?_ | refine l_convm (m := 18446744073709551616) rfl wr_u64 Try.underlying3 Try.underlying30 rfl ?_
  have hsb := @shV_bd x i x0
  refine l_shr (r := shV x i) rfl rfl rfl (by omega) (by rw [show min i.toNat IntKind.u32.bits = i.toNat from min32 (by omega)]; rfl) ?_
  refine l_andr (m := 32) (r := bitV x i) rfl rfl rfl rfl rfl (and_bit x0 x1 i0) ?_
  refine l_assign rfl rfl ?_
  refine l_nil ?_
  refine g_ret Try.func78 rfl (.tmp rfl .nil) ?_
  exact Gives.mki ⟨rfl, rfl⟩
theorem rfield_in (w0 : World) (F : List Atom) (x : Int) (x0 : 0 ≤ x) (x1 : x ≤ 4294967295) (fr : Int) (fr0 : -9223372036854775808 ≤ fr) (fr1 : fr ≤ 9223372036854775807) (wd : Int) (wd0 : -9223372036854775808 ≤ wd) (wd1 : wd ≤ 9223372036854775807) (ht : There fr wd) :
    CallK Try.prog 52 [.int .u32 x, .int .i64 fr, .int .i64 wd] w0 (F) (Gives w0 fun v F2 => v = .tuple #[.int .u32 (fieldV x fr wd), .int .i64 0] ∧ F2 = F) := by
  have ht2 := ht
  unfold There at ht2
  refine c_enter Try.func52 rfl rfl rfl ?_
  refine g_seq ?_
  refine g_region ?_
  refine l_assign rfl rfl ?_
  refine l_assign rfl rfl ?_
  refine l_nil ?_
  refine g_seq ?_
  refine g_seq ?_
  refine g_region ?_
  refine l_move rfl rfl ?_
  refine l_move rfl rfl ?_
  refine l_inl rfl Try.call77 rfl ?_
  refine c_enter Try.func77 rfl rfl rfl ?_
  refine g_seq ?_
  refine g_region ?_
  refine l_assign rfl rfl ?_
  refine l_nil ?_
  refine g_seq ?_
  refine g_region ?_
  refine l_move rfl rfl ?_
  refine l_geq rfl rfl rfl ?_
  refine l_move rfl rfl ?_
  refine l_split 7 rfl ?_ ?_
  · intro hbr
    have hbr := of_decide_eq_true hbr
    refine l_guard_yes rfl rfl ?_
    refine l_move rfl rfl ?_
    refine l_guard_yes rfl rfl ?_
    refine l_leq rfl rfl rfl ?_
    refine l_pick_t rfl rfl rfl ?_
    refine l_move rfl rfl ?_
    refine l_split 11 rfl ?_ ?_
    · intro hbr
      have hbr := of_decide_eq_true hbr
      refine l_guard_yes rfl rfl ?_
      refine l_move rfl rfl ?_
      refine l_guard_yes rfl rfl ?_
      refine l_geq rfl rfl rfl ?_
      refine l_pick_t rfl rfl rfl ?_
      refine l_move rfl rfl ?_
      refine l_split 15 rfl ?_ ?_
      · intro hbr
        have hbr := of_decide_eq_true hbr
        refine l_guard_yes rfl rfl ?_
        refine l_move rfl rfl ?_
        refine l_guard_yes rfl rfl ?_
        refine l_leq rfl rfl rfl ?_
        refine l_pick_t rfl rfl rfl ?_
        refine l_move rfl rfl ?_
        refine l_split 19 rfl ?_ ?_
        · intro hbr
          have hbr := of_decide_eq_true hbr
          refine l_guard_yes rfl rfl ?_
          refine l_move rfl rfl ?_
          refine l_guard_yes rfl rfl ?_
          refine l_move rfl rfl ?_
          refine l_guard_yes rfl rfl ?_
          first | refine l_add rfl rfl rfl (w_i64 (by omega) (by omega)) ?_ | refine l_addw rfl rfl rfl ?_
          refine l_guard_yes rfl rfl ?_
          refine l_leq rfl rfl rfl ?_
          refine l_pick_t rfl rfl rfl ?_
          refine l_assign rfl rfl ?_
          refine l_nil ?_
          refine g_ret Try.func77 rfl (.tmp rfl .nil) ?_
          first | refine ⟨.bool _, rfl, ?_⟩ | refine ⟨_, rfl, ?_⟩
          refine l_not rfl rfl ?_
          refine l_nil ?_
          refine g_cond rfl ?_ ?_
          · intro hbr
            have hbr := of_decide_eq_false (nb_t hbr)
            (exfalso; omega)
          intro hbr
          have hbr := of_decide_eq_true (nb_f hbr)
          refine g_skip ?_
          refine g_seq ?_
          refine g_region ?_
          refine l_assign rfl rfl ?_
          refine l_nil ?_
          refine g_seq ?_
          refine g_seq ?_
          refine g_region ?_
          refine l_assign rfl rfl ?_
          refine l_nil ?_
          refine g_block ?_
          obtain ⟨t0, t1, t2, t3⟩ := id ht
          refine g_loopc (X := Int) [(0, _), (1, _), (2, _), (6, _), (7, _)] (.cons rfl (.cons rfl (.cons rfl (.cons rfl (.cons rfl (.nil)))))) (fun i => 0 ≤ i ∧ i ≤ wd) (fun i => (wd - i).toNat) (fun i => [(8, .int .u32 (fieldV x fr i)), (9, .int .i64 i)]) (0) (by omega) (.cons (by rw [fieldV_zero]; rfl) (.cons rfl .nil)) ?_
          rintro i ⟨i0, i1⟩ ih
          dsimp only [List.cons_append, List.nil_append] at ih ⊢
          have hfd := @field_bd x fr i
          refine g_seq ?_
          refine g_seq ?_
          refine g_region ?_
          refine l_move rfl rfl ?_
          refine l_move rfl rfl ?_
          refine l_lss rfl rfl rfl ?_
          refine l_nil ?_
          refine g_cond rfl ?_ ?_
          · intro hbr
            have hbr := of_decide_eq_true hbr
            refine g_skip ?_
            refine g_seq ?_
            refine g_block ?_
            refine g_region ?_
            refine l_move rfl rfl ?_
            refine l_move rfl rfl ?_
            refine l_move rfl rfl ?_
            refine l_move rfl rfl ?_
            first | refine l_add rfl rfl rfl (w_i64 (by omega) (by omega)) ?_ | refine l_addw rfl rfl rfl ?_
            refine l_call rfl Try.call78 rfl (rbit_ok _ _ x (by omega) (by omega) (fr + i) (by omega) (by omega)) ?_; rintro _ _ ⟨rfl, rfl⟩
            refine l_move rfl rfl ?_
            first | refine l_conv rfl Try.underlying3 Try.underlying30 rfl (w_u64 (by omega) (by omega)) ?_ | refine l_convm (m := 18446744073709551616) rfl wr_u64 Try.underlying3 Try.underlying30 rfl ?_
            have hbs := (bit_sh (x := x) (i := fr + i) (by omega) (by omega)).2 i (by omega) (by omega)
            refine l_shl (r := bitV x (fr + i) * 2 ^ i.toNat) rfl rfl rfl (by omega) (by rw [show min i.toNat IntKind.u32.bits = i.toNat from min32 (by omega)]; exact w_u32 (by omega) (by omega)) ?_
            refine l_orr (m := 32) (r := fieldV x fr (i + 1)) rfl rfl rfl rfl rfl (fld_step x0 (by omega) (by omega) (by omega)) ?_
            refine l_assign rfl rfl ?_
            refine l_nil ?_
            refine g_inBlock ?_
            refine g_region ?_
            refine l_move rfl rfl ?_
            first | refine l_add rfl rfl rfl (w_i64 (by omega) (by omega)) ?_ | refine l_addw rfl rfl rfl ?_
            refine l_assign rfl rfl ?_
            refine l_nil ?_
            exact g_againi (ih (i + 1) (by omega) (by omega)) (.cons rfl (.cons rfl (.cons rfl (.cons rfl (.cons rfl (.cons rfl (.cons rfl (.nil))))))))
          intro hbr
          have hbr := of_decide_eq_false hbr
          refine g_exit rfl ?_
          obtain rfl : i = wd := by omega
          refine g_seq ?_
          refine g_region ?_
          refine l_move rfl rfl ?_
          refine l_assign rfl rfl ?_
          refine l_assign rfl rfl ?_
          refine l_nil ?_
          refine g_ret Try.func52 rfl (.tmp rfl (.tmp rfl .nil)) ?_
          exact Gives.mki ⟨rfl, rfl⟩
        · intro hbr
          have hbr := of_decide_eq_false hbr
          (exfalso; omega)
      · intro hbr
        have hbr := of_decide_eq_false hbr
        (exfalso; omega)
    · intro hbr
      have hbr := of_decide_eq_false hbr
      (exfalso; omega)
  · intro hbr
    have hbr := of_decide_eq_false hbr
    (exfalso; omega)
theorem rfield_out (w0 : World) (F : List Atom) (x : Int) (x0 : 0 ≤ x) (x1 : x ≤ 4294967295) (fr : Int) (fr0 : -9223372036854775808 ≤ fr) (fr1 : fr ≤ 9223372036854775807) (wd : Int) (wd0 : -9223372036854775808 ≤ wd) (wd1 : wd ≤ 9223372036854775807) (ht : ¬ There fr wd) :
    CallK Try.prog 52 [.int .u32 x, .int .i64 fr, .int .i64 wd] w0 (F) (Gives w0 fun v F2 => v = .tuple #[.int .u32 0, .int .i64 10] ∧ F2 = F) := by
  unfold There at ht
  refine c_enter Try.func52 rfl rfl rfl ?_
  refine g_seq ?_
  refine g_region ?_
  refine l_assign rfl rfl ?_
  refine l_assign rfl rfl ?_
  refine l_nil ?_
  refine g_seq ?_
  refine g_seq ?_
  refine g_region ?_
  refine l_move rfl rfl ?_
  refine l_move rfl rfl ?_
  refine l_inl rfl Try.call77 rfl ?_
  refine c_enter Try.func77 rfl rfl rfl ?_
  refine g_seq ?_
  refine g_region ?_
  refine l_assign rfl rfl ?_
  refine l_nil ?_
  refine g_seq ?_
  refine g_region ?_
  refine l_move rfl rfl ?_
  refine l_geq rfl rfl rfl ?_
  refine l_move rfl rfl ?_
  refine l_split 7 rfl ?_ ?_
  · intro hbr
    have hbr := of_decide_eq_true hbr
    refine l_guard_yes rfl rfl ?_
    refine l_move rfl rfl ?_
    refine l_guard_yes rfl rfl ?_
    refine l_leq rfl rfl rfl ?_
    refine l_pick_t rfl rfl rfl ?_
    refine l_move rfl rfl ?_
    refine l_split 11 rfl ?_ ?_
    · intro hbr
      have hbr := of_decide_eq_true hbr
      refine l_guard_yes rfl rfl ?_
      refine l_move rfl rfl ?_
      refine l_guard_yes rfl rfl ?_
      refine l_geq rfl rfl rfl ?_
      refine l_pick_t rfl rfl rfl ?_
      refine l_move rfl rfl ?_
      refine l_split 15 rfl ?_ ?_
      · intro hbr
        have hbr := of_decide_eq_true hbr
        refine l_guard_yes rfl rfl ?_
        refine l_move rfl rfl ?_
        refine l_guard_yes rfl rfl ?_
        refine l_leq rfl rfl rfl ?_
        refine l_pick_t rfl rfl rfl ?_
        refine l_move rfl rfl ?_
        refine l_split 19 rfl ?_ ?_
        · intro hbr
          have hbr := of_decide_eq_true hbr
          refine l_guard_yes rfl rfl ?_
          refine l_move rfl rfl ?_
          refine l_guard_yes rfl rfl ?_
          refine l_move rfl rfl ?_
          refine l_guard_yes rfl rfl ?_
          first | refine l_add rfl rfl rfl (w_i64 (by omega) (by omega)) ?_ | refine l_addw rfl rfl rfl ?_
          refine l_guard_yes rfl rfl ?_
          refine l_leq rfl rfl rfl ?_
          refine l_pick_t rfl rfl rfl ?_
          refine l_assign rfl rfl ?_
          refine l_nil ?_
          refine g_ret Try.func77 rfl (.tmp rfl .nil) ?_
          first | refine ⟨.bool _, rfl, ?_⟩ | refine ⟨_, rfl, ?_⟩
          refine l_not rfl rfl ?_
          refine l_nil ?_
          refine g_cond rfl ?_ ?_
          · intro hbr
            have hbr := of_decide_eq_false (nb_t hbr)
            refine g_seq ?_
            refine g_region ?_
            refine l_assign rfl rfl ?_
            refine l_assign rfl rfl ?_
            refine l_nil ?_
            refine g_ret Try.func52 rfl (.tmp rfl (.tmp rfl .nil)) ?_
            exact Gives.mki ⟨rfl, rfl⟩
          · intro hbr
            have hbr := of_decide_eq_true (nb_f hbr)
            (exfalso; omega)
        intro hbr
        have hbr := of_decide_eq_false hbr
        refine l_guard_no rfl rfl rfl ?_
        refine l_guard_no rfl rfl rfl ?_
        refine l_guard_no rfl rfl rfl ?_
        refine l_guard_no rfl rfl rfl ?_
        refine l_pick_f rfl rfl rfl ?_
        refine l_assign rfl rfl ?_
        refine l_nil ?_
        refine g_ret Try.func77 rfl (.tmp rfl .nil) ?_
        first | refine ⟨.bool _, rfl, ?_⟩ | refine ⟨_, rfl, ?_⟩
        refine l_not rfl rfl ?_
        refine l_nil ?_
        first | refine g_cond_t rfl ?_ | refine g_cond_t (congrArg (fun b => some (Value.bool b)) (decide_eq_true hbr)) ?_
        refine g_seq ?_
        refine g_region ?_
        refine l_assign rfl rfl ?_
        refine l_assign rfl rfl ?_
        refine l_nil ?_
        refine g_ret Try.func52 rfl (.tmp rfl (.tmp rfl .nil)) ?_
        exact Gives.mki ⟨rfl, rfl⟩
      intro hbr
      have hbr := of_decide_eq_false hbr
      refine l_guard_no rfl rfl rfl ?_
      refine l_guard_no rfl rfl rfl ?_
      refine l_pick_f rfl rfl rfl ?_
      refine l_move rfl rfl ?_
      refine l_guard_no rfl rfl rfl ?_
      refine l_guard_no rfl rfl rfl ?_
      refine l_guard_no rfl rfl rfl ?_
      refine l_guard_no rfl rfl rfl ?_
      refine l_pick_f rfl rfl rfl ?_
      refine l_assign rfl rfl ?_
      refine l_nil ?_
      refine g_ret Try.func77 rfl (.tmp rfl .nil) ?_
      first | refine ⟨.bool _, rfl, ?_⟩ | refine ⟨_, rfl, ?_⟩
      refine l_not rfl rfl ?_
      refine l_nil ?_
      first | refine g_cond_t rfl ?_ | refine g_cond_t (congrArg (fun b => some (Value.bool b)) (decide_eq_true hbr)) ?_
      refine g_seq ?_
      refine g_region ?_
      refine l_assign rfl rfl ?_
      refine l_assign rfl rfl ?_
      refine l_nil ?_
      refine g_ret Try.func52 rfl (.tmp rfl (.tmp rfl .nil)) ?_
      exact Gives.mki ⟨rfl, rfl⟩
    intro hbr
    have hbr := of_decide_eq_false hbr
    refine l_guard_no rfl rfl rfl ?_
    refine l_guard_no rfl rfl rfl ?_
    refine l_pick_f rfl rfl rfl ?_
    refine l_move rfl rfl ?_
    refine l_guard_no rfl rfl rfl ?_
    refine l_guard_no rfl rfl rfl ?_
    refine l_pick_f rfl rfl rfl ?_
    refine l_move rfl rfl ?_
    refine l_guard_no rfl rfl rfl ?_
    refine l_guard_no rfl rfl rfl ?_
    refine l_guard_no rfl rfl rfl ?_
    refine l_guard_no rfl rfl rfl ?_
    refine l_pick_f rfl rfl rfl ?_
    refine l_assign rfl rfl ?_
    refine l_nil ?_
    refine g_ret Try.func77 rfl (.tmp rfl .nil) ?_
    first | refine ⟨.bool _, rfl, ?_⟩ | refine ⟨_, rfl, ?_⟩
    refine l_not rfl rfl ?_
    refine l_nil ?_
    first | refine g_cond_t rfl ?_ | refine g_cond_t (congrArg (fun b => some (Value.bool b)) (decide_eq_true hbr)) ?_
    refine g_seq ?_
    refine g_region ?_
    refine l_assign rfl rfl ?_
    refine l_assign rfl rfl ?_
    refine l_nil ?_
    refine g_ret Try.func52 rfl (.tmp rfl (.tmp rfl .nil)) ?_
    exact Gives.mki ⟨rfl, rfl⟩
  intro hbr
  have hbr := of_decide_eq_false hbr
  refine l_guard_no rfl rfl rfl ?_
  refine l_guard_no rfl rfl rfl ?_
  refine l_pick_f rfl rfl rfl ?_
  refine l_move rfl rfl ?_
  refine l_guard_no rfl rfl rfl ?_
  refine l_guard_no rfl rfl rfl ?_
  refine l_pick_f rfl rfl rfl ?_
  refine l_move rfl rfl ?_
  refine l_guard_no rfl rfl rfl ?_
  refine l_guard_no rfl rfl rfl ?_
  refine l_pick_f rfl rfl rfl ?_
  refine l_move rfl rfl ?_
  refine l_guard_no rfl rfl rfl ?_
  refine l_guard_no rfl rfl rfl ?_
  refine l_guard_no rfl rfl rfl ?_
  refine l_guard_no rfl rfl rfl ?_
  refine l_pick_f rfl rfl rfl ?_
  refine l_assign rfl rfl ?_
  refine l_nil ?_
  refine g_ret Try.func77 rfl (.tmp rfl .nil) ?_
  first | refine ⟨.bool _, rfl, ?_⟩ | refine ⟨_, rfl, ?_⟩
  refine l_not rfl rfl ?_
  refine l_nil ?_
  first | refine g_cond_t rfl ?_ | refine g_cond_t (congrArg (fun b => some (Value.bool b)) (decide_eq_true hbr)) ?_
  refine g_seq ?_
  refine g_region ?_
  refine l_assign rfl rfl ?_
  refine l_assign rfl rfl ?_
  refine l_nil ?_
  refine g_ret Try.func52 rfl (.tmp rfl (.tmp rfl .nil)) ?_
  exact Gives.mki ⟨rfl, rfl⟩
set_option maxHeartbeats 1000000 in
theorem rput_in (w0 : World) (F : List Atom) (x : Int) (x0 : 0 ≤ x) (x1 : x ≤ 4294967295) (fr : Int) (fr0 : -9223372036854775808 ≤ fr) (fr1 : fr ≤ 9223372036854775807) (wd : Int) (wd0 : -9223372036854775808 ≤ wd) (wd1 : wd ≤ 9223372036854775807) (v : Int) (v0 : 0 ≤ v) (v1 : v ≤ 4294967295) (ht : There fr wd) (hv : v < 2 ^ wd.toNat) :
    CallK Try.prog 53 [.int .u32 x, .int .i64 fr, .int .i64 wd, .int .u32 v] w0 (F) (Gives w0 fun v_ F2 => v_ = .tuple #[.int .u32 (putV x fr wd v), .int .i64 0] ∧ F2 = F) := by
  have ht2 := ht
  unfold There at ht2
  have hpw := pow_bd (k := wd.toNat) (by omega)
  refine c_enter Try.func53 rfl rfl rfl ?_
  refine g_seq ?_
  refine g_region ?_
  refine l_assign rfl rfl ?_
  refine l_assign rfl rfl ?_
  refine l_nil ?_
  refine g_seq ?_
  refine g_seq ?_
  refine g_region ?_
  refine l_move rfl rfl ?_
  refine l_move rfl rfl ?_
  refine l_inl rfl Try.call77 rfl ?_
  refine c_enter Try.func77 rfl rfl rfl ?_
  refine g_seq ?_
  refine g_region ?_
  refine l_assign rfl rfl ?_
  refine l_nil ?_
  refine g_seq ?_
  refine g_region ?_
  refine l_move rfl rfl ?_
  refine l_geq rfl rfl rfl ?_
  refine l_move rfl rfl ?_
  refine l_split 7 rfl ?_ ?_
  · intro hbr
    have hbr := of_decide_eq_true hbr
    refine l_guard_yes rfl rfl ?_
    refine l_move rfl rfl ?_
    refine l_guard_yes rfl rfl ?_
    refine l_leq rfl rfl rfl ?_
    refine l_pick_t rfl rfl rfl ?_
    refine l_move rfl rfl ?_
    refine l_split 11 rfl ?_ ?_
    · intro hbr
      have hbr := of_decide_eq_true hbr
      refine l_guard_yes rfl rfl ?_
      refine l_move rfl rfl ?_
      refine l_guard_yes rfl rfl ?_
      refine l_geq rfl rfl rfl ?_
      refine l_pick_t rfl rfl rfl ?_
      refine l_move rfl rfl ?_
      refine l_split 15 rfl ?_ ?_
      · intro hbr
        have hbr := of_decide_eq_true hbr
        refine l_guard_yes rfl rfl ?_
        refine l_move rfl rfl ?_
        refine l_guard_yes rfl rfl ?_
        refine l_leq rfl rfl rfl ?_
        refine l_pick_t rfl rfl rfl ?_
        refine l_move rfl rfl ?_
        refine l_split 19 rfl ?_ ?_
        · intro hbr
          have hbr := of_decide_eq_true hbr
          refine l_guard_yes rfl rfl ?_
          refine l_move rfl rfl ?_
          refine l_guard_yes rfl rfl ?_
          refine l_move rfl rfl ?_
          refine l_guard_yes rfl rfl ?_
          first | refine l_add rfl rfl rfl (w_i64 (by omega) (by omega)) ?_ | refine l_addw rfl rfl rfl ?_
          refine l_guard_yes rfl rfl ?_
          refine l_leq rfl rfl rfl ?_
          refine l_pick_t rfl rfl rfl ?_
          refine l_assign rfl rfl ?_
          refine l_nil ?_
          refine g_ret Try.func77 rfl (.tmp rfl .nil) ?_
          first | refine ⟨.bool _, rfl, ?_⟩ | refine ⟨_, rfl, ?_⟩
          refine l_not rfl rfl ?_
          refine l_nil ?_
          refine g_cond rfl ?_ ?_
          · intro hbr
            have hbr := of_decide_eq_false (nb_t hbr)
            (exfalso; omega)
          intro hbr
          have hbr := of_decide_eq_true (nb_f hbr)
          refine g_skip ?_
          refine g_seq ?_
          refine g_seq ?_
          refine g_region ?_
          refine l_move rfl rfl ?_
          first | refine l_conv rfl Try.underlying23 Try.underlying53 rfl (w_u64 (by omega) (by omega)) ?_ | refine l_convm (m := 18446744073709551616) rfl wr_u64 Try.underlying23 Try.underlying53 rfl ?_
          refine l_move rfl rfl ?_
          first | refine l_conv rfl Try.underlying3 Try.underlying30 rfl (w_u64 (by omega) (by omega)) ?_ | refine l_convm (m := 18446744073709551616) rfl wr_u64 Try.underlying3 Try.underlying30 rfl ?_
          refine l_shl (r := 2 ^ wd.toNat) rfl rfl rfl (by omega) (by rw [show min wd.toNat IntKind.u64.bits = wd.toNat from min64 (by omega), Int.one_mul]; exact w_u64 (by omega) (by omega)) ?_
          refine l_geq rfl rfl rfl ?_
          refine l_nil ?_
          refine g_cond rfl ?_ ?_
          · intro hbr
            have hbr := of_decide_eq_true hbr
            (exfalso; omega)
          intro hbr
          have hbr := of_decide_eq_false hbr
          refine g_skip ?_
          refine g_seq ?_
          refine g_region ?_
          refine l_assign rfl rfl ?_
          refine l_nil ?_
          refine g_seq ?_
          refine g_seq ?_
          refine g_region ?_
          refine l_assign rfl rfl ?_
          refine l_nil ?_
          refine g_block ?_
          have hpn := put_nn x fr wd v
          refine g_loopc (X := Int) [(0, _), (1, _), (2, _), (3, _), (8, _), (9, _)] (.cons rfl (.cons rfl (.cons rfl (.cons rfl (.cons rfl (.cons rfl (.nil))))))) (fun i => 0 ≤ i ∧ i ≤ 32) (fun i => (32 - i).toNat) (fun i => [(10, .int .u32 (lowP (putV x fr wd v) i)), (11, .int .i64 i)]) (0) (by omega) (.cons (by rw [lowP_zero]; rfl) (.cons rfl .nil)) ?_
          rintro i ⟨i0, i1⟩ ih
          dsimp only [List.cons_append, List.nil_append] at ih ⊢
          have hlp := lowP_bd (r := putV x fr wd v) i0 i1
          refine g_seq ?_
          refine g_seq ?_
          refine g_region ?_
          refine l_move rfl rfl ?_
          refine l_lss rfl rfl rfl ?_
          refine l_nil ?_
          refine g_cond rfl ?_ ?_
          · intro hbr
            have hbr := of_decide_eq_true hbr
            refine g_skip ?_
            refine g_seq ?_
            refine g_block ?_
            refine g_seq ?_
            refine g_region ?_
            refine l_move rfl rfl ?_
            refine l_move rfl rfl ?_
            refine l_call rfl Try.call78 rfl (rbit_ok _ _ x (by omega) (by omega) i (by omega) (by omega)) ?_; rintro _ _ ⟨rfl, rfl⟩
            refine l_assign rfl rfl ?_
            refine l_nil ?_
            refine g_seq ?_
            refine g_seq ?_
            refine g_region ?_
            refine l_move rfl rfl ?_
            refine l_move rfl rfl ?_
            refine l_geq rfl rfl rfl ?_
            refine l_move rfl rfl ?_
            refine l_split 33 rfl ?_ ?_
            · intro hbr
              have hbr := of_decide_eq_true hbr
              refine l_guard_yes rfl rfl ?_
              refine l_move rfl rfl ?_
              refine l_guard_yes rfl rfl ?_
              refine l_move rfl rfl ?_
              refine l_guard_yes rfl rfl ?_
              refine l_move rfl rfl ?_
              refine l_guard_yes rfl rfl ?_
              first | refine l_add rfl rfl rfl (w_i64 (by omega) (by omega)) ?_ | refine l_addw rfl rfl rfl ?_
              refine l_guard_yes rfl rfl ?_
              refine l_lss rfl rfl rfl ?_
              refine l_pick_t rfl rfl rfl ?_
              refine l_nil ?_
              refine g_cond rfl ?_ ?_
              · intro hbr
                have hbr := of_decide_eq_true hbr
                refine g_region ?_
                refine l_move rfl rfl ?_
                refine l_move rfl rfl ?_
                refine l_move rfl rfl ?_
                first | refine l_sub_ rfl rfl rfl (w_i64 (by omega) (by omega)) ?_ | refine l_subw rfl rfl rfl ?_
                refine l_call rfl Try.call78 rfl (rbit_ok _ _ v (by omega) (by omega) (i - fr) (by omega) (by omega)) ?_; rintro _ _ ⟨rfl, rfl⟩
                refine l_assign rfl rfl ?_
                refine l_nil ?_
                refine g_region ?_
                refine l_move rfl rfl ?_
                refine l_move rfl rfl ?_
                refine l_move rfl rfl ?_
                first | refine l_conv rfl Try.underlying3 Try.underlying30 rfl (w_u64 (by omega) (by omega)) ?_ | refine l_convm (m := 18446744073709551616) rfl wr_u64 Try.underlying3 Try.underlying30 rfl ?_
                have hbs := (bit_sh (x := v) (i := i - fr) (by omega) (by omega)).2 i (by omega) (by omega)
                refine l_shl (r := bitV v (i - fr) * 2 ^ i.toNat) rfl rfl rfl (by omega) (by rw [show min i.toNat IntKind.u32.bits = i.toNat from min32 (by omega)]; exact w_u32 (by omega) (by omega)) ?_
                have hpb := put_bit (x := x) (fr := fr) (wd := wd) (v := v) (i := i) (by omega) (by omega) (by omega) (by omega) (by omega) (by omega) (by omega)
                rw [if_pos (by omega)] at hpb
                refine l_orr (m := 32) (r := lowP (putV x fr wd v) (i + 1)) rfl rfl rfl rfl rfl (by rw [← hpb]; exact lowP_step hpn.1 (by omega) (by omega)) ?_
                refine l_assign rfl rfl ?_
                refine l_nil ?_
                refine g_inBlock ?_
                refine g_region ?_
                refine l_move rfl rfl ?_
                first | refine l_add rfl rfl rfl (w_i64 (by omega) (by omega)) ?_ | refine l_addw rfl rfl rfl ?_
                refine l_assign rfl rfl ?_
                refine l_nil ?_
                exact g_againi (ih (i + 1) (by omega) (by omega)) (.cons rfl (.cons rfl (.cons rfl (.cons rfl (.cons rfl (.cons rfl (.cons rfl (.cons rfl (.nil)))))))))
              intro hbr
              have hbr := of_decide_eq_false hbr
              refine g_skip ?_
              refine g_region ?_
              refine l_move rfl rfl ?_
              refine l_move rfl rfl ?_
              refine l_move rfl rfl ?_
              first | refine l_conv rfl Try.underlying3 Try.underlying30 rfl (w_u64 (by omega) (by omega)) ?_ | refine l_convm (m := 18446744073709551616) rfl wr_u64 Try.underlying3 Try.underlying30 rfl ?_
              have hbs := (bit_sh (x := x) (i := i) (by omega) (by omega)).2 i (by omega) (by omega)
              refine l_shl (r := bitV x i * 2 ^ i.toNat) rfl rfl rfl (by omega) (by rw [show min i.toNat IntKind.u32.bits = i.toNat from min32 (by omega)]; exact w_u32 (by omega) (by omega)) ?_
              have hpb := put_bit (x := x) (fr := fr) (wd := wd) (v := v) (i := i) (by omega) (by omega) (by omega) (by omega) (by omega) (by omega) (by omega)
              rw [if_neg (by omega)] at hpb
              refine l_orr (m := 32) (r := lowP (putV x fr wd v) (i + 1)) rfl rfl rfl rfl rfl (by rw [← hpb]; exact lowP_step hpn.1 (by omega) (by omega)) ?_
              refine l_assign rfl rfl ?_
              refine l_nil ?_
              refine g_inBlock ?_
              refine g_region ?_
              refine l_move rfl rfl ?_
              first | refine l_add rfl rfl rfl (w_i64 (by omega) (by omega)) ?_ | refine l_addw rfl rfl rfl ?_
              refine l_assign rfl rfl ?_
              refine l_nil ?_
              exact g_againi (ih (i + 1) (by omega) (by omega)) (.cons rfl (.cons rfl (.cons rfl (.cons rfl (.cons rfl (.cons rfl (.cons rfl (.cons rfl (.nil)))))))))
            intro hbr
            have hbr := of_decide_eq_false hbr
            refine l_guard_no rfl rfl rfl ?_
            refine l_guard_no rfl rfl rfl ?_
            refine l_guard_no rfl rfl rfl ?_
            refine l_guard_no rfl rfl rfl ?_
            refine l_guard_no rfl rfl rfl ?_
            refine l_pick_f rfl rfl rfl ?_
            refine l_nil ?_
            first | refine g_cond_f rfl ?_ | refine g_cond_f (congrArg (fun b => some (Value.bool b)) (decide_eq_false hbr)) ?_
            refine g_skip ?_
            refine g_region ?_
            refine l_move rfl rfl ?_
            refine l_move rfl rfl ?_
            refine l_move rfl rfl ?_
            first | refine l_conv rfl Try.underlying3 Try.underlying30 rfl (w_u64 (by omega) (by omega)) ?_ | refine l_convm (m := 18446744073709551616) rfl wr_u64 Try.underlying3 Try.underlying30 rfl ?_
            have hbs := (bit_sh (x := x) (i := i) (by omega) (by omega)).2 i (by omega) (by omega)
            refine l_shl (r := bitV x i * 2 ^ i.toNat) rfl rfl rfl (by omega) (by rw [show min i.toNat IntKind.u32.bits = i.toNat from min32 (by omega)]; exact w_u32 (by omega) (by omega)) ?_
            have hpb := put_bit (x := x) (fr := fr) (wd := wd) (v := v) (i := i) (by omega) (by omega) (by omega) (by omega) (by omega) (by omega) (by omega)
            rw [if_neg (by omega)] at hpb
            refine l_orr (m := 32) (r := lowP (putV x fr wd v) (i + 1)) rfl rfl rfl rfl rfl (by rw [← hpb]; exact lowP_step hpn.1 (by omega) (by omega)) ?_
            refine l_assign rfl rfl ?_
            refine l_nil ?_
            refine g_inBlock ?_
            refine g_region ?_
            refine l_move rfl rfl ?_
            first | refine l_add rfl rfl rfl (w_i64 (by omega) (by omega)) ?_ | refine l_addw rfl rfl rfl ?_
            refine l_assign rfl rfl ?_
            refine l_nil ?_
            exact g_againi (ih (i + 1) (by omega) (by omega)) (.cons rfl (.cons rfl (.cons rfl (.cons rfl (.cons rfl (.cons rfl (.cons rfl (.cons rfl (.nil)))))))))
          intro hbr
          have hbr := of_decide_eq_false hbr
          refine g_exit rfl ?_
          obtain rfl : i = 32 := by omega
          rw [lowP_all hpn.1 hpn.2]
          refine g_seq ?_
          refine g_region ?_
          refine l_move rfl rfl ?_
          refine l_assign rfl rfl ?_
          refine l_assign rfl rfl ?_
          refine l_nil ?_
          refine g_ret Try.func53 rfl (.tmp rfl (.tmp rfl .nil)) ?_
          exact Gives.mki ⟨rfl, rfl⟩
        · intro hbr
          have hbr := of_decide_eq_false hbr
          (exfalso; omega)
      · intro hbr
        have hbr := of_decide_eq_false hbr
        (exfalso; omega)
    · intro hbr
      have hbr := of_decide_eq_false hbr
      (exfalso; omega)
  · intro hbr
    have hbr := of_decide_eq_false hbr
    (exfalso; omega)
theorem rput_out (w0 : World) (F : List Atom) (x : Int) (x0 : 0 ≤ x) (x1 : x ≤ 4294967295) (fr : Int) (fr0 : -9223372036854775808 ≤ fr) (fr1 : fr ≤ 9223372036854775807) (wd : Int) (wd0 : -9223372036854775808 ≤ wd) (wd1 : wd ≤ 9223372036854775807) (v : Int) (v0 : 0 ≤ v) (v1 : v ≤ 4294967295) (ht : ¬ There fr wd) :
    CallK Try.prog 53 [.int .u32 x, .int .i64 fr, .int .i64 wd, .int .u32 v] w0 (F) (Gives w0 fun v_ F2 => v_ = .tuple #[.int .u32 0, .int .i64 10] ∧ F2 = F) := by
  unfold There at ht
  refine c_enter Try.func53 rfl rfl rfl ?_
  refine g_seq ?_
  refine g_region ?_
  refine l_assign rfl rfl ?_
  refine l_assign rfl rfl ?_
  refine l_nil ?_
  refine g_seq ?_
  refine g_seq ?_
  refine g_region ?_
  refine l_move rfl rfl ?_
  refine l_move rfl rfl ?_
  refine l_inl rfl Try.call77 rfl ?_
  refine c_enter Try.func77 rfl rfl rfl ?_
  refine g_seq ?_
  refine g_region ?_
  refine l_assign rfl rfl ?_
  refine l_nil ?_
  refine g_seq ?_
  refine g_region ?_
  refine l_move rfl rfl ?_
  refine l_geq rfl rfl rfl ?_
  refine l_move rfl rfl ?_
  refine l_split 7 rfl ?_ ?_
  · intro hbr
    have hbr := of_decide_eq_true hbr
    refine l_guard_yes rfl rfl ?_
    refine l_move rfl rfl ?_
    refine l_guard_yes rfl rfl ?_
    refine l_leq rfl rfl rfl ?_
    refine l_pick_t rfl rfl rfl ?_
    refine l_move rfl rfl ?_
    refine l_split 11 rfl ?_ ?_
    · intro hbr
      have hbr := of_decide_eq_true hbr
      refine l_guard_yes rfl rfl ?_
      refine l_move rfl rfl ?_
      refine l_guard_yes rfl rfl ?_
      refine l_geq rfl rfl rfl ?_
      refine l_pick_t rfl rfl rfl ?_
      refine l_move rfl rfl ?_
      refine l_split 15 rfl ?_ ?_
      · intro hbr
        have hbr := of_decide_eq_true hbr
        refine l_guard_yes rfl rfl ?_
        refine l_move rfl rfl ?_
        refine l_guard_yes rfl rfl ?_
        refine l_leq rfl rfl rfl ?_
        refine l_pick_t rfl rfl rfl ?_
        refine l_move rfl rfl ?_
        refine l_split 19 rfl ?_ ?_
        · intro hbr
          have hbr := of_decide_eq_true hbr
          refine l_guard_yes rfl rfl ?_
          refine l_move rfl rfl ?_
          refine l_guard_yes rfl rfl ?_
          refine l_move rfl rfl ?_
          refine l_guard_yes rfl rfl ?_
          first | refine l_add rfl rfl rfl (w_i64 (by omega) (by omega)) ?_ | refine l_addw rfl rfl rfl ?_
          refine l_guard_yes rfl rfl ?_
          refine l_leq rfl rfl rfl ?_
          refine l_pick_t rfl rfl rfl ?_
          refine l_assign rfl rfl ?_
          refine l_nil ?_
          refine g_ret Try.func77 rfl (.tmp rfl .nil) ?_
          first | refine ⟨.bool _, rfl, ?_⟩ | refine ⟨_, rfl, ?_⟩
          refine l_not rfl rfl ?_
          refine l_nil ?_
          refine g_cond rfl ?_ ?_
          · intro hbr
            have hbr := of_decide_eq_false (nb_t hbr)
            refine g_seq ?_
            refine g_region ?_
            refine l_assign rfl rfl ?_
            refine l_assign rfl rfl ?_
            refine l_nil ?_
            refine g_ret Try.func53 rfl (.tmp rfl (.tmp rfl .nil)) ?_
            exact Gives.mki ⟨rfl, rfl⟩
          · intro hbr
            have hbr := of_decide_eq_true (nb_f hbr)
            (exfalso; omega)
        intro hbr
        have hbr := of_decide_eq_false hbr
        refine l_guard_no rfl rfl rfl ?_
        refine l_guard_no rfl rfl rfl ?_
        refine l_guard_no rfl rfl rfl ?_
        refine l_guard_no rfl rfl rfl ?_
        refine l_pick_f rfl rfl rfl ?_
        refine l_assign rfl rfl ?_
        refine l_nil ?_
        refine g_ret Try.func77 rfl (.tmp rfl .nil) ?_
        first | refine ⟨.bool _, rfl, ?_⟩ | refine ⟨_, rfl, ?_⟩
        refine l_not rfl rfl ?_
        refine l_nil ?_
        first | refine g_cond_t rfl ?_ | refine g_cond_t (congrArg (fun b => some (Value.bool b)) (decide_eq_true hbr)) ?_
        refine g_seq ?_
        refine g_region ?_
        refine l_assign rfl rfl ?_
        refine l_assign rfl rfl ?_
        refine l_nil ?_
        refine g_ret Try.func53 rfl (.tmp rfl (.tmp rfl .nil)) ?_
        exact Gives.mki ⟨rfl, rfl⟩
      intro hbr
      have hbr := of_decide_eq_false hbr
      refine l_guard_no rfl rfl rfl ?_
      refine l_guard_no rfl rfl rfl ?_
      refine l_pick_f rfl rfl rfl ?_
      refine l_move rfl rfl ?_
      refine l_guard_no rfl rfl rfl ?_
      refine l_guard_no rfl rfl rfl ?_
      refine l_guard_no rfl rfl rfl ?_
      refine l_guard_no rfl rfl rfl ?_
      refine l_pick_f rfl rfl rfl ?_
      refine l_assign rfl rfl ?_
      refine l_nil ?_
      refine g_ret Try.func77 rfl (.tmp rfl .nil) ?_
      first | refine ⟨.bool _, rfl, ?_⟩ | refine ⟨_, rfl, ?_⟩
      refine l_not rfl rfl ?_
      refine l_nil ?_
      first | refine g_cond_t rfl ?_ | refine g_cond_t (congrArg (fun b => some (Value.bool b)) (decide_eq_true hbr)) ?_
      refine g_seq ?_
      refine g_region ?_
      refine l_assign rfl rfl ?_
      refine l_assign rfl rfl ?_
      refine l_nil ?_
      refine g_ret Try.func53 rfl (.tmp rfl (.tmp rfl .nil)) ?_
      exact Gives.mki ⟨rfl, rfl⟩
    intro hbr
    have hbr := of_decide_eq_false hbr
    refine l_guard_no rfl rfl rfl ?_
    refine l_guard_no rfl rfl rfl ?_
    refine l_pick_f rfl rfl rfl ?_
    refine l_move rfl rfl ?_
    refine l_guard_no rfl rfl rfl ?_
    refine l_guard_no rfl rfl rfl ?_
    refine l_pick_f rfl rfl rfl ?_
    refine l_move rfl rfl ?_
    refine l_guard_no rfl rfl rfl ?_
    refine l_guard_no rfl rfl rfl ?_
    refine l_guard_no rfl rfl rfl ?_
    refine l_guard_no rfl rfl rfl ?_
    refine l_pick_f rfl rfl rfl ?_
    refine l_assign rfl rfl ?_
    refine l_nil ?_
    refine g_ret Try.func77 rfl (.tmp rfl .nil) ?_
    first | refine ⟨.bool _, rfl, ?_⟩ | refine ⟨_, rfl, ?_⟩
    refine l_not rfl rfl ?_
    refine l_nil ?_
    first | refine g_cond_t rfl ?_ | refine g_cond_t (congrArg (fun b => some (Value.bool b)) (decide_eq_true hbr)) ?_
    refine g_seq ?_
    refine g_region ?_
    refine l_assign rfl rfl ?_
    refine l_assign rfl rfl ?_
    refine l_nil ?_
    refine g_ret Try.func53 rfl (.tmp rfl (.tmp rfl .nil)) ?_
    exact Gives.mki ⟨rfl, rfl⟩
  intro hbr
  have hbr := of_decide_eq_false hbr
  refine l_guard_no rfl rfl rfl ?_
  refine l_guard_no rfl rfl rfl ?_
  refine l_pick_f rfl rfl rfl ?_
  refine l_move rfl rfl ?_
  refine l_guard_no rfl rfl rfl ?_
  refine l_guard_no rfl rfl rfl ?_
  refine l_pick_f rfl rfl rfl ?_
  refine l_move rfl rfl ?_
  refine l_guard_no rfl rfl rfl ?_
  refine l_guard_no rfl rfl rfl ?_
  refine l_pick_f rfl rfl rfl ?_
  refine l_move rfl rfl ?_
  refine l_guard_no rfl rfl rfl ?_
  refine l_guard_no rfl rfl rfl ?_
  refine l_guard_no rfl rfl rfl ?_
  refine l_guard_no rfl rfl rfl ?_
  refine l_pick_f rfl rfl rfl ?_
  refine l_assign rfl rfl ?_
  refine l_nil ?_
  refine g_ret Try.func77 rfl (.tmp rfl .nil) ?_
  first | refine ⟨.bool _, rfl, ?_⟩ | refine ⟨_, rfl, ?_⟩
  refine l_not rfl rfl ?_
  refine l_nil ?_
  first | refine g_cond_t rfl ?_ | refine g_cond_t (congrArg (fun b => some (Value.bool b)) (decide_eq_true hbr)) ?_
  refine g_seq ?_
  refine g_region ?_
  refine l_assign rfl rfl ?_
  refine l_assign rfl rfl ?_
  refine l_nil ?_
  refine g_ret Try.func53 rfl (.tmp rfl (.tmp rfl .nil)) ?_
  exact Gives.mki ⟨rfl, rfl⟩
theorem rput_big (w0 : World) (F : List Atom) (x : Int) (x0 : 0 ≤ x) (x1 : x ≤ 4294967295) (fr : Int) (fr0 : -9223372036854775808 ≤ fr) (fr1 : fr ≤ 9223372036854775807) (wd : Int) (wd0 : -9223372036854775808 ≤ wd) (wd1 : wd ≤ 9223372036854775807) (v : Int) (v0 : 0 ≤ v) (v1 : v ≤ 4294967295) (ht : There fr wd) (hv : 2 ^ wd.toNat ≤ v) :
    CallK Try.prog 53 [.int .u32 x, .int .i64 fr, .int .i64 wd, .int .u32 v] w0 (F) (Gives w0 fun v_ F2 => v_ = .tuple #[.int .u32 0, .int .i64 11] ∧ F2 = F) := by
  have ht2 := ht
  unfold There at ht2
  have hpw := pow_bd (k := wd.toNat) (by omega)
  refine c_enter Try.func53 rfl rfl rfl ?_
  refine g_seq ?_
  refine g_region ?_
  refine l_assign rfl rfl ?_
  refine l_assign rfl rfl ?_
  refine l_nil ?_
  refine g_seq ?_
  refine g_seq ?_
  refine g_region ?_
  refine l_move rfl rfl ?_
  refine l_move rfl rfl ?_
  refine l_inl rfl Try.call77 rfl ?_
  refine c_enter Try.func77 rfl rfl rfl ?_
  refine g_seq ?_
  refine g_region ?_
  refine l_assign rfl rfl ?_
  refine l_nil ?_
  refine g_seq ?_
  refine g_region ?_
  refine l_move rfl rfl ?_
  refine l_geq rfl rfl rfl ?_
  refine l_move rfl rfl ?_
  refine l_split 7 rfl ?_ ?_
  · intro hbr
    have hbr := of_decide_eq_true hbr
    refine l_guard_yes rfl rfl ?_
    refine l_move rfl rfl ?_
    refine l_guard_yes rfl rfl ?_
    refine l_leq rfl rfl rfl ?_
    refine l_pick_t rfl rfl rfl ?_
    refine l_move rfl rfl ?_
    refine l_split 11 rfl ?_ ?_
    · intro hbr
      have hbr := of_decide_eq_true hbr
      refine l_guard_yes rfl rfl ?_
      refine l_move rfl rfl ?_
      refine l_guard_yes rfl rfl ?_
      refine l_geq rfl rfl rfl ?_
      refine l_pick_t rfl rfl rfl ?_
      refine l_move rfl rfl ?_
      refine l_split 15 rfl ?_ ?_
      · intro hbr
        have hbr := of_decide_eq_true hbr
        refine l_guard_yes rfl rfl ?_
        refine l_move rfl rfl ?_
        refine l_guard_yes rfl rfl ?_
        refine l_leq rfl rfl rfl ?_
        refine l_pick_t rfl rfl rfl ?_
        refine l_move rfl rfl ?_
        refine l_split 19 rfl ?_ ?_
        · intro hbr
          have hbr := of_decide_eq_true hbr
          refine l_guard_yes rfl rfl ?_
          refine l_move rfl rfl ?_
          refine l_guard_yes rfl rfl ?_
          refine l_move rfl rfl ?_
          refine l_guard_yes rfl rfl ?_
          first | refine l_add rfl rfl rfl (w_i64 (by omega) (by omega)) ?_ | refine l_addw rfl rfl rfl ?_
          refine l_guard_yes rfl rfl ?_
          refine l_leq rfl rfl rfl ?_
          refine l_pick_t rfl rfl rfl ?_
          refine l_assign rfl rfl ?_
          refine l_nil ?_
          refine g_ret Try.func77 rfl (.tmp rfl .nil) ?_
          first | refine ⟨.bool _, rfl, ?_⟩ | refine ⟨_, rfl, ?_⟩
          refine l_not rfl rfl ?_
          refine l_nil ?_
          refine g_cond rfl ?_ ?_
          · intro hbr
            have hbr := of_decide_eq_false (nb_t hbr)
            (exfalso; omega)
          intro hbr
          have hbr := of_decide_eq_true (nb_f hbr)
          refine g_skip ?_
          refine g_seq ?_
          refine g_seq ?_
          refine g_region ?_
          refine l_move rfl rfl ?_
          first | refine l_conv rfl Try.underlying23 Try.underlying53 rfl (w_u64 (by omega) (by omega)) ?_ | refine l_convm (m := 18446744073709551616) rfl wr_u64 Try.underlying23 Try.underlying53 rfl ?_
          refine l_move rfl rfl ?_
          first | refine l_conv rfl Try.underlying3 Try.underlying30 rfl (w_u64 (by omega) (by omega)) ?_ | refine l_convm (m := 18446744073709551616) rfl wr_u64 Try.underlying3 Try.underlying30 rfl ?_
          refine l_shl (r := 2 ^ wd.toNat) rfl rfl rfl (by omega) (by rw [show min wd.toNat IntKind.u64.bits = wd.toNat from min64 (by omega), Int.one_mul]; exact w_u64 (by omega) (by omega)) ?_
          refine l_geq rfl rfl rfl ?_
          refine l_nil ?_
          refine g_cond rfl ?_ ?_
          · intro hbr
            have hbr := of_decide_eq_true hbr
            refine g_seq ?_
            refine g_region ?_
            refine l_assign rfl rfl ?_
            refine l_assign rfl rfl ?_
            refine l_nil ?_
            refine g_ret Try.func53 rfl (.tmp rfl (.tmp rfl .nil)) ?_
            exact Gives.mki ⟨rfl, rfl⟩
          · intro hbr
            have hbr := of_decide_eq_false hbr
            (exfalso; omega)
        · intro hbr
          have hbr := of_decide_eq_false hbr
          (exfalso; omega)
      · intro hbr
        have hbr := of_decide_eq_false hbr
        (exfalso; omega)
    · intro hbr
      have hbr := of_decide_eq_false hbr
      (exfalso; omega)
  · intro hbr
    have hbr := of_decide_eq_false hbr
    (exfalso; omega)
theorem rsigned_in (w0 : World) (F : List Atom) (v : Int) (v0 : 0 ≤ v) (v1 : v ≤ 4294967295) (wd : Int) (wd0 : -9223372036854775808 ≤ wd) (wd1 : wd ≤ 9223372036854775807) (ht : 1 ≤ wd ∧ wd ≤ 32) (hv : v < 2 ^ wd.toNat) :
    CallK Try.prog 54 [.int .u32 v, .int .i64 wd] w0 (F) (Gives w0 fun v_ F2 => v_ = .tuple #[.int .i64 (signedV v wd), .int .i64 0] ∧ F2 = F) := by
  have hpw := pow_bd (k := wd.toNat) (by omega)
  have hph := pow_bd (k := (wd - 1).toNat) (by omega)
  have hhp := half_pow (wd := wd) (by omega)
  refine c_enter Try.func54 rfl rfl rfl ?_
  refine g_seq ?_
  refine g_region ?_
  refine l_assign rfl rfl ?_
  refine l_assign rfl rfl ?_
  refine l_nil ?_
  refine g_seq ?_
  refine g_seq ?_
  refine g_region ?_
  refine l_move rfl rfl ?_
  refine l_lss rfl rfl rfl ?_
  refine l_move rfl rfl ?_
  refine l_split 10 rfl ?_ ?_
  · intro hbr
    have hbr := of_decide_eq_true hbr
    (exfalso; omega)
  intro hbr
  have hbr := of_decide_eq_false hbr
  refine l_guard_yes rfl rfl ?_
  refine l_move rfl rfl ?_
  refine l_guard_yes rfl rfl ?_
  refine l_gtr rfl rfl rfl ?_
  refine l_pick_f rfl rfl rfl ?_
  refine l_nil ?_
  refine g_cond rfl ?_ ?_
  · intro hbr
    have hbr := of_decide_eq_true hbr
    (exfalso; omega)
  intro hbr
  have hbr := of_decide_eq_false hbr
  refine g_skip ?_
  refine g_seq ?_
  refine g_region ?_
  refine l_move rfl rfl ?_
  first | refine l_conv rfl Try.underlying3 Try.underlying30 rfl (w_u64 (by omega) (by omega)) ?_ | refine l_convm (m := 18446744073709551616) rfl wr_u64 Try.underlying3 Try.underlying30 rfl ?_
  refine l_shl (r := 2 ^ wd.toNat) rfl rfl rfl (by omega) (by rw [show min wd.toNat IntKind.i64.bits = wd.toNat from min64 (by omega), Int.one_mul]; exact w_i64 (by omega) (by omega)) ?_
  refine l_assign rfl rfl ?_
  refine l_nil ?_
  refine g_seq ?_
  refine g_region ?_
  refine l_move rfl rfl ?_
  first | refine l_conv rfl Try.underlying23 Try.underlying3 rfl (w_i64 (by omega) (by omega)) ?_ | refine l_convw rfl Try.underlying23 Try.underlying3 rfl ?_
  refine l_assign rfl rfl ?_
  refine l_nil ?_
  refine g_seq ?_
  refine g_seq ?_
  refine g_region ?_
  refine l_move rfl rfl ?_
  refine l_move rfl rfl ?_
  refine l_geq rfl rfl rfl ?_
  refine l_nil ?_
  refine g_cond rfl ?_ ?_
  · intro hbr
    have hbr := of_decide_eq_true hbr
    (exfalso; omega)
  intro hbr
  have hbr := of_decide_eq_false hbr
  refine g_skip ?_
  refine g_seq ?_
  refine g_seq ?_
  refine g_region ?_
  refine l_move rfl rfl ?_
  refine l_move rfl rfl ?_
  refine l_quo rfl rfl rfl (by omega) (by omega) (w_i64 (by omega) (by omega)) ?_
  refine l_geq rfl rfl rfl ?_
  refine l_nil ?_
  refine g_cond rfl ?_ ?_
  · intro hbr
    have hbr := of_decide_eq_true hbr
    refine g_region ?_
    refine l_move rfl rfl ?_
    refine l_move rfl rfl ?_
    first | refine l_sub_ rfl rfl rfl (w_i64 (by omega) (by omega)) ?_ | refine l_subw rfl rfl rfl ?_
    refine l_assign rfl rfl ?_
    refine l_nil ?_
    refine g_seq ?_
    refine g_region ?_
    refine l_move rfl rfl ?_
    refine l_assign rfl rfl ?_
    refine l_assign rfl rfl ?_
    refine l_nil ?_
    refine g_ret Try.func54 rfl (.tmp rfl (.tmp rfl .nil)) ?_
    (first | exact Gives.mki ⟨by rw [show signedV v wd = v by unfold signedV; rw [if_pos (by omega)]]; rfl, rfl⟩ | exact Gives.mki ⟨by rw [show signedV v wd = v - 2 ^ wd.toNat by unfold signedV; rw [if_neg (by omega)]]; rfl, rfl⟩)
  intro hbr
  have hbr := of_decide_eq_false hbr
  refine g_skip ?_
  refine g_seq ?_
  refine g_region ?_
  refine l_move rfl rfl ?_
  refine l_assign rfl rfl ?_
  refine l_assign rfl rfl ?_
  refine l_nil ?_
  refine g_ret Try.func54 rfl (.tmp rfl (.tmp rfl .nil)) ?_
  (first | exact Gives.mki ⟨by rw [show signedV v wd = v by unfold signedV; rw [if_pos (by omega)]]; rfl, rfl⟩ | exact Gives.mki ⟨by rw [show signedV v wd = v - 2 ^ wd.toNat by unfold signedV; rw [if_neg (by omega)]]; rfl, rfl⟩)
theorem rsigned_out (w0 : World) (F : List Atom) (v : Int) (v0 : 0 ≤ v) (v1 : v ≤ 4294967295) (wd : Int) (wd0 : -9223372036854775808 ≤ wd) (wd1 : wd ≤ 9223372036854775807) (ht : ¬ (1 ≤ wd ∧ wd ≤ 32)) :
    CallK Try.prog 54 [.int .u32 v, .int .i64 wd] w0 (F) (Gives w0 fun v_ F2 => v_ = .tuple #[.int .i64 0, .int .i64 10] ∧ F2 = F) := by
  refine c_enter Try.func54 rfl rfl rfl ?_
  refine g_seq ?_
  refine g_region ?_
  refine l_assign rfl rfl ?_
  refine l_assign rfl rfl ?_
  refine l_nil ?_
  refine g_seq ?_
  refine g_seq ?_
  refine g_region ?_
  refine l_move rfl rfl ?_
  refine l_lss rfl rfl rfl ?_
  refine l_move rfl rfl ?_
  refine l_split 10 rfl ?_ ?_
  · intro hbr
    have hbr := of_decide_eq_true hbr
    refine l_guard_no rfl rfl rfl ?_
    refine l_guard_no rfl rfl rfl ?_
    refine l_pick_t rfl rfl rfl ?_
    refine l_nil ?_
    first | refine g_cond_t rfl ?_ | refine g_cond_t (congrArg (fun b => some (Value.bool b)) (decide_eq_true hbr)) ?_
    refine g_seq ?_
    refine g_region ?_
    refine l_assign rfl rfl ?_
    refine l_assign rfl rfl ?_
    refine l_nil ?_
    refine g_ret Try.func54 rfl (.tmp rfl (.tmp rfl .nil)) ?_
    exact Gives.mki ⟨rfl, rfl⟩
  intro hbr
  have hbr := of_decide_eq_false hbr
  refine l_guard_yes rfl rfl ?_
  refine l_move rfl rfl ?_
  refine l_guard_yes rfl rfl ?_
  refine l_gtr rfl rfl rfl ?_
  refine l_pick_f rfl rfl rfl ?_
  refine l_nil ?_
  refine g_cond rfl ?_ ?_
  · intro hbr
    have hbr := of_decide_eq_true hbr
    refine g_seq ?_
    refine g_region ?_
    refine l_assign rfl rfl ?_
    refine l_assign rfl rfl ?_
    refine l_nil ?_
    refine g_ret Try.func54 rfl (.tmp rfl (.tmp rfl .nil)) ?_
    exact Gives.mki ⟨rfl, rfl⟩
  · intro hbr
    have hbr := of_decide_eq_false hbr
    (exfalso; omega)
theorem rsigned_big (w0 : World) (F : List Atom) (v : Int) (v0 : 0 ≤ v) (v1 : v ≤ 4294967295) (wd : Int) (wd0 : -9223372036854775808 ≤ wd) (wd1 : wd ≤ 9223372036854775807) (ht : 1 ≤ wd ∧ wd ≤ 32) (hv : 2 ^ wd.toNat ≤ v) :
    CallK Try.prog 54 [.int .u32 v, .int .i64 wd] w0 (F) (Gives w0 fun v_ F2 => v_ = .tuple #[.int .i64 0, .int .i64 11] ∧ F2 = F) := by
  have hpw := pow_bd (k := wd.toNat) (by omega)
  have hph := pow_bd (k := (wd - 1).toNat) (by omega)
  have hhp := half_pow (wd := wd) (by omega)
  refine c_enter Try.func54 rfl rfl rfl ?_
  refine g_seq ?_
  refine g_region ?_
  refine l_assign rfl rfl ?_
  refine l_assign rfl rfl ?_
  refine l_nil ?_
  refine g_seq ?_
  refine g_seq ?_
  refine g_region ?_
  refine l_move rfl rfl ?_
  refine l_lss rfl rfl rfl ?_
  refine l_move rfl rfl ?_
  refine l_split 10 rfl ?_ ?_
  · intro hbr
    have hbr := of_decide_eq_true hbr
    (exfalso; omega)
  intro hbr
  have hbr := of_decide_eq_false hbr
  refine l_guard_yes rfl rfl ?_
  refine l_move rfl rfl ?_
  refine l_guard_yes rfl rfl ?_
  refine l_gtr rfl rfl rfl ?_
  refine l_pick_f rfl rfl rfl ?_
  refine l_nil ?_
  refine g_cond rfl ?_ ?_
  · intro hbr
    have hbr := of_decide_eq_true hbr
    (exfalso; omega)
  intro hbr
  have hbr := of_decide_eq_false hbr
  refine g_skip ?_
  refine g_seq ?_
  refine g_region ?_
  refine l_move rfl rfl ?_
  first | refine l_conv rfl Try.underlying3 Try.underlying30 rfl (w_u64 (by omega) (by omega)) ?_ | refine l_convm (m := 18446744073709551616) rfl wr_u64 Try.underlying3 Try.underlying30 rfl ?_
  refine l_shl (r := 2 ^ wd.toNat) rfl rfl rfl (by omega) (by rw [show min wd.toNat IntKind.i64.bits = wd.toNat from min64 (by omega), Int.one_mul]; exact w_i64 (by omega) (by omega)) ?_
  refine l_assign rfl rfl ?_
  refine l_nil ?_
  refine g_seq ?_
  refine g_region ?_
  refine l_move rfl rfl ?_
  first | refine l_conv rfl Try.underlying23 Try.underlying3 rfl (w_i64 (by omega) (by omega)) ?_ | refine l_convw rfl Try.underlying23 Try.underlying3 rfl ?_
  refine l_assign rfl rfl ?_
  refine l_nil ?_
  refine g_seq ?_
  refine g_seq ?_
  refine g_region ?_
  refine l_move rfl rfl ?_
  refine l_move rfl rfl ?_
  refine l_geq rfl rfl rfl ?_
  refine l_nil ?_
  refine g_cond rfl ?_ ?_
  · intro hbr
    have hbr := of_decide_eq_true hbr
    refine g_seq ?_
    refine g_region ?_
    refine l_assign rfl rfl ?_
    refine l_assign rfl rfl ?_
    refine l_nil ?_
    refine g_ret Try.func54 rfl (.tmp rfl (.tmp rfl .nil)) ?_
    exact Gives.mki ⟨rfl, rfl⟩
  · intro hbr
    have hbr := of_decide_eq_false hbr
    (exfalso; omega)
theorem unsV_pos {n wd : Int} (h0 : 0 ≤ n) (h : n < 2 ^ wd.toNat) : unsignedV n wd = n := by unfold unsignedV; exact Int.emod_eq_of_lt h0 h
theorem unsV_neg {n wd : Int} (h0 : n < 0) (h : -(2 ^ wd.toNat) ≤ n) : unsignedV n wd = n + 2 ^ wd.toNat := by
  unfold unsignedV
  rw [← Int.add_emod_right]
  exact Int.emod_eq_of_lt (by omega) (by omega)
theorem runsigned_in (w0 : World) (F : List Atom) (n : Int) (n0 : -9223372036854775808 ≤ n) (n1 : n ≤ 9223372036854775807) (wd : Int) (wd0 : -9223372036854775808 ≤ wd) (wd1 : wd ≤ 9223372036854775807) (ht : 1 ≤ wd ∧ wd ≤ 32) (ha : -(2 ^ (wd - 1).toNat) ≤ n) (hb : n < 2 ^ (wd - 1).toNat) :
    CallK Try.prog 55 [.int .i64 n, .int .i64 wd] w0 (F) (Gives w0 fun v_ F2 => v_ = .tuple #[.int .u32 (unsignedV n wd), .int .i64 0] ∧ F2 = F) := by
  have hpw := pow_bd (k := wd.toNat) (by omega)
  have hph := pow_bd (k := (wd - 1).toNat) (by omega)
  have hhp := half_pow (wd := wd) (by omega)
  refine c_enter Try.func55 rfl rfl rfl ?_
  refine g_seq ?_
  refine g_region ?_
  refine l_assign rfl rfl ?_
  refine l_assign rfl rfl ?_
  refine l_nil ?_
  refine g_seq ?_
  refine g_seq ?_
  refine g_region ?_
  refine l_move rfl rfl ?_
  refine l_lss rfl rfl rfl ?_
  refine l_move rfl rfl ?_
  refine l_split 9 rfl ?_ ?_
  · intro hbr
    have hbr := of_decide_eq_true hbr
    (exfalso; omega)
  intro hbr
  have hbr := of_decide_eq_false hbr
  refine l_guard_yes rfl rfl ?_
  refine l_move rfl rfl ?_
  refine l_guard_yes rfl rfl ?_
  refine l_gtr rfl rfl rfl ?_
  refine l_pick_f rfl rfl rfl ?_
  refine l_nil ?_
  refine g_cond rfl ?_ ?_
  · intro hbr
    have hbr := of_decide_eq_true hbr
    (exfalso; omega)
  intro hbr
  have hbr := of_decide_eq_false hbr
  refine g_skip ?_
  refine g_seq ?_
  refine g_region ?_
  refine l_move rfl rfl ?_
  first | refine l_conv rfl Try.underlying3 Try.underlying30 rfl (w_u64 (by omega) (by omega)) ?_ | refine l_convm (m := 18446744073709551616) rfl wr_u64 Try.underlying3 Try.underlying30 rfl ?_
  refine l_shl (r := 2 ^ wd.toNat) rfl rfl rfl (by omega) (by rw [show min wd.toNat IntKind.i64.bits = wd.toNat from min64 (by omega), Int.one_mul]; exact w_i64 (by omega) (by omega)) ?_
  refine l_assign rfl rfl ?_
  refine l_nil ?_
  refine g_seq ?_
  refine g_seq ?_
  refine g_region ?_
  refine l_move rfl rfl ?_
  refine l_move rfl rfl ?_
  refine l_quo rfl rfl rfl (by omega) (by omega) (w_i64 (by omega) (by omega)) ?_
  refine l_neg rfl rfl (w_i64 (by omega) (by omega)) ?_
  refine l_lss rfl rfl rfl ?_
  refine l_move rfl rfl ?_
  refine l_split 21 rfl ?_ ?_
  · intro hbr
    have hbr := of_decide_eq_true hbr
    (exfalso; omega)
  intro hbr
  have hbr := of_decide_eq_false hbr
  refine l_guard_yes rfl rfl ?_
  refine l_move rfl rfl ?_
  refine l_guard_yes rfl rfl ?_
  refine l_move rfl rfl ?_
  refine l_guard_yes rfl rfl ?_
  refine l_quo rfl rfl rfl (by omega) (by omega) (w_i64 (by omega) (by omega)) ?_
  refine l_guard_yes rfl rfl ?_
  first | refine l_sub_ rfl rfl rfl (w_i64 (by omega) (by omega)) ?_ | refine l_subw rfl rfl rfl ?_
  refine l_guard_yes rfl rfl ?_
  refine l_gtr rfl rfl rfl ?_
  refine l_pick_f rfl rfl rfl ?_
  refine l_nil ?_
  refine g_cond rfl ?_ ?_
  · intro hbr
    have hbr := of_decide_eq_true hbr
    (exfalso; omega)
  intro hbr
  have hbr := of_decide_eq_false hbr
  refine g_skip ?_
  refine g_seq ?_
  refine g_seq ?_
  refine g_region ?_
  refine l_move rfl rfl ?_
  refine l_lss rfl rfl rfl ?_
  refine l_nil ?_
  refine g_cond rfl ?_ ?_
  · intro hbr
    have hbr := of_decide_eq_true hbr
    refine g_region ?_
    refine l_move rfl rfl ?_
    refine l_move rfl rfl ?_
    first | refine l_add rfl rfl rfl (w_i64 (by omega) (by omega)) ?_ | refine l_addw rfl rfl rfl ?_
    refine l_assign rfl rfl ?_
    refine l_nil ?_
    refine g_seq ?_
    refine g_region ?_
    refine l_move rfl rfl ?_
    first | refine l_conv rfl Try.underlying3 Try.underlying23 rfl (w_u32 (by omega) (by omega)) ?_ | refine l_convm (m := 4294967296) rfl wr_u32 Try.underlying3 Try.underlying23 rfl ?_
    refine l_assign rfl rfl ?_
    refine l_assign rfl rfl ?_
    refine l_nil ?_
    refine g_ret Try.func55 rfl (.tmp rfl (.tmp rfl .nil)) ?_
    (first | exact Gives.mki ⟨by rw [unsV_pos (n := n) (wd := wd) (by omega) (by omega)]; rfl, rfl⟩ | exact Gives.mki ⟨by rw [unsV_neg (n := n) (wd := wd) (by omega) (by omega)]; rfl, rfl⟩)
  intro hbr
  have hbr := of_decide_eq_false hbr
  refine g_skip ?_
  refine g_seq ?_
  refine g_region ?_
  refine l_move rfl rfl ?_
  first | refine l_conv rfl Try.underlying3 Try.underlying23 rfl (w_u32 (by omega) (by omega)) ?_ | refine l_convm (m := 4294967296) rfl wr_u32 Try.underlying3 Try.underlying23 rfl ?_
  refine l_assign rfl rfl ?_
  refine l_assign rfl rfl ?_
  refine l_nil ?_
  refine g_ret Try.func55 rfl (.tmp rfl (.tmp rfl .nil)) ?_
  (first | exact Gives.mki ⟨by rw [unsV_pos (n := n) (wd := wd) (by omega) (by omega)]; rfl, rfl⟩ | exact Gives.mki ⟨by rw [unsV_neg (n := n) (wd := wd) (by omega) (by omega)]; rfl, rfl⟩)
theorem runsigned_out (w0 : World) (F : List Atom) (n : Int) (n0 : -9223372036854775808 ≤ n) (n1 : n ≤ 9223372036854775807) (wd : Int) (wd0 : -9223372036854775808 ≤ wd) (wd1 : wd ≤ 9223372036854775807) (ht : ¬ (1 ≤ wd ∧ wd ≤ 32)) :
    CallK Try.prog 55 [.int .i64 n, .int .i64 wd] w0 (F) (Gives w0 fun v_ F2 => v_ = .tuple #[.int .u32 0, .int .i64 10] ∧ F2 = F) := by
  refine c_enter Try.func55 rfl rfl rfl ?_
  refine g_seq ?_
  refine g_region ?_
  refine l_assign rfl rfl ?_
  refine l_assign rfl rfl ?_
  refine l_nil ?_
  refine g_seq ?_
  refine g_seq ?_
  refine g_region ?_
  refine l_move rfl rfl ?_
  refine l_lss rfl rfl rfl ?_
  refine l_move rfl rfl ?_
  refine l_split 9 rfl ?_ ?_
  · intro hbr
    have hbr := of_decide_eq_true hbr
    refine l_guard_no rfl rfl rfl ?_
    refine l_guard_no rfl rfl rfl ?_
    refine l_pick_t rfl rfl rfl ?_
    refine l_nil ?_
    first | refine g_cond_t rfl ?_ | refine g_cond_t (congrArg (fun b => some (Value.bool b)) (decide_eq_true hbr)) ?_
    refine g_seq ?_
    refine g_region ?_
    refine l_assign rfl rfl ?_
    refine l_assign rfl rfl ?_
    refine l_nil ?_
    refine g_ret Try.func55 rfl (.tmp rfl (.tmp rfl .nil)) ?_
    exact Gives.mki ⟨rfl, rfl⟩
  intro hbr
  have hbr := of_decide_eq_false hbr
  refine l_guard_yes rfl rfl ?_
  refine l_move rfl rfl ?_
  refine l_guard_yes rfl rfl ?_
  refine l_gtr rfl rfl rfl ?_
  refine l_pick_f rfl rfl rfl ?_
  refine l_nil ?_
  refine g_cond rfl ?_ ?_
  · intro hbr
    have hbr := of_decide_eq_true hbr
    refine g_seq ?_
    refine g_region ?_
    refine l_assign rfl rfl ?_
    refine l_assign rfl rfl ?_
    refine l_nil ?_
    refine g_ret Try.func55 rfl (.tmp rfl (.tmp rfl .nil)) ?_
    exact Gives.mki ⟨rfl, rfl⟩
  · intro hbr
    have hbr := of_decide_eq_false hbr
    (exfalso; omega)
theorem runsigned_big (w0 : World) (F : List Atom) (n : Int) (n0 : -9223372036854775808 ≤ n) (n1 : n ≤ 9223372036854775807) (wd : Int) (wd0 : -9223372036854775808 ≤ wd) (wd1 : wd ≤ 9223372036854775807) (ht : 1 ≤ wd ∧ wd ≤ 32) (hn : n < -(2 ^ (wd - 1).toNat) ∨ 2 ^ (wd - 1).toNat ≤ n) :
    CallK Try.prog 55 [.int .i64 n, .int .i64 wd] w0 (F) (Gives w0 fun v_ F2 => v_ = .tuple #[.int .u32 0, .int .i64 11] ∧ F2 = F) := by
  have hpw := pow_bd (k := wd.toNat) (by omega)
  have hph := pow_bd (k := (wd - 1).toNat) (by omega)
  have hhp := half_pow (wd := wd) (by omega)
  refine c_enter Try.func55 rfl rfl rfl ?_
  refine g_seq ?_
  refine g_region ?_
  refine l_assign rfl rfl ?_
  refine l_assign rfl rfl ?_
  refine l_nil ?_
  refine g_seq ?_
  refine g_seq ?_
  refine g_region ?_
  refine l_move rfl rfl ?_
  refine l_lss rfl rfl rfl ?_
  refine l_move rfl rfl ?_
  refine l_split 9 rfl ?_ ?_
  · intro hbr
    have hbr := of_decide_eq_true hbr
    (exfalso; omega)
  intro hbr
  have hbr := of_decide_eq_false hbr
  refine l_guard_yes rfl rfl ?_
  refine l_move rfl rfl ?_
  refine l_guard_yes rfl rfl ?_
  refine l_gtr rfl rfl rfl ?_
  refine l_pick_f rfl rfl rfl ?_
  refine l_nil ?_
  refine g_cond rfl ?_ ?_
  · intro hbr
    have hbr := of_decide_eq_true hbr
    (exfalso; omega)
  intro hbr
  have hbr := of_decide_eq_false hbr
  refine g_skip ?_
  refine g_seq ?_
  refine g_region ?_
  refine l_move rfl rfl ?_
  first | refine l_conv rfl Try.underlying3 Try.underlying30 rfl (w_u64 (by omega) (by omega)) ?_ | refine l_convm (m := 18446744073709551616) rfl wr_u64 Try.underlying3 Try.underlying30 rfl ?_
  refine l_shl (r := 2 ^ wd.toNat) rfl rfl rfl (by omega) (by rw [show min wd.toNat IntKind.i64.bits = wd.toNat from min64 (by omega), Int.one_mul]; exact w_i64 (by omega) (by omega)) ?_
  refine l_assign rfl rfl ?_
  refine l_nil ?_
  refine g_seq ?_
  refine g_seq ?_
  refine g_region ?_
  refine l_move rfl rfl ?_
  refine l_move rfl rfl ?_
  refine l_quo rfl rfl rfl (by omega) (by omega) (w_i64 (by omega) (by omega)) ?_
  refine l_neg rfl rfl (w_i64 (by omega) (by omega)) ?_
  refine l_lss rfl rfl rfl ?_
  refine l_move rfl rfl ?_
  refine l_split 21 rfl ?_ ?_
  · intro hbr
    have hbr := of_decide_eq_true hbr
    refine l_guard_no rfl rfl rfl ?_
    refine l_guard_no rfl rfl rfl ?_
    refine l_guard_no rfl rfl rfl ?_
    refine l_guard_no rfl rfl rfl ?_
    refine l_guard_no rfl rfl rfl ?_
    refine l_pick_t rfl rfl rfl ?_
    refine l_nil ?_
    first | refine g_cond_t rfl ?_ | refine g_cond_t (congrArg (fun b => some (Value.bool b)) (decide_eq_true hbr)) ?_
    refine g_seq ?_
    refine g_region ?_
    refine l_assign rfl rfl ?_
    refine l_assign rfl rfl ?_
    refine l_nil ?_
    refine g_ret Try.func55 rfl (.tmp rfl (.tmp rfl .nil)) ?_
    exact Gives.mki ⟨rfl, rfl⟩
  intro hbr
  have hbr := of_decide_eq_false hbr
  refine l_guard_yes rfl rfl ?_
  refine l_move rfl rfl ?_
  refine l_guard_yes rfl rfl ?_
  refine l_move rfl rfl ?_
  refine l_guard_yes rfl rfl ?_
  refine l_quo rfl rfl rfl (by omega) (by omega) (w_i64 (by omega) (by omega)) ?_
  refine l_guard_yes rfl rfl ?_
  first | refine l_sub_ rfl rfl rfl (w_i64 (by omega) (by omega)) ?_ | refine l_subw rfl rfl rfl ?_
  refine l_guard_yes rfl rfl ?_
  refine l_gtr rfl rfl rfl ?_
  refine l_pick_f rfl rfl rfl ?_
  refine l_nil ?_
  refine g_cond rfl ?_ ?_
  · intro hbr
    have hbr := of_decide_eq_true hbr
    refine g_seq ?_
    refine g_region ?_
    refine l_assign rfl rfl ?_
    refine l_assign rfl rfl ?_
    refine l_nil ?_
    refine g_ret Try.func55 rfl (.tmp rfl (.tmp rfl .nil)) ?_
    exact Gives.mki ⟨rfl, rfl⟩
  · intro hbr
    have hbr := of_decide_eq_false hbr
    (exfalso; omega)
theorem rfield_g (w0 : World) (F : List Atom) (x : Int) (x0 : 0 ≤ x) (x1 : x ≤ 4294967295) (fr : Int) (fr0 : -9223372036854775808 ≤ fr) (fr1 : fr ≤ 9223372036854775807) (wd : Int) (wd0 : -9223372036854775808 ≤ wd) (wd1 : wd ≤ 9223372036854775807) : CallK Try.prog 52 [.int .u32 x, .int .i64 fr, .int .i64 wd] w0 F (Gives w0 fun v F2 => ∃ r e, v = .tuple #[.int .u32 r, .int .i64 e] ∧ F2 = F ∧ FldG x fr wd r e) := by
  by_cases h : There fr wd
  · exact callk_imp (rfield_in w0 F x x0 x1 fr fr0 fr1 wd wd0 wd1 h) fun v F ⟨h1, h2⟩ => ⟨_, _, h1, h2, .inr ⟨h, rfl, rfl⟩⟩
  · exact callk_imp (rfield_out w0 F x x0 x1 fr fr0 fr1 wd wd0 wd1 h) fun v F ⟨h1, h2⟩ => ⟨_, _, h1, h2, .inl ⟨h, rfl, rfl⟩⟩
theorem rput_g (w0 : World) (F : List Atom) (x : Int) (x0 : 0 ≤ x) (x1 : x ≤ 4294967295) (fr : Int) (fr0 : -9223372036854775808 ≤ fr) (fr1 : fr ≤ 9223372036854775807) (wd : Int) (wd0 : -9223372036854775808 ≤ wd) (wd1 : wd ≤ 9223372036854775807) (v : Int) (v0 : 0 ≤ v) (v1 : v ≤ 4294967295) : CallK Try.prog 53 [.int .u32 x, .int .i64 fr, .int .i64 wd, .int .u32 v] w0 F (Gives w0 fun v_ F2 => ∃ r e, v_ = .tuple #[.int .u32 r, .int .i64 e] ∧ F2 = F ∧ PutG x fr wd v r e) := by
  by_cases h : There fr wd
  · by_cases hv : v < 2 ^ wd.toNat
    · exact callk_imp (rput_in w0 F x x0 x1 fr fr0 fr1 wd wd0 wd1 v v0 v1 h hv) fun v F ⟨h1, h2⟩ => ⟨_, _, h1, h2, .inr (.inr ⟨h, hv, rfl, rfl⟩)⟩
    · exact callk_imp (rput_big w0 F x x0 x1 fr fr0 fr1 wd wd0 wd1 v v0 v1 h (Int.not_lt.1 hv)) fun v F ⟨h1, h2⟩ => ⟨_, _, h1, h2, .inr (.inl ⟨h, Int.not_lt.1 hv, rfl, rfl⟩)⟩
  · exact callk_imp (rput_out w0 F x x0 x1 fr fr0 fr1 wd wd0 wd1 v v0 v1 h) fun v F ⟨h1, h2⟩ => ⟨_, _, h1, h2, .inl ⟨h, rfl, rfl⟩⟩
theorem rsigned_g (w0 : World) (F : List Atom) (v : Int) (v0 : 0 ≤ v) (v1 : v ≤ 4294967295) (wd : Int) (wd0 : -9223372036854775808 ≤ wd) (wd1 : wd ≤ 9223372036854775807) : CallK Try.prog 54 [.int .u32 v, .int .i64 wd] w0 F (Gives w0 fun v_ F2 => ∃ r e, v_ = .tuple #[.int .i64 r, .int .i64 e] ∧ F2 = F ∧ SgnG v wd r e) := by
  by_cases h : 1 ≤ wd ∧ wd ≤ 32
  · by_cases hv : v < 2 ^ wd.toNat
    · exact callk_imp (rsigned_in w0 F v v0 v1 wd wd0 wd1 h hv) fun v F ⟨h1, h2⟩ => ⟨_, _, h1, h2, .inr (.inr ⟨h, hv, rfl, rfl⟩)⟩
    · exact callk_imp (rsigned_big w0 F v v0 v1 wd wd0 wd1 h (Int.not_lt.1 hv)) fun v F ⟨h1, h2⟩ => ⟨_, _, h1, h2, .inr (.inl ⟨h, Int.not_lt.1 hv, rfl, rfl⟩)⟩
  · exact callk_imp (rsigned_out w0 F v v0 v1 wd wd0 wd1 h) fun v F ⟨h1, h2⟩ => ⟨_, _, h1, h2, .inl ⟨h, rfl, rfl⟩⟩
theorem runsigned_g (w0 : World) (F : List Atom) (n : Int) (n0 : -9223372036854775808 ≤ n) (n1 : n ≤ 9223372036854775807) (wd : Int) (wd0 : -9223372036854775808 ≤ wd) (wd1 : wd ≤ 9223372036854775807) : CallK Try.prog 55 [.int .i64 n, .int .i64 wd] w0 F (Gives w0 fun v_ F2 => ∃ r e, v_ = .tuple #[.int .u32 r, .int .i64 e] ∧ F2 = F ∧ UnsG n wd r e) := by
  by_cases h : 1 ≤ wd ∧ wd ≤ 32
  · by_cases hv : -(2 ^ (wd - 1).toNat) ≤ n ∧ n < 2 ^ (wd - 1).toNat
    · exact callk_imp (runsigned_in w0 F n n0 n1 wd wd0 wd1 h hv.1 hv.2) fun v F ⟨h1, h2⟩ => ⟨_, _, h1, h2, .inr (.inr ⟨h, hv, rfl, rfl⟩)⟩
    · have hv2 : n < -(2 ^ (wd - 1).toNat) ∨ 2 ^ (wd - 1).toNat ≤ n := by
        rcases Classical.not_and_iff_not_or_not.1 hv with h | h
        · exact .inl (Int.not_le.1 h)
        · exact .inr (Int.not_lt.1 h)
      exact callk_imp (runsigned_big w0 F n n0 n1 wd wd0 wd1 h hv2) fun v F ⟨h1, h2⟩ => ⟨_, _, h1, h2, .inr (.inl ⟨h, hv2, rfl, rfl⟩)⟩
  · exact callk_imp (runsigned_out w0 F n n0 n1 wd wd0 wd1 h) fun v F ⟨h1, h2⟩ => ⟨_, _, h1, h2, .inl ⟨h, rfl, rfl⟩⟩

theorem shr8 {x i : Int} (i0 : 0 ≤ i) : x / 2 ^ (8 * i).toNat / 256 = x / 2 ^ (8 * (i + 1)).toNat := by
  rw [show (8 * (i + 1)).toNat = (8 * i).toNat + 8 by omega, Int.pow_add, Int.ediv_ediv_of_nonneg (Int.pow_nonneg (by decide))]
  rfl
theorem numB_take {B : List Int} {p k : Nat} : ∀ {i m : Nat}, i + m ≤ k → numB ((B.drop p).take k) i m = numB B (p + i) m
  | i, 0, _ => rfl
  | i, m + 1, h => by
    have h1 : ((B.drop p).take k).getD i 0 = B.getD (p + i) 0 := by
      simp only [List.getD_eq_getElem?_getD, List.getElem?_take, List.getElem?_drop, if_pos (show i < k by omega)]
    simp only [numB]
    rw [h1, numB_take (i := i + 1) (m := m) (by omega)]
    rfl
theorem u8_take {B : List Int} (h : ∀ i, 0 ≤ B.getD i 0 ∧ B.getD i 0 ≤ 255) (p k : Nat) : ∀ i, 0 ≤ ((B.drop p).take k).getD i 0 ∧ ((B.drop p).take k).getD i 0 ≤ 255 := fun i => by
  simp only [List.getD_eq_getElem?_getD, List.getElem?_take, List.getElem?_drop]
  split
  · have := h (p + i)
    simpa only [List.getD_eq_getElem?_getD] using this
  · decide
/-- The words of bytes, four by four. -/
def unpB (B : List Int) (n : Nat) : List Int := (List.range n).map fun i => numB B (4 * i) 4
theorem unpB_len (B : List Int) (n : Nat) : (unpB B n).length = n := by simp [unpB]
theorem unpB_snoc (B : List Int) (n : Nat) : unpB B n ++ [numB B (4 * n) 4] = unpB B (n + 1) := by simp [unpB, List.range_succ]
theorem num4 {B : List Int} (hU : ∀ i, 0 ≤ B.getD i 0 ∧ B.getD i 0 ≤ 255) (p : Nat) : 0 ≤ numB B p 4 ∧ numB B p 4 ≤ 4294967295 := by
  have := numB_bd hU 4 p
  rw [show (256 : Int) ^ 4 = 4294967296 from rfl] at this
  omega
theorem unpB_w {B : List Int} (hU : ∀ i, 0 ≤ B.getD i 0 ∧ B.getD i 0 ≤ 255) (n : Nat) : ∀ x ∈ unpB B n, 0 ≤ x ∧ x ≤ 4294967295 := fun x hx => by
  obtain ⟨i, _, rfl⟩ := List.mem_map.1 hx
  exact num4 hU _
theorem bXor_comm (m : Nat) (a b : Int) : bXor m a b = bXor m b a := by unfold bXor; rw [BitVec.xor_comm]
theorem rlow_ok (w0 : World) (F : List Atom) (a : Option Addr) (n c : Nat) (B : List Int) (hB : B.length = n) (ha : n = 0 ∨ ∃ g, a = some ⟨g, 0, none⟩) (x k : Int) (x0 : 0 ≤ x) (x1 : x ≤ 18446744073709551615) (k0 : 0 ≤ k) (k1 : k ≤ 8) (hnk : n ≤ 4398046511104) (B0 : List Int) (hB0 : B ++ lowB x k.toNat = B0) (m : Nat) (hm : n + k.toNat = m) :
    CallK Try.prog 79 [.slice a n c, .int .u64 x, .int .i64 k] w0 (Own 5 1 (.slice a n c) n (ints .u8 B) :: F) (Gives w0 fun v F2 => ∃ a2 c2, v = .slice a2 m c2 ∧ (m = 0 ∨ ∃ g, a2 = some ⟨g, 0, none⟩) ∧ F2 = Own 5 1 (.slice a2 m c2) m (ints .u8 B0) :: F) := by
  refine c_enter Try.func79 rfl rfl rfl ?_
  refine g_seq ?_
  refine g_region ?_
  refine l_assign rfl rfl ?_
  refine l_nil ?_
  refine g_seq ?_
  refine g_seq ?_
  refine g_region ?_
  refine l_assign rfl rfl ?_
  refine l_nil ?_
  refine g_block ?_
  refine g_loopk (X := Int × Int × Option Addr × Nat × Nat × List Int) [(1, _), (2, _), (6, _)] (.cons rfl (.cons rfl (.cons rfl (.nil)))) (fun z => 0 ≤ z.1 ∧ z.1 ≤ k ∧ z.2.1 = x / 2 ^ (8 * z.1).toNat ∧ z.2.2.2.1 = n + z.1.toNat ∧ z.2.2.2.2.2.length = z.2.2.2.1 ∧ z.2.2.2.2.2 ++ lowB z.2.1 (k - z.1).toNat = B0 ∧ (z.2.2.2.1 = 0 ∨ ∃ g, z.2.2.1 = some ⟨g, 0, none⟩)) (fun z => (k - z.1).toNat) (fun z => [(0, .slice z.2.2.1 z.2.2.2.1 z.2.2.2.2.1), (7, .int .i64 z.1)]) (fun z => Own 5 1 (.slice z.2.2.1 z.2.2.2.1 z.2.2.2.2.1) z.2.2.2.1 (ints .u8 z.2.2.2.2.2) :: F) ((0, x, a, n, c, B)) (⟨by simp only; omega, by simp only; omega, by simp, by simp, hB, by simp only; rw [show (k - 0).toNat = k.toNat by omega]; exact hB0, ha⟩) (.cons rfl (.cons rfl .nil)) (fun w hw => SPI.holds hw) ?_
  rintro ⟨i, y, a1, n1, c1, L⟩ ⟨i0, i1, hy, hn1, hL, hBL, ha1⟩ ih
  dsimp only [List.cons_append, List.nil_append] at ih ⊢
  simp only at i0 i1 hy hn1 hL hBL ha1
  have hyb := @shV_bd x (8 * i) x0
  unfold shV at hyb
  rw [← hy] at hyb
  refine g_seq ?_
  refine g_seq ?_
  refine g_region ?_
  refine l_move rfl rfl ?_
  refine l_move rfl rfl ?_
  refine l_lss rfl rfl rfl ?_
  refine l_nil ?_
  refine g_cond rfl ?_ ?_
  · intro hbr
    have hbr := of_decide_eq_true hbr
    refine g_skip ?_
    refine g_seq ?_
    refine g_block ?_
    refine g_region ?_
    refine l_move rfl rfl ?_
    refine l_move rfl rfl ?_
    refine l_move rfl rfl ?_
    first | refine l_mul rfl rfl rfl (w_i64 (by omega) (by omega)) ?_ | refine l_mulw rfl rfl rfl ?_
    first | refine l_conv rfl Try.underlying3 Try.underlying30 rfl (w_u64 (by omega) (by omega)) ?_ | refine l_convm (m := 18446744073709551616) rfl wr_u64 Try.underlying3 Try.underlying30 rfl ?_
    refine l_shr (r := y) rfl rfl rfl (by omega) (by rw [show min (8 * i).toNat IntKind.u64.bits = (8 * i).toNat from min64 (by omega), hy]) ?_
    refine l_convm (m := 256) rfl wr_u8 Try.underlying53 Try.underlying5 rfl ?_
    refine l_buildSlice rfl Try.underlying36 Try.sizeOf5 Try.zeroValue5 rfl rfl rfl rfl rfl rfl ?_; intro b20
    refine l_does rfl (does_apps 1 (by_ := 1) (kd := .u8) (V := L) (W := [y % 256]) (m := n1) (m2 := 1) Try.underlying36 Try.type5 rfl rfl rfl rfl rfl rfl rfl ⟨rfl, .inl ⟨_, _, _, rfl, .own (mem_getO 0 rfl)⟩⟩ (by omega) (by simp only [maxLen]; omega) rfl rfl (fun _ _ => rfl)) ?_
    rintro _ _ ⟨a21, c21, ha21, hn21, rfl, rfl⟩
    refine l_assign rfl rfl ?_
    refine l_nil ?_
    refine g_inBlock ?_
    refine g_region ?_
    refine l_move rfl rfl ?_
    first | refine l_add rfl rfl rfl (w_i64 (by omega) (by omega)) ?_ | refine l_addw rfl rfl rfl ?_
    refine l_assign rfl rfl ?_
    refine l_nil ?_
    have hkx : (k - i).toNat = (k - (i + 1)).toNat + 1 := by omega
    rw [hkx] at hBL
    exact g_againi (ih (i + 1, y / 256, a21, n1 + 1, c21, L ++ [y % 256]) ⟨by simp only; omega, by simp only; omega, by simp only; rw [hy]; exact shr8 i0, by simp only; omega, by simp only; rw [List.length_append, hL]; rfl, lay_step hBL, ha21⟩ (by simp only; omega)) (.cons rfl (.cons rfl (.cons rfl (.cons rfl (.cons rfl (.nil))))))
  intro hbr
  have hbr := of_decide_eq_false hbr
  refine g_exit rfl ?_
  obtain rfl : i = k := by omega
  rw [show (i - i).toNat = 0 by omega] at hBL
  simp only [lowB, List.append_nil] at hBL
  subst hBL
  rw [← hn1] at hm
  subst hm
  refine g_seq ?_
  refine g_region ?_
  refine l_move rfl rfl ?_
  refine l_assign rfl rfl ?_
  refine l_nil ?_
  refine g_ret Try.func79 rfl (.tmp rfl .nil) ?_
  exact Gives.mki ⟨a1, c1, rfl, ha1, rfl⟩
theorem rhigh_ok (w0 : World) (F : List Atom) (b o k c : Nat) (C : List Int) (hC : C.length = k) (hU : ∀ i, 0 ≤ C.getD i 0 ∧ C.getD i 0 ≤ 255) (k1 : 1 ≤ k) (k8 : k ≤ 8) (hr : RowAt w0 F b o (ints .u8 C)) :
    CallK Try.prog 80 [.slice (some ⟨b, o, none⟩) k c] w0 (F) (Gives w0 fun v F2 => v = .int .u64 (numB C 0 k) ∧ F2 = F) := by
  refine c_enter Try.func80 rfl rfl rfl ?_
  refine g_seq ?_
  refine g_region ?_
  refine l_assign rfl rfl ?_
  refine l_nil ?_
  refine g_seq ?_
  refine g_region ?_
  refine l_assign rfl rfl ?_
  refine l_nil ?_
  refine g_seq ?_
  refine g_seq ?_
  refine g_region ?_
  refine l_move rfl rfl ?_
  refine l_len rfl Try.underlying36 rfl ?_
  first | refine l_sub_ rfl rfl rfl (w_i64 (by omega) (by omega)) ?_ | refine l_subw rfl rfl rfl ?_
  refine l_assign rfl rfl ?_
  refine l_nil ?_
  refine g_block ?_
  refine g_loopc (X := Int) [(0, _), (2, _)] (.cons rfl (.cons rfl (.nil))) (fun i => -1 ≤ i ∧ i < k) (fun i => (i + 1).toNat) (fun i => [(3, .int .u64 (numB C (i + 1).toNat (k - 1 - i).toNat)), (4, .int .i64 i)]) ((k - 1)) (by omega) (.cons (by rw [show ((k : Int) - 1 - (k - 1)).toNat = 0 by omega]; rfl) (.cons rfl .nil)) ?_
  rintro i ⟨i0, i1⟩ ih
  dsimp only [List.cons_append, List.nil_append] at ih ⊢
  have hbi := hU i.toNat
  have hnf : 0 ≤ i → _ := fun h => num_fits hU (p := (i + 1).toNat) (j := (k - 1 - i).toNat) (by omega)
  refine g_seq ?_
  refine g_seq ?_
  refine g_region ?_
  refine l_move rfl rfl ?_
  refine l_geq rfl rfl rfl ?_
  refine l_nil ?_
  refine g_cond rfl ?_ ?_
  · intro hbr
    have hbr := of_decide_eq_true hbr
    refine g_skip ?_
    refine g_seq ?_
    refine g_block ?_
    refine g_region ?_
    refine l_move rfl rfl ?_
    have hnf := hnf (by omega)
    refine l_mul rfl rfl rfl (w_u64 (by omega) (by omega)) ?_
    refine l_move rfl rfl ?_
    refine l_move rfl rfl ?_
    refine l_ixs rfl Try.underlying36 Try.sizeOf5 rfl rfl (by omega) (by omega) ?_
    refine l_loadc rfl Try.isAgg5 rfl (word_any hr (by omega)) ?_
    first | refine l_conv rfl Try.underlying5 Try.underlying53 rfl (w_u64 (by omega) (by omega)) ?_ | refine l_convm (m := 18446744073709551616) rfl wr_u64 Try.underlying5 Try.underlying53 rfl ?_
    first | refine l_add rfl rfl rfl (w_u64 (by omega) (by omega)) ?_ | refine l_addm (m := 18446744073709551616) rfl wr_u64 rfl rfl ?_
    refine l_assign rfl rfl ?_
    refine l_nil ?_
    refine g_inBlock ?_
    refine g_region ?_
    refine l_move rfl rfl ?_
    first | refine l_sub_ rfl rfl rfl (w_i64 (by omega) (by omega)) ?_ | refine l_subw rfl rfl rfl ?_
    refine l_assign rfl rfl ?_
    refine l_nil ?_
    have hst : numB C (i + 1).toNat ((k : Int) - 1 - i).toNat * 256 + C.getD i.toNat 0 = numB C (i - 1 + 1).toNat ((k : Int) - 1 - (i - 1)).toNat := by
      rw [show ((k : Int) - 1 - (i - 1)).toNat = ((k : Int) - 1 - i).toNat + 1 by omega, show (i - 1 + 1).toNat = i.toNat by omega]
      simp only [numB]
      rw [show (i + 1).toNat = i.toNat + 1 by omega]
      omega
    rw [hst]
    exact g_againi (ih (i - 1) (by omega) (by omega)) (.cons rfl (.cons rfl (.cons rfl (.cons rfl (.nil)))))
  intro hbr
  have hbr := of_decide_eq_false hbr
  refine g_exit rfl ?_
  obtain rfl : i = -1 := by omega
  rw [show ((-1 : Int) + 1).toNat = 0 from rfl, show ((k : Int) - 1 - -1).toNat = k by omega]
  refine g_seq ?_
  refine g_region ?_
  refine l_move rfl rfl ?_
  refine l_assign rfl rfl ?_
  refine l_nil ?_
  refine g_ret Try.func80 rfl (.tmp rfl .nil) ?_
  exact Gives.mki ⟨rfl, rfl⟩
theorem rpack_ok (w0 : World) (F : List Atom) (a : Option Addr) (n c : Nat) (W : List Int) (hI : IR w0 F .u32 a n W) (hU : W32s W) (hn : n ≤ 536870911) :
    CallK Try.prog 58 [.slice a n c] w0 (F) (Gives w0 fun v F2 => ∃ a2 c2, v = .slice a2 (4 * n) c2 ∧ (4 * n = 0 ∨ ∃ g, a2 = some ⟨g, 0, none⟩) ∧ F2 = Own 5 1 (.slice a2 (4 * n) c2) (4 * n) (ints .u8 (packB W n)) :: F) := by
  have hl := hI.1
  refine c_enter Try.func58 rfl rfl rfl ?_
  refine g_seq ?_
  refine g_region ?_
  refine l_assign rfl rfl ?_
  refine l_nil ?_
  refine g_seq ?_
  refine g_region ?_
  refine l_assign rfl rfl ?_
  refine l_nil ?_
  refine g_seq ?_
  refine g_seq ?_
  refine g_region ?_
  refine l_assign rfl rfl ?_
  refine l_nil ?_
  refine g_block ?_
  refine g_own_nil 5 1 ?_
  refine g_loopk (X := Int × Option Addr × Nat) [(0, _), (2, _)] (.cons rfl (.cons rfl (.nil))) (fun z => 0 ≤ z.1 ∧ z.1 ≤ n ∧ (4 * z.1.toNat = 0 ∨ ∃ g, z.2.1 = some ⟨g, 0, none⟩)) (fun z => (n - z.1).toNat) (fun z => [(3, .slice z.2.1 (4 * z.1.toNat) z.2.2), (4, .int .i64 z.1)]) (fun z => Own 5 1 (.slice z.2.1 (4 * z.1.toNat) z.2.2) (4 * z.1.toNat) (ints .u8 (packB W z.1.toNat)) :: F) ((0, none, 0)) (⟨by simp only; omega, by simp only; omega, .inl rfl⟩) (.cons rfl (.cons rfl .nil)) ((fun w hw => hw)) ?_
  rintro ⟨i, a1, c1⟩ ⟨i0, i1, ha1⟩ ih
  dsimp only [List.cons_append, List.nil_append] at ih ⊢
  simp only at i0 i1 ha1
  have hbi := hU i.toNat
  refine g_seq ?_
  refine g_seq ?_
  refine g_region ?_
  refine l_move rfl rfl ?_
  refine l_move rfl rfl ?_
  refine l_len rfl Try.underlying54 rfl ?_
  refine l_lss rfl rfl rfl ?_
  refine l_nil ?_
  refine g_cond rfl ?_ ?_
  · intro hbr
    have hbr := of_decide_eq_true hbr
    refine g_skip ?_
    refine g_seq ?_
    refine g_block ?_
    refine g_region ?_
    refine l_move rfl rfl ?_
    refine l_move rfl rfl ?_
    refine l_move rfl rfl ?_
    obtain ⟨b9, o9, rfl, hr9⟩ := hI.some (i := i.toNat) (by omega)
    refine l_ixs rfl Try.underlying54 Try.sizeOf23 rfl rfl (by omega) (by omega) ?_
    refine l_loadc rfl Try.isAgg23 rfl (word_any hr9 (by omega)) ?_
    first | refine l_conv rfl Try.underlying23 Try.underlying53 rfl (w_u64 (by omega) (by omega)) ?_ | refine l_convm (m := 18446744073709551616) rfl wr_u64 Try.underlying23 Try.underlying53 rfl ?_
    refine l_call rfl Try.call79 rfl (rlow_ok _ _ a1 _ c1 _ (packB_len W i.toNat) ha1 _ 4 (by omega) (by omega) (by omega) (by omega) (by omega) (packB W (i + 1).toNat) (by rw [show (i + 1).toNat = i.toNat + 1 by omega]; rfl) (4 * (i + 1).toNat) (by omega)) ?_; rintro _ _ ⟨a2, c2, rfl, ha2, rfl⟩
    refine l_assign rfl rfl ?_
    refine l_nil ?_
    refine g_inBlock ?_
    refine g_region ?_
    refine l_move rfl rfl ?_
    first | refine l_add rfl rfl rfl (w_i64 (by omega) (by omega)) ?_ | refine l_addw rfl rfl rfl ?_
    refine l_assign rfl rfl ?_
    refine l_nil ?_
    exact g_againi (ih (i + 1, a2, c2) ⟨by simp only; omega, by simp only; omega, ha2⟩ (by simp only; omega)) (.cons rfl (.cons rfl (.cons rfl (.cons rfl (.nil)))))
  intro hbr
  have hbr := of_decide_eq_false hbr
  refine g_exit rfl ?_
  obtain rfl : i = n := by omega
  rw [Int.toNat_natCast] at ha1 ⊢
  refine g_seq ?_
  refine g_region ?_
  refine l_move rfl rfl ?_
  refine l_assign rfl rfl ?_
  refine l_nil ?_
  refine g_ret Try.func58 rfl (.tmp rfl .nil) ?_
  exact Gives.mki ⟨a1, c1, rfl, ha1, rfl⟩
theorem unpack_in (w0 : World) (F : List Atom) (a : Option Addr) (nb n c : Nat) (B : List Int) (hB : B.length = nb) (hU : ∀ i, 0 ≤ B.getD i 0 ∧ B.getD i 0 ≤ 255) (hn : nb ≤ 2147483647) (hr : Reads w0 F (.slice a nb c) nb 1 (ints .u8 B)) (hnb : nb = 4 * n) :
    CallK Try.prog 38 [.slice a nb c] w0 (F) (Gives w0 fun v F2 => ∃ a2 c2, v = .tuple #[.slice a2 n c2, .int .i64 0] ∧ (n = 0 ∨ ∃ g, a2 = some ⟨g, 0, none⟩) ∧ F2 = Own 23 1 (.slice a2 n c2) n (ints .u32 (unpB B n)) :: F) := by
  refine c_enter Try.func38 rfl rfl rfl ?_
  refine g_seq ?_
  refine g_region ?_
  refine l_assign rfl rfl ?_
  refine l_assign rfl rfl ?_
  refine l_nil ?_
  refine g_seq ?_
  refine g_seq ?_
  refine g_region ?_
  refine l_move rfl rfl ?_
  refine l_len rfl Try.underlying36 rfl ?_
  refine l_rem rfl rfl rfl (by omega) (by omega) (w_i64 (by omega) (by omega)) ?_
  refine l_neq rfl rfl rfl ?_
  refine l_nil ?_
  refine g_cond rfl ?_ ?_
  · intro hbr
    have hbr := of_decide_eq_true hbr
    (exfalso; omega)
  intro hbr
  have hbr := of_decide_eq_false hbr
  refine g_skip ?_
  refine g_seq ?_
  refine g_region ?_
  refine l_assign rfl rfl ?_
  refine l_nil ?_
  refine g_seq ?_
  refine g_seq ?_
  refine g_region ?_
  refine l_move rfl rfl ?_
  refine l_call rfl Try.call29 rfl (newr_ok _ _ a nb c B hB (by omega) hr) ?_; rintro _ _ ⟨bq, bs, g, rfl, hF9⟩; rw [hF9]; clear hF9
  refine l_assign rfl rfl ?_
  refine l_nil ?_
  refine g_block ?_
  refine g_own_nil 23 1 ?_
  refine g_fronto g ?_
  refine g_frontb bs ?_
  refine g_frontb bq ?_
  refine g_loopk (X := Int × Option Addr × Nat) [(2, _), (3, _), (5, _)] (.cons rfl (.cons rfl (.cons rfl (.nil)))) (fun z => 0 ≤ z.1 ∧ z.1 ≤ n ∧ (z.1.toNat = 0 ∨ ∃ g, z.2.1 = some ⟨g, 0, none⟩)) (fun z => (n - z.1).toNat) (fun z => [(4, .slice z.2.1 z.1.toNat z.2.2)]) (fun z => Blk bq (.cells [Value.pointer (some ⟨bs, 0, none⟩), .int .i64 0].toArray 113 (0, 0)) :: Blk bs (.cells [Value.slice (some ⟨g, 0, none⟩) nb nb, .int .i64 ((4 * z.1.toNat : Nat) : Int)].toArray 109 (0, 0)) :: Own 5 1 (.slice (some ⟨g, 0, none⟩) nb nb) nb (ints .u8 B) :: Own 23 1 (.slice z.2.1 z.1.toNat z.2.2) z.1.toNat (ints .u32 (unpB B z.1.toNat)) :: F) ((0, none, 0)) (⟨by simp only; omega, by simp only; omega, .inl rfl⟩) (.cons rfl .nil) ((fun w hw => hw)) ?_
  rintro ⟨i, a1, c1⟩ ⟨i0, i1, ha1⟩ ih
  dsimp only [List.cons_append, List.nil_append] at ih ⊢
  simp only at i0 i1 ha1
  have hn4 := num4 hU (4 * i.toNat)
  refine g_seq ?_
  refine g_seq ?_
  refine g_region ?_
  refine l_move rfl rfl ?_
  refine l_inl rfl Try.call33 rfl ?_
  refine c_enter Try.func33 rfl rfl rfl ?_
  refine g_seq ?_
  refine g_region ?_
  refine l_assign rfl rfl ?_
  refine l_nil ?_
  refine g_seq ?_
  refine g_seq ?_
  refine g_region ?_
  refine l_move rfl rfl ?_
  refine l_eqpn rfl Try.underlying69 rfl rfl ?_
  refine l_nil ?_
  first | refine g_cond_f rfl ?_ | refine g_cond_f (congrArg (fun b => some (Value.bool b)) (decide_eq_false hbr)) ?_
  refine g_skip ?_
  refine g_seq ?_
  refine g_region ?_
  refine l_move rfl rfl ?_
  refine l_nilCheck rfl rfl ?_
  refine l_fieldAddr rfl fa_113_0 rfl ?_
  refine l_ld rfl Try.isAgg107 rfl rfl ?_
  refine l_inl rfl Try.call74 rfl ?_
  refine c_enter Try.func74 rfl rfl rfl ?_
  refine g_seq ?_
  refine g_region ?_
  refine l_assign rfl rfl ?_
  refine l_nil ?_
  refine g_seq ?_
  refine g_seq ?_
  refine g_region ?_
  refine l_move rfl rfl ?_
  refine l_eqpn rfl Try.underlying107 rfl rfl ?_
  refine l_nil ?_
  first | refine g_cond_f rfl ?_ | refine g_cond_f (congrArg (fun b => some (Value.bool b)) (decide_eq_false hbr)) ?_
  refine g_skip ?_
  refine g_seq ?_
  refine gp_start mo (by kernel_rfl) (by kernel_rfl) ?_
  refine gp_quiet 0 rfl rfl rfl rfl rfl rfl (q_move rfl) ?_
  refine gp_quiet 1 rfl rfl rfl rfl rfl rfl (q_nilCheck rfl) ?_
  refine gp_quiet 2 rfl rfl rfl rfl rfl rfl (q_fieldAddr fa_109_0 rfl) ?_
  refine gp_quiet 3 rfl rfl rfl rfl rfl rfl (q_ld Try.isAgg36 rfl rfl) ?_
  refine gp_quiet 4 rfl rfl rfl rfl rfl rfl (q_len Try.underlying36 rfl) ?_
  refine gp_quiet 5 rfl rfl rfl rfl rfl rfl (q_move rfl) ?_
  refine gp_quiet 6 rfl rfl rfl rfl rfl rfl (q_nilCheck rfl) ?_
  refine gp_quiet 7 rfl rfl rfl rfl rfl rfl (q_fieldAddr fa_109_1 rfl) ?_
  first | refine gp_quiet 8 rfl rfl rfl rfl rfl rfl (q_ld Try.isAgg3 rfl rfl) ?_ | refine gp_quiet 8 rfl rfl rfl rfl rfl rfl (q_ldw Try.isAgg3 rfl (by omega)) ?_
  first | refine gp_quiet 9 rfl rfl rfl rfl rfl rfl (q_sub_ rfl rfl (w_i64 (by omega) (by omega))) ?_ | refine gp_quiet 9 rfl rfl rfl rfl rfl rfl (q_subw rfl rfl) ?_
  refine gp_quiet 10 rfl rfl rfl rfl rfl rfl (q_assign rfl) ?_
  refine gp_end rfl rfl ?_
  refine g_ret Try.func74 rfl (.tmp rfl .nil) ?_
  first | refine ⟨.int _ _, rfl, ?_⟩ | refine ⟨_, rfl, ?_⟩
  refine l_assign rfl rfl ?_
  refine l_nil ?_
  refine g_ret Try.func33 rfl (.tmp rfl .nil) ?_
  first | refine ⟨.int _ _, rfl, ?_⟩ | refine ⟨_, rfl, ?_⟩
  refine l_gtr rfl rfl rfl ?_
  refine l_nil ?_
  refine g_cond rfl ?_ ?_
  · intro hbr
    have hbr := of_decide_eq_true hbr
    refine g_skip ?_
    refine g_block ?_
    refine g_region ?_
    refine l_move rfl rfl ?_
    refine l_move rfl rfl ?_
    refine l_call rfl Try.call47 rfl (r32_ok _ _ bq bs g nb B hB hU (by omega) ((4 * i.toNat : Nat) : Int) 0 (by omega) (by omega) (by omega) (by omega)) ?_; rintro _ _ ⟨m, p2, q2, hR, rfl, rfl⟩
    rw [rdN_ok rfl (by omega), Int.toNat_natCast] at hR
    injection hR with hR1 hR2
    injection hR2 with hR2 hR3
    subst hR1 hR2 hR3
    refine l_buildSlice rfl Try.underlying54 Try.sizeOf23 Try.zeroValue23 rfl rfl rfl rfl rfl rfl ?_; intro b18
    refine l_does rfl (does_apps 4 (by_ := 4) (kd := .u32) (V := unpB B i.toNat) (W := [numB B (4 * i.toNat) 4]) (m := i.toNat) (m2 := 1) (m3 := (i + 1).toNat) (V3 := unpB B (i + 1).toNat) Try.underlying54 Try.type23 rfl rfl rfl rfl rfl rfl rfl ⟨rfl, .inl ⟨_, _, _, rfl, .own (mem_getO 0 rfl)⟩⟩ (by omega) (by simp only [maxLen]; omega) (by omega) (by rw [show (i + 1).toNat = i.toNat + 1 by omega]; exact unpB_snoc _ _) (fun _ _ => rfl)) ?_
    rintro _ _ ⟨a19, c19, ha19, hn19, rfl, rfl⟩
    refine l_assign rfl rfl ?_
    refine l_nil ?_
    refine g_inBlock ?_
    rw [show ((4 * i.toNat : Nat) : Int) + 4 = ((4 * (i + 1).toNat : Nat) : Int) by omega]
    exact g_againi (ih (i + 1, a19, c19) ⟨by simp only; omega, by simp only; omega, ha19⟩ (by simp only; omega)) (.cons rfl (.cons rfl (.cons rfl (.cons rfl (.nil)))))
  intro hbr
  have hbr := of_decide_eq_false hbr
  refine g_exit rfl ?_
  obtain rfl : i = n := by omega
  rw [Int.toNat_natCast] at ha1 ⊢
  refine g_seq ?_
  refine g_region ?_
  refine l_move rfl rfl ?_
  refine l_assign rfl rfl ?_
  refine l_assign rfl rfl ?_
  refine l_nil ?_
  refine g_ret Try.func38 rfl (.tmp rfl (.tmp rfl .nil)) ?_
  exact Gives.mki ⟨a1, c1, rfl, ha1, rfl⟩
theorem unpack_bad (w0 : World) (F : List Atom) (a : Option Addr) (nb c : Nat) (hn : nb ≤ 2147483647) (hnb : nb % 4 ≠ 0) :
    CallK Try.prog 38 [.slice a nb c] w0 (F) (Gives w0 fun v F2 => v = .tuple #[.slice none 0 0, .int .i64 12] ∧ F2 = F) := by
  refine c_enter Try.func38 rfl rfl rfl ?_
  refine g_seq ?_
  refine g_region ?_
  refine l_assign rfl rfl ?_
  refine l_assign rfl rfl ?_
  refine l_nil ?_
  refine g_seq ?_
  refine g_seq ?_
  refine g_region ?_
  refine l_move rfl rfl ?_
  refine l_len rfl Try.underlying36 rfl ?_
  refine l_rem rfl rfl rfl (by omega) (by omega) (w_i64 (by omega) (by omega)) ?_
  refine l_neq rfl rfl rfl ?_
  refine l_nil ?_
  refine g_cond rfl ?_ ?_
  · intro hbr
    have hbr := of_decide_eq_true hbr
    refine g_seq ?_
    refine g_region ?_
    refine l_assign rfl rfl ?_
    refine l_assign rfl rfl ?_
    refine l_nil ?_
    refine g_ret Try.func38 rfl (.tmp rfl (.tmp rfl .nil)) ?_
    exact Gives.mki ⟨rfl, rfl⟩
  · intro hbr
    have hbr := of_decide_eq_false hbr
    (exfalso; omega)
theorem words_mid {w0 : World} {F : List Atom} {g o o' kd} {cap m : Nat} {i : Int} {W : List Int} (h : RowAt w0 F g o (ints kd W)) (ho : (i < cap ∧ o' = o + i.toNat * 1) ∨ (cap ≤ i ∧ o' = o)) (hl : i < cap) : RowAt w0 F g o' (ints kd ((W.drop i.toNat).take m)) := by
  obtain rfl : o' = o + i.toNat * 1 := by omega
  have := h.mid i.toNat m
  rw [ints_drop, ints_take] at this
  rw [Nat.mul_one]; exact this
theorem runpack_in (w0 : World) (F : List Atom) (a : Option Addr) (nb n c : Nat) (B : List Int) (hB : B.length = nb) (hU : ∀ i, 0 ≤ B.getD i 0 ∧ B.getD i 0 ≤ 255) (hn : nb ≤ 2147483647) (hR : IR w0 F .u8 a nb B) (hcc : ∀ b o, a = some ⟨b, o, none⟩ → nb ≤ c) (hnb : nb = 4 * n) :
    CallK Try.prog 60 [.slice a nb c] w0 (F) (Gives w0 fun v F2 => ∃ a2 c2, v = .tuple #[.slice a2 n c2, .int .i64 0] ∧ (n = 0 ∨ ∃ g, a2 = some ⟨g, 0, none⟩) ∧ F2 = Own 23 1 (.slice a2 n c2) n (ints .u32 (unpB B n)) :: F) := by
  refine c_enter Try.func60 rfl rfl rfl ?_
  refine g_seq ?_
  refine g_region ?_
  refine l_assign rfl rfl ?_
  refine l_assign rfl rfl ?_
  refine l_nil ?_
  refine g_seq ?_
  refine g_seq ?_
  refine g_region ?_
  refine l_move rfl rfl ?_
  refine l_len rfl Try.underlying36 rfl ?_
  refine l_rem rfl rfl rfl (by omega) (by omega) (w_i64 (by omega) (by omega)) ?_
  refine l_neq rfl rfl rfl ?_
  refine l_nil ?_
  refine g_cond rfl ?_ ?_
  · intro hbr
    have hbr := of_decide_eq_true hbr
    (exfalso; omega)
  intro hbr
  have hbr := of_decide_eq_false hbr
  refine g_skip ?_
  refine g_seq ?_
  refine g_region ?_
  refine l_assign rfl rfl ?_
  refine l_nil ?_
  refine g_seq ?_
  refine g_seq ?_
  refine g_region ?_
  refine l_assign rfl rfl ?_
  refine l_nil ?_
  refine g_block ?_
  refine g_own_nil 23 1 ?_
  refine g_loopk (X := Int × Option Addr × Nat) [(0, _), (2, _), (3, _)] (.cons rfl (.cons rfl (.cons rfl (.nil)))) (fun z => 0 ≤ z.1 ∧ z.1 ≤ n ∧ (z.1.toNat = 0 ∨ ∃ g, z.2.1 = some ⟨g, 0, none⟩)) (fun z => (n - z.1).toNat) (fun z => [(4, .slice z.2.1 z.1.toNat z.2.2), (5, .int .i64 (4 * z.1))]) (fun z => Own 23 1 (.slice z.2.1 z.1.toNat z.2.2) z.1.toNat (ints .u32 (unpB B z.1.toNat)) :: F) ((0, none, 0)) (⟨by simp only; omega, by simp only; omega, .inl rfl⟩) (.cons rfl (.cons rfl .nil)) ((fun w hw => hw)) ?_
  rintro ⟨i, a1, c1⟩ ⟨i0, i1, ha1⟩ ih
  dsimp only [List.cons_append, List.nil_append] at ih ⊢
  simp only at i0 i1 ha1
  have hn4 := num4 hU (4 * i.toNat)
  refine g_seq ?_
  refine g_seq ?_
  refine g_region ?_
  refine l_move rfl rfl ?_
  refine l_move rfl rfl ?_
  refine l_len rfl Try.underlying36 rfl ?_
  refine l_lss rfl rfl rfl ?_
  refine l_nil ?_
  refine g_cond rfl ?_ ?_
  · intro hbr
    have hbr := of_decide_eq_true hbr
    refine g_skip ?_
    refine g_seq ?_
    refine g_block ?_
    refine g_region ?_
    refine l_move rfl rfl ?_
    refine l_move rfl rfl ?_
    refine l_move rfl rfl ?_
    refine l_move rfl rfl ?_
    first | refine l_add rfl rfl rfl (w_i64 (by omega) (by omega)) ?_ | refine l_addw rfl rfl rfl ?_
    obtain ⟨b9, o9, rfl, hr9⟩ := hR.some (i := (4 * i).toNat) (by omega)
    have hcw := hcc b9 o9 rfl
    refine l_slice_lh rfl Try.underlying36 Try.sizeOf5 rfl rfl rfl (by omega) (by omega) (by omega) ?_; intro o21 ho21
    rw [show (4 * i + 4).toNat - (4 * i).toNat = 4 by omega]
    refine l_call rfl Try.call80 rfl (rhigh_ok _ _ b9 o21 4 _ ((B.drop (4 * i).toNat).take 4) (by rw [List.length_take, List.length_drop]; omega) (u8_take hU _ _) (by decide) (by decide) (words_mid hr9.ex ho21 (by omega))) ?_; rintro _ _ ⟨rfl, rfl⟩
    rw [numB_take (by omega), show (4 * i).toNat + 0 = 4 * i.toNat by omega]
    refine l_conv rfl Try.underlying53 Try.underlying23 rfl (w_u32 (by omega) (by omega)) ?_
    refine l_buildSlice rfl Try.underlying54 Try.sizeOf23 Try.zeroValue23 rfl rfl rfl rfl rfl rfl ?_; intro b24
    refine l_does rfl (does_apps 1 (by_ := 4) (kd := .u32) (V := unpB B i.toNat) (W := [numB B (4 * i.toNat) 4]) (m := i.toNat) (m2 := 1) (m3 := (i + 1).toNat) (V3 := unpB B (i + 1).toNat) Try.underlying54 Try.type23 rfl rfl rfl rfl rfl rfl rfl ⟨rfl, .inl ⟨_, _, _, rfl, .own (mem_getO 0 rfl)⟩⟩ (by omega) (by simp only [maxLen]; omega) (by omega) (by rw [show (i + 1).toNat = i.toNat + 1 by omega]; exact unpB_snoc _ _) (fun _ _ => rfl)) ?_
    rintro _ _ ⟨a19, c19, ha19, hn19, rfl, rfl⟩
    refine l_assign rfl rfl ?_
    refine l_nil ?_
    refine g_inBlock ?_
    refine g_region ?_
    refine l_move rfl rfl ?_
    first | refine l_add rfl rfl rfl (w_i64 (by omega) (by omega)) ?_ | refine l_addw rfl rfl rfl ?_
    refine l_assign rfl rfl ?_
    refine l_nil ?_
    rw [show 4 * i + 4 = 4 * (i + 1) by omega]
    exact g_againi (ih (i + 1, a19, c19) ⟨by simp only; omega, by simp only; omega, ha19⟩ (by simp only; omega)) (.cons rfl (.cons rfl (.cons rfl (.cons rfl (.cons rfl (.nil))))))
  intro hbr
  have hbr := of_decide_eq_false hbr
  refine g_exit rfl ?_
  obtain rfl : i = n := by omega
  rw [Int.toNat_natCast] at ha1 ⊢
  refine g_seq ?_
  refine g_region ?_
  refine l_move rfl rfl ?_
  refine l_assign rfl rfl ?_
  refine l_assign rfl rfl ?_
  refine l_nil ?_
  refine g_ret Try.func60 rfl (.tmp rfl (.tmp rfl .nil)) ?_
  exact Gives.mki ⟨a1, c1, rfl, ha1, rfl⟩
theorem runpack_bad (w0 : World) (F : List Atom) (a : Option Addr) (nb c : Nat) (hn : nb ≤ 2147483647) (hnb : nb % 4 ≠ 0) :
    CallK Try.prog 60 [.slice a nb c] w0 (F) (Gives w0 fun v F2 => v = .tuple #[.slice none 0 0, .int .i64 12] ∧ F2 = F) := by
  refine c_enter Try.func60 rfl rfl rfl ?_
  refine g_seq ?_
  refine g_region ?_
  refine l_assign rfl rfl ?_
  refine l_assign rfl rfl ?_
  refine l_nil ?_
  refine g_seq ?_
  refine g_seq ?_
  refine g_region ?_
  refine l_move rfl rfl ?_
  refine l_len rfl Try.underlying36 rfl ?_
  refine l_rem rfl rfl rfl (by omega) (by omega) (w_i64 (by omega) (by omega)) ?_
  refine l_neq rfl rfl rfl ?_
  refine l_nil ?_
  refine g_cond rfl ?_ ?_
  · intro hbr
    have hbr := of_decide_eq_true hbr
    refine g_seq ?_
    refine g_region ?_
    refine l_assign rfl rfl ?_
    refine l_assign rfl rfl ?_
    refine l_nil ?_
    refine g_ret Try.func60 rfl (.tmp rfl (.tmp rfl .nil)) ?_
    exact Gives.mki ⟨rfl, rfl⟩
  · intro hbr
    have hbr := of_decide_eq_false hbr
    (exfalso; omega)
theorem rsum_ok (w0 : World) (F : List Atom) (a : Option Addr) (n c : Nat) (W : List Int) (hI : IR w0 F .u8 a n W) (hb : U8s W) (hn : n ≤ 140737488355327) :
    CallK Try.prog 62 [.slice a n c] w0 (F) (Gives w0 fun v F2 => v = .int .u32 (sumV W) ∧ F2 = F) := by
  have hl := hI.1
  refine c_enter Try.func62 rfl rfl rfl ?_
  refine g_seq ?_
  refine g_region ?_
  refine l_assign rfl rfl ?_
  refine l_nil ?_
  refine g_seq ?_
  refine g_region ?_
  refine l_assign rfl rfl ?_
  refine l_nil ?_
  refine g_seq ?_
  refine g_seq ?_
  refine g_region ?_
  refine l_assign rfl rfl ?_
  refine l_nil ?_
  refine g_block ?_
  refine g_loopc (X := Int) [(0, _), (2, _)] (.cons rfl (.cons rfl (.nil))) (fun i => 0 ≤ i ∧ i ≤ n) (fun i => (n - i).toNat) (fun i => [(3, .int .u32 (crcP W i.toNat)), (4, .int .i64 i)]) (0) (by omega) (.cons rfl (.cons rfl .nil)) ?_
  rintro i ⟨i0, i1⟩ ih
  dsimp only [List.cons_append, List.nil_append] at ih ⊢
  have hbi := hb i.toNat
  refine g_seq ?_
  refine g_seq ?_
  refine g_region ?_
  refine l_move rfl rfl ?_
  refine l_move rfl rfl ?_
  refine l_len rfl Try.underlying36 rfl ?_
  refine l_lss rfl rfl rfl ?_
  refine l_nil ?_
  refine g_cond rfl ?_ ?_
  · intro hbr
    have hbr := of_decide_eq_true hbr
    refine g_skip ?_
    refine g_seq ?_
    refine g_block ?_
    refine g_seq ?_
    refine g_region ?_
    refine l_move rfl rfl ?_
    refine l_move rfl rfl ?_
    refine l_move rfl rfl ?_
    obtain ⟨b9, o9, rfl, hr9⟩ := hI.some (i := i.toNat) (by omega)
    refine l_ixs rfl Try.underlying36 Try.sizeOf5 rfl rfl (by omega) (by omega) ?_
    refine l_loadc rfl Try.isAgg5 rfl (word_any hr9 (by omega)) ?_
    first | refine l_conv rfl Try.underlying5 Try.underlying23 rfl (w_u32 (by omega) (by omega)) ?_ | refine l_convm (m := 4294967296) rfl wr_u32 Try.underlying5 Try.underlying23 rfl ?_
    refine l_xor (m := 32) rfl rfl rfl rfl rfl ?_
    refine l_assign rfl rfl ?_
    refine l_nil ?_
    refine g_seq ?_
    refine g_region ?_
    refine l_assign rfl rfl ?_
    refine l_nil ?_
    refine g_block ?_
    refine g_loopc (X := Int) [(0, _), (2, _), (4, _), (7, _), (8, _), (9, _), (10, _), (13, _), (14, _), (15, _), (16, _), (17, _), (18, _), (19, _)] (.cons rfl (.cons rfl (.cons rfl (.cons rfl (.cons rfl (.cons rfl (.cons rfl (.cons rfl (.cons rfl (.cons rfl (.cons rfl (.cons rfl (.cons rfl (.cons rfl (.nil))))))))))))))) (fun j => 0 ≤ j ∧ j ≤ 8) (fun j => (8 - j).toNat) (fun j => [(3, .int .u32 (itr j.toNat (bXor 32 (crcP W i.toNat) (W.getD i.toNat 0)))), (5, .int .i64 j)]) (0) (by omega) (.cons rfl (.cons rfl .nil)) ?_
    rintro j ⟨j0, j1⟩ ihj
    dsimp only [List.cons_append, List.nil_append] at ihj ⊢
    refine g_seq ?_
    refine g_seq ?_
    refine g_region ?_
    refine l_move rfl rfl ?_
    refine l_lss rfl rfl rfl ?_
    refine l_nil ?_
    refine g_cond rfl ?_ ?_
    · intro hbr
      have hbr := of_decide_eq_true hbr
      refine g_skip ?_
      refine g_seq ?_
      refine g_block ?_
      refine g_seq ?_
      refine g_region ?_
      refine l_move rfl rfl ?_
      refine l_and (m := 32) rfl rfl rfl rfl rfl ?_
      refine l_assign rfl rfl ?_
      refine l_nil ?_
      refine g_seq ?_
      refine g_region ?_
      refine l_move rfl rfl ?_
      refine l_shrc (C := 2) rfl rfl rfl (by decide) (by decide) ?_
      refine l_assign rfl rfl ?_
      refine l_nil ?_
      refine g_seq ?_
      refine g_region ?_
      refine l_move rfl rfl ?_
      refine l_eql rfl rfl rfl ?_
      refine l_nil ?_
      refine g_cond rfl ?_ ?_
      · intro hbr
        have hbr := of_decide_eq_true hbr
        refine g_region ?_
        refine l_move rfl rfl ?_
        refine l_xor (m := 32) rfl rfl rfl rfl rfl ?_
        refine l_assign rfl rfl ?_
        refine l_nil ?_
        refine g_inBlock ?_
        refine g_region ?_
        refine l_move rfl rfl ?_
        first | refine l_add rfl rfl rfl (w_i64 (by omega) (by omega)) ?_ | refine l_addw rfl rfl rfl ?_
        refine l_assign rfl rfl ?_
        refine l_nil ?_
        (first | rw [crc1_t hbr] | rw [crc1_f hbr])
        rw [show crc1 (itr j.toNat (bXor 32 (crcP W i.toNat) (W.getD i.toNat 0))) = itr (j + 1).toNat (bXor 32 (crcP W i.toNat) (W.getD i.toNat 0)) by rw [show (j + 1).toNat = j.toNat + 1 by omega]; rfl]
        exact g_againi (ihj (j + 1) (by omega) (by omega)) (.cons rfl (.cons rfl (.cons rfl (.cons rfl (.cons rfl (.cons rfl (.cons rfl (.cons rfl (.cons rfl (.cons rfl (.cons rfl (.cons rfl (.cons rfl (.cons rfl (.cons rfl (.cons rfl (.nil)))))))))))))))))
      intro hbr
      have hbr := of_decide_eq_false hbr
      refine g_skip ?_
      refine g_inBlock ?_
      refine g_region ?_
      refine l_move rfl rfl ?_
      first | refine l_add rfl rfl rfl (w_i64 (by omega) (by omega)) ?_ | refine l_addw rfl rfl rfl ?_
      refine l_assign rfl rfl ?_
      refine l_nil ?_
      (first | rw [crc1_t hbr] | rw [crc1_f hbr])
      rw [show crc1 (itr j.toNat (bXor 32 (crcP W i.toNat) (W.getD i.toNat 0))) = itr (j + 1).toNat (bXor 32 (crcP W i.toNat) (W.getD i.toNat 0)) by rw [show (j + 1).toNat = j.toNat + 1 by omega]; rfl]
      exact g_againi (ihj (j + 1) (by omega) (by omega)) (.cons rfl (.cons rfl (.cons rfl (.cons rfl (.cons rfl (.cons rfl (.cons rfl (.cons rfl (.cons rfl (.cons rfl (.cons rfl (.cons rfl (.cons rfl (.cons rfl (.cons rfl (.cons rfl (.nil)))))))))))))))))
    intro hbr
    have hbr := of_decide_eq_false hbr
    refine g_exit rfl ?_
    obtain rfl : j = 8 := by omega
    refine g_inBlock ?_
    refine g_region ?_
    refine l_move rfl rfl ?_
    first | refine l_add rfl rfl rfl (w_i64 (by omega) (by omega)) ?_ | refine l_addw rfl rfl rfl ?_
    refine l_assign rfl rfl ?_
    refine l_nil ?_
    rw [show itr (8 : Int).toNat (bXor 32 (crcP W i.toNat) (W.getD i.toNat 0)) = crcP W (i + 1).toNat by rw [show (i + 1).toNat = i.toNat + 1 by omega]; rfl]
    exact g_againi (ih (i + 1) (by omega) (by omega)) (.cons rfl (.cons rfl (.cons rfl (.cons rfl (.nil)))))
  intro hbr
  have hbr := of_decide_eq_false hbr
  refine g_exit rfl ?_
  obtain rfl : i = n := by omega
  rw [Int.toNat_natCast]
  refine g_seq ?_
  refine g_region ?_
  refine l_move rfl rfl ?_
  refine l_xor (m := 32) rfl rfl rfl rfl rfl ?_
  refine l_assign rfl rfl ?_
  refine l_nil ?_
  refine g_ret Try.func62 rfl (.tmp rfl .nil) ?_
  exact Gives.mki ⟨by unfold sumV; rw [hl, bXor_comm]; rfl, rfl⟩
/-- A list that is handed in: one of no entries may lie anywhere. -/
def RA (w0 : World) (F : List Atom) (kd : IntKind) (a : Option Addr) (n c : Nat) (W : List Int) : Prop := W.length = n ∧ ((n = 0 ∧ (a = none → c = 0)) ∨ ∃ b o, a = some ⟨b, o, none⟩ ∧ RowAt w0 F b o (ints kd W))
theorem RA.ir {w0 : World} {F : List Atom} {kd a n c W} (h : RA w0 F kd a n c W) : IR w0 F kd a n W := ⟨h.1, h.2.imp And.left id⟩
theorem RA.ex {w0 : World} {F0 F : List Atom} {kd a n c W} (h : RA w0 F0 kd a n c W) [e : Ext F0 F] : RA w0 F kd a n c W := ⟨h.1, h.2.imp id fun ⟨b, o, h1, h2⟩ => ⟨b, o, h1, h2.ex⟩⟩
theorem RA.of {w0 : World} {F : List Atom} {kd : IntKind} {a : Option Addr} {n c : Nat} {W : List Int} (h : Reads w0 F (.slice a n c) n 1 (ints kd W)) (hW : W.length = n) : RA w0 F kd a n c W := ⟨hW, by
  rcases h.2 with ⟨b, o, cap, hv, hr⟩ | ⟨hv, h0⟩
  · injection hv with e1 _ _
    exact .inr ⟨b, o, e1, hr⟩
  · injection hv with e1 _ e2
    exact .inl ⟨h0, fun _ => e2⟩⟩
theorem does_appa {P : Program} {w0 : World} {e : Env} {F : List Atom} {ty : TypeId} {pos : String} {aft : Array Edge} {t x y T E by_ n a2 c2 inf z v} {F1 : Option Addr → Nat → List Atom} {kd : IntKind} {W : List Int} (i : Nat) (hT : P.underlying T = some (.slice E)) (hi : P.info? E = some inf) (hz : inf.zero = some z) (hsz : inf.size = 1) (hby : inf.bytes = by_) (hzs : z.cells.size = 1)
    (hx : evO e x = some v) (hy : evO e y = some (.slice a2 n c2)) (hF : getO F i = some (Own E 1 v 0 (ints kd []))) (hu : RA w0 F kd a2 n c2 W) (hb : (0 + n) * by_ ≤ 140737488355328) (h63 : 0 + n ≤ maxLen)
    (hset : ∀ a c, setO F i (Own E 1 (.slice a n c) n (ints kd W)) = some (F1 a c)) :
    Does P w0 (.mk (some t) (.call ⟨.builtin .append, #[x, y], #[T, T]⟩) ty pos aft none) e F (fun v' F2 => ∃ a c, (n = 0 ∨ ∃ g, a = some ⟨g, 0, none⟩) ∧ (a = none → n = 0) ∧ v' = .slice a n c ∧ F2 = F1 a c) := by
  have hgo : Reads w0 F (.slice a2 n c2) n 1 (ints kd W) → Does P w0 (.mk (some t) (.call ⟨.builtin .append, #[x, y], #[T, T]⟩) ty pos aft none) e F (fun v' F2 => ∃ a c, (n = 0 ∨ ∃ g, a = some ⟨g, 0, none⟩) ∧ (a = none → n = 0) ∧ v' = .slice a n c ∧ F2 = F1 a c) := fun hr => does_apps i hT hi hz hsz hby hzs hx hy hF hr hb h63 (Nat.zero_add _) (List.nil_append _) hset
  obtain ⟨hl, ⟨h0, hc⟩ | ⟨b, o, rfl, hr⟩⟩ := hu
  · obtain rfl : W = [] := List.eq_nil_of_length_eq_zero (hl.trans h0)
    subst h0
    cases a2 with
    | none =>
      obtain rfl := hc rfl
      exact hgo ⟨rfl, .inr ⟨rfl, rfl⟩⟩
    | some ad =>
      intro ρ w ha hw
      have hlt : i < F.length := (List.getElem?_eq_some_iff.1 (getO_eq hF)).1
      have hargs : (#[x, y] : Array Operand).map ρ = [v, .slice (some ad) 0 c2].toArray := kn_args (xs := [x, y]) ha (by simp [evL, hx, hy])
      obtain ⟨l', h1', _⟩ := perm_set (a' := Own E 1 v 0 (ints kd [])) (getO_eq hF)
      obtain ⟨v', w', hr, hw', hn⟩ := run_append_atom (P := P) (ty := ty) (c := c2) (m := 0) (news := []) (a := ad) hT hi hz hsz hby hzs (by decide) (hw.perm h1') rfl (fun j u hj => by simp at hj) rfl hb h63
      obtain ⟨l2, h2, h3⟩ := perm_set (a' := Own E 1 v' 0 (ints kd [])) (getO_eq hF)
      have hw2 : Holds w0 (F.set i (Own E 1 v' 0 (ints kd []))) w' := (hw'.perm ((((h1'.symm.trans h2).cons_inv).cons _))).perm h3.symm
      obtain ⟨a, c, rfl, h1, h4⟩ := slice_of_own (List.mem_set hlt _) hw2
      refine .inl ⟨_, w', F1 a c, .inl (run_builtin ρ hargs (by simp only [builtin]; exact run_value hr)), ?_, a, c, h1, h4, rfl, rfl⟩
      rw [(setO_eq (hset a c)).2]
      exact hw2
  · exact hgo ⟨by rw [ints_length, hl, Nat.mul_one], .inl ⟨b, o, c2, rfl, hr⟩⟩
theorem vnum_ok (w0 : World) (F : List Atom) (bx : Nat) (a : Option Addr) (n c : Nat) (B : List Int) (hB : B.length = n) (ha : n = 0 ∨ ∃ g, a = some ⟨g, 0, none⟩) (hnk : n ≤ 4398046511104) (x k : Int) (x0 : 0 ≤ x) (x1 : x ≤ 18446744073709551615) (k0 : 0 ≤ k) (k1 : k ≤ 8) (B0 : List Int) (hB0 : B ++ lowB x k.toNat = B0) (m : Nat) (hm : n + k.toNat = m) :
    CallK Try.prog 63 [.pointer (some ⟨bx, 0, none⟩), .int .u64 x, .int .i64 k] w0 (Blk bx (.cells [Value.slice a n c].toArray 90 (0, 0)) :: Own 5 1 (.slice a n c) n (ints .u8 B) :: F) (Gives w0 fun v F2 => ∃ a2 c2, (m = 0 ∨ ∃ g, a2 = some ⟨g, 0, none⟩) ∧ F2 = Blk bx (.cells [Value.slice a2 m c2].toArray 90 (0, 0)) :: Own 5 1 (.slice a2 m c2) m (ints .u8 B0) :: F) := by
  refine c_enter Try.func63 rfl rfl rfl ?_
  refine g_region ?_
  refine l_move rfl rfl ?_
  refine l_move rfl rfl ?_
  refine l_nilCheck rfl rfl ?_
  refine l_fieldAddr rfl fa_90_0 rfl ?_
  refine l_ld rfl Try.isAgg36 rfl rfl ?_
  refine l_move rfl rfl ?_
  refine l_move rfl rfl ?_
  refine l_frontv (.slice a n c) ?_
  refine l_call rfl Try.call79 rfl (rlow_ok _ _ a n c B hB ha x k x0 x1 k0 k1 hnk B0 hB0 m hm) ?_; rintro _ _ ⟨a2, c2, rfl, ha2, rfl⟩
  refine l_nilCheck rfl rfl ?_
  refine l_fieldAddr rfl fa_90_0 rfl ?_
  refine l_st Try.sizeOf36 rfl rfl rfl rfl ?_
  refine l_nil ?_
  refine g_end Try.func63 rfl .nil ?_
  exact Gives.mki ⟨a2, c2, ha2, rfl⟩
theorem vtext_ok (w0 : World) (F : List Atom) (bx : Nat) (a : Option Addr) (n c : Nat) (B : List Int) (hB : B.length = n) (ha : n = 0 ∨ ∃ g, a = some ⟨g, 0, none⟩) (hnk : n ≤ 4398046511104) (z : ByteArray) (hz : z.size ≤ 4294967295) (B0 : List Int) (hB0 : B ++ (lowB (z.size : Int) 4 ++ bytesI z) = B0) :
    CallK Try.prog 64 [.pointer (some ⟨bx, 0, none⟩), .string z] w0 (Blk bx (.cells [Value.slice a n c].toArray 90 (0, 0)) :: Own 5 1 (.slice a n c) n (ints .u8 B) :: F) (Gives w0 fun v F2 => ∃ a2 c2, (n + 4 + z.size = 0 ∨ ∃ g, a2 = some ⟨g, 0, none⟩) ∧ F2 = Blk bx (.cells [Value.slice a2 (n + 4 + z.size) c2].toArray 90 (0, 0)) :: Own 5 1 (.slice a2 (n + 4 + z.size) c2) (n + 4 + z.size) (ints .u8 B0) :: F) := by
  refine c_enter Try.func64 rfl rfl rfl ?_
  refine g_seq ?_
  refine g_region ?_
  refine l_move rfl rfl ?_
  refine l_move rfl rfl ?_
  refine l_nilCheck rfl rfl ?_
  refine l_fieldAddr rfl fa_90_0 rfl ?_
  refine l_ld rfl Try.isAgg36 rfl rfl ?_
  refine l_move rfl rfl ?_
  refine l_lens rfl Try.underlying9 rfl ?_
  first | refine l_conv rfl Try.underlying3 Try.underlying53 rfl (w_u64 (by omega) (by omega)) ?_ | refine l_convm (m := 18446744073709551616) rfl wr_u64 Try.underlying3 Try.underlying53 rfl ?_
  refine l_frontv (.slice a n c) ?_
  refine l_call rfl Try.call79 rfl (rlow_ok _ _ a n c B hB ha _ 4 (by omega) (by omega) (by omega) (by omega) hnk _ rfl _ rfl) ?_; rintro _ _ ⟨a2, c2, rfl, ha2, rfl⟩
  refine l_nilCheck rfl rfl ?_
  refine l_fieldAddr rfl fa_90_0 rfl ?_
  refine l_st Try.sizeOf36 rfl rfl rfl rfl ?_
  refine l_nil ?_
  refine g_region ?_
  refine l_move rfl rfl ?_
  refine l_move rfl rfl ?_
  refine l_nilCheck rfl rfl ?_
  refine l_fieldAddr rfl fa_90_0 rfl ?_
  refine l_ld rfl Try.isAgg36 rfl rfl ?_
  refine l_move rfl rfl ?_
  refine l_does rfl (does_app_str 0 (V := B ++ lowB (z.size : Int) 4) (m := n + 4) (m3 := n + 4 + z.size) Try.underlying36 Try.underlying9 Try.type5 rfl rfl rfl rfl rfl rfl (by omega) rfl (fun _ _ => rfl)) ?_
  rintro _ _ ⟨a3, c3, ha3, hn3, rfl, rfl⟩
  refine l_nilCheck rfl rfl ?_
  refine l_fieldAddr rfl fa_90_0 rfl ?_
  refine l_st Try.sizeOf36 rfl rfl rfl rfl ?_
  refine l_nil ?_
  refine g_end Try.func64 rfl .nil ?_
  exact Gives.mki ⟨a3, c3, ha3, by rw [← hB0, ← List.append_assoc]⟩
theorem rdN_ok4 {B : List Int} {p : Int} (h : ¬ (B.length : Int) - p < 4) : rdN B p 0 4 = (numB B p.toNat 4, p + 4, 0) := rdN_ok rfl h
theorem rnewr_ok (w0 : World) (F : List Atom) (a : Option Addr) (n c : Nat) (B : List Int) (hR : RA w0 F .u8 a n c B) (hn : n ≤ 140737488355327) :
    CallK Try.prog 50 [.slice a n c] w0 (F) (Gives w0 fun v F2 => ∃ by_ a2 c2, v = .pointer (some ⟨by_, 0, none⟩) ∧ (n = 0 ∨ ∃ g, a2 = some ⟨g, 0, none⟩) ∧ n ≤ c2 ∧ F2 = Blk by_ (.cells [Value.slice a2 n c2, .int .i64 0, .int .i64 0].toArray 99 (0, 0)) :: Own 5 1 (.slice a2 n c2) n (ints .u8 B) :: F) := by
  refine c_enter Try.func50 rfl rfl rfl ?_
  refine g_seq ?_
  refine g_region ?_
  refine l_assign rfl rfl ?_
  refine l_nil ?_
  refine g_seq ?_
  refine g_region ?_
  refine l_build rfl rfl (fun w => bd_99_z w) ?_
  refine l_boxs rfl rfl ?_; intro b5
  refine l_assign rfl rfl ?_
  refine l_nil ?_
  refine g_seq ?_
  refine g_region ?_
  refine l_move rfl rfl ?_
  refine l_move rfl rfl ?_
  refine l_nilCheck rfl rfl ?_
  refine l_fieldAddr rfl fa_99_0 rfl ?_
  refine l_ld rfl Try.isAgg36 rfl rfl ?_
  refine l_move rfl rfl ?_
  refine l_own_nil 5 1 ?_
  refine l_does rfl (does_appa 0 (by_ := 1) (kd := .u8) (W := B) Try.underlying36 Try.type5 rfl rfl rfl rfl rfl rfl rfl hR.ex (by omega) (by simp only [maxLen]; omega) (fun _ _ => rfl)) ?_
  rintro _ _ ⟨a12, c12, ha12, hn12, rfl, rfl⟩
  refine l_fact (own_cases (mem_getO 0 rfl)) ?_; intro hown
  have hc12 : n ≤ c12 := by
    rcases hown.2.2 with ⟨_, h⟩ | ⟨g9, cp, h, h2⟩
    · omega
    · injection h with _ _ h3
      omega
  refine l_nilCheck rfl rfl ?_
  refine l_fieldAddr rfl fa_99_0 rfl ?_
  refine l_st Try.sizeOf36 rfl rfl rfl rfl ?_
  refine l_nil ?_
  refine g_seq ?_
  refine g_region ?_
  refine l_move rfl rfl ?_
  refine l_assign rfl rfl ?_
  refine l_nil ?_
  refine g_ret Try.func50 rfl (.tmp rfl .nil) ?_
  exact Gives.mki ⟨b5, a12, c12, rfl, ha12, hc12, rfl⟩
theorem qnum_ok (w0 : World) (F : List Atom) (by_ : Nat) (a : Option Addr) (n c : Nat) (B : List Int) (hB : B.length = n) (ha : n = 0 ∨ ∃ g, a = some ⟨g, 0, none⟩) (hc : n ≤ c) (hU : ∀ i, 0 ≤ B.getD i 0 ∧ B.getD i 0 ≤ 255) (hn : n ≤ 140737488355327) (p q : Int) (p0 : 0 ≤ p) (p1 : p ≤ n) (q0 : 0 ≤ q) (q1 : q ≤ 20) (k : Int) (k0 : 1 ≤ k) (k1 : k ≤ 8) :
    CallK Try.prog 65 [.pointer (some ⟨by_, 0, none⟩), .int .i64 k] w0 (Blk by_ (.cells [Value.slice a n c, .int .i64 p, .int .i64 q].toArray 99 (0, 0)) :: Own 5 1 (.slice a n c) n (ints .u8 B) :: F) (Gives w0 fun v F2 => ∃ m p2 q2, rdN B p q k = (m, p2, q2) ∧ v = .int .u64 m ∧ F2 = Blk by_ (.cells [Value.slice a n c, .int .i64 p2, .int .i64 q2].toArray 99 (0, 0)) :: Own 5 1 (.slice a n c) n (ints .u8 B) :: F) := by
  refine c_enter Try.func65 rfl rfl rfl ?_
  refine g_seq ?_
  refine g_region ?_
  refine l_assign rfl rfl ?_
  refine l_nil ?_
  refine g_seq ?_
  refine g_seq ?_
  refine g_region ?_
  refine l_move rfl rfl ?_
  refine l_nilCheck rfl rfl ?_
  refine l_fieldAddr rfl fa_99_2 rfl ?_
  first | refine l_ld rfl Try.isAgg26 rfl rfl ?_ | refine l_ldw rfl Try.isAgg26 rfl (by omega) ?_
  refine l_neq rfl rfl rfl ?_
  refine l_nil ?_
  refine g_cond rfl ?_ ?_
  · intro hbr
    have hbr := of_decide_eq_true hbr
    refine g_seq ?_
    refine g_region ?_
    refine l_assign rfl rfl ?_
    refine l_nil ?_
    refine g_ret Try.func65 rfl (.tmp rfl .nil) ?_
    (first | exact Gives.mki ⟨_, _, _, rdN_flt (by omega), rfl, rfl⟩ | exact Gives.mki ⟨_, _, _, rdN_short (by omega) (by omega), rfl, rfl⟩ | (rw [show q = 0 by omega]; exact Gives.mki ⟨_, _, _, rdN_ok (by omega) (by omega), rfl, rfl⟩))
  intro hbr
  have hbr := of_decide_eq_false hbr
  refine g_skip ?_
  refine g_seq ?_
  refine g_seq ?_
  refine gp_start mo (by kernel_rfl) (by kernel_rfl) ?_
  refine gp_quiet 0 rfl rfl rfl rfl rfl rfl (q_move rfl) ?_
  refine gp_quiet 1 rfl rfl rfl rfl rfl rfl (q_nilCheck rfl) ?_
  refine gp_quiet 2 rfl rfl rfl rfl rfl rfl (q_fieldAddr fa_99_0 rfl) ?_
  refine gp_quiet 3 rfl rfl rfl rfl rfl rfl (q_ld Try.isAgg36 rfl rfl) ?_
  refine gp_quiet 4 rfl rfl rfl rfl rfl rfl (q_len Try.underlying36 rfl) ?_
  refine gp_quiet 5 rfl rfl rfl rfl rfl rfl (q_move rfl) ?_
  refine gp_quiet 6 rfl rfl rfl rfl rfl rfl (q_nilCheck rfl) ?_
  refine gp_quiet 7 rfl rfl rfl rfl rfl rfl (q_fieldAddr fa_99_1 rfl) ?_
  first | refine gp_quiet 8 rfl rfl rfl rfl rfl rfl (q_ld Try.isAgg3 rfl rfl) ?_ | refine gp_quiet 8 rfl rfl rfl rfl rfl rfl (q_ldw Try.isAgg3 rfl (by omega)) ?_
  first | refine gp_quiet 9 rfl rfl rfl rfl rfl rfl (q_sub_ rfl rfl (w_i64 (by omega) (by omega))) ?_ | refine gp_quiet 9 rfl rfl rfl rfl rfl rfl (q_subw rfl rfl) ?_
  refine gp_quiet 10 rfl rfl rfl rfl rfl rfl (q_move rfl) ?_
  refine gp_quiet 11 rfl rfl rfl rfl rfl rfl (q_lss rfl rfl) ?_
  refine gp_end rfl rfl ?_
  refine g_cond rfl ?_ ?_
  · intro hbr
    have hbr := of_decide_eq_true hbr
    refine g_seq ?_
    refine g_region ?_
    refine l_move rfl rfl ?_
    refine l_nilCheck rfl rfl ?_
    refine l_fieldAddr rfl fa_99_2 rfl ?_
    first | refine l_st Try.sizeOf26 rfl rfl rfl rfl ?_ | refine l_stw Try.sizeOf26 rfl rfl (by omega) ?_
    refine l_nil ?_
    refine g_seq ?_
    refine g_region ?_
    refine l_assign rfl rfl ?_
    refine l_nil ?_
    refine g_ret Try.func65 rfl (.tmp rfl .nil) ?_
    (first | exact Gives.mki ⟨_, _, _, rdN_flt (by omega), rfl, rfl⟩ | exact Gives.mki ⟨_, _, _, rdN_short (by omega) (by omega), rfl, rfl⟩ | (rw [show q = 0 by omega]; exact Gives.mki ⟨_, _, _, rdN_ok (by omega) (by omega), rfl, rfl⟩))
  intro hbr
  have hbr := of_decide_eq_false hbr
  refine g_skip ?_
  refine g_seq ?_
  refine gp_start mo (by kernel_rfl) (by kernel_rfl) ?_
  obtain ⟨g, rfl⟩ := ha.resolve_left (by omega)
  refine gp_quiet 0 rfl rfl rfl rfl rfl rfl (q_move rfl) ?_
  refine gp_quiet 1 rfl rfl rfl rfl rfl rfl (q_nilCheck rfl) ?_
  refine gp_quiet 2 rfl rfl rfl rfl rfl rfl (q_fieldAddr fa_99_0 rfl) ?_
  refine gp_quiet 3 rfl rfl rfl rfl rfl rfl (q_ld Try.isAgg36 rfl rfl) ?_
  refine gp_quiet 4 rfl rfl rfl rfl rfl rfl (q_move rfl) ?_
  refine gp_quiet 5 rfl rfl rfl rfl rfl rfl (q_nilCheck rfl) ?_
  refine gp_quiet 6 rfl rfl rfl rfl rfl rfl (q_fieldAddr fa_99_1 rfl) ?_
  first | refine gp_quiet 7 rfl rfl rfl rfl rfl rfl (q_ld Try.isAgg3 rfl rfl) ?_ | refine gp_quiet 7 rfl rfl rfl rfl rfl rfl (q_ldw Try.isAgg3 rfl (by omega)) ?_
  refine gp_quiet 8 rfl rfl rfl rfl rfl rfl (q_move rfl) ?_
  refine gp_quiet 9 rfl rfl rfl rfl rfl rfl (q_nilCheck rfl) ?_
  refine gp_quiet 10 rfl rfl rfl rfl rfl rfl (q_fieldAddr fa_99_1 rfl) ?_
  first | refine gp_quiet 11 rfl rfl rfl rfl rfl rfl (q_ld Try.isAgg3 rfl rfl) ?_ | refine gp_quiet 11 rfl rfl rfl rfl rfl rfl (q_ldw Try.isAgg3 rfl (by omega)) ?_
  refine gp_quiet 12 rfl rfl rfl rfl rfl rfl (q_move rfl) ?_
  first | refine gp_quiet 13 rfl rfl rfl rfl rfl rfl (q_add rfl rfl (w_i64 (by omega) (by omega))) ?_ | refine gp_quiet 13 rfl rfl rfl rfl rfl rfl (q_addw rfl rfl) ?_
  refine gp_quiet 14 rfl rfl rfl rfl rfl rfl (q_slice_lh Try.underlying36 Try.sizeOf5 rfl rfl rfl (by omega) (by omega) (by omega)) ?_
  refine gp_effa 15 [14] [13, 12, 11, 10, 9, 8, 7, 6, 5, 4, 3, 2, 1, 0] rfl rfl rfl rfl rfl rfl rfl (does_call Try.call80 rfl (rhigh_ok _ _ g _ _ _ ((B.drop p.toNat).take ((p + k).toNat - p.toNat)) (by rw [List.length_take, List.length_drop]; omega) (u8_take hU _ _) (by omega) (by omega) (words_part (.own (mem_getO 1 rfl)) sloff_spec (by omega)))) ?_
  rintro _ _ ⟨rfl, rfl⟩
  rw [numB_take (by omega), Nat.add_zero p.toNat, show (p + k).toNat - p.toNat = k.toNat by omega]
  refine ⟨?_, ?_⟩
  · first | refine .cons rfl rfl rfl rfl rfl (q_add rfl rfl (w_i64 (by omega) (by omega))) ?_ | refine .cons rfl rfl rfl rfl rfl (q_addw rfl rfl) ?_
    refine .cons rfl rfl rfl rfl rfl (q_move rfl) ?_
    first | refine .cons rfl rfl rfl rfl rfl (q_ld Try.isAgg3 rfl rfl) ?_ | refine .cons rfl rfl rfl rfl rfl (q_ldw Try.isAgg3 rfl (by omega)) ?_
    refine .cons rfl rfl rfl rfl rfl (q_fieldAddr fa_99_1 rfl) ?_
    refine .cons rfl rfl rfl rfl rfl (q_nilCheck rfl) ?_
    refine .cons rfl rfl rfl rfl rfl (q_move rfl) ?_
    first | refine .cons rfl rfl rfl rfl rfl (q_ld Try.isAgg3 rfl rfl) ?_ | refine .cons rfl rfl rfl rfl rfl (q_ldw Try.isAgg3 rfl (by omega)) ?_
    refine .cons rfl rfl rfl rfl rfl (q_fieldAddr fa_99_1 rfl) ?_
    refine .cons rfl rfl rfl rfl rfl (q_nilCheck rfl) ?_
    refine .cons rfl rfl rfl rfl rfl (q_move rfl) ?_
    refine .cons rfl rfl rfl rfl rfl (q_ld Try.isAgg36 rfl rfl) ?_
    refine .cons rfl rfl rfl rfl rfl (q_fieldAddr fa_99_0 rfl) ?_
    refine .cons rfl rfl rfl rfl rfl (q_nilCheck rfl) ?_
    refine .cons rfl rfl rfl rfl rfl (q_move rfl) ?_
    exact .nil
  refine gp_quiet 16 rfl rfl rfl rfl rfl rfl (q_assign rfl) ?_
  refine gp_end rfl rfl ?_
  refine g_seq ?_
  refine g_region ?_
  refine l_move rfl rfl ?_
  refine l_move rfl rfl ?_
  refine l_nilCheck rfl rfl ?_
  refine l_fieldAddr rfl fa_99_1 rfl ?_
  first | refine l_ld rfl Try.isAgg3 rfl rfl ?_ | refine l_ldw rfl Try.isAgg3 rfl (by omega) ?_
  refine l_move rfl rfl ?_
  first | refine l_add rfl rfl rfl (w_i64 (by omega) (by omega)) ?_ | refine l_addw rfl rfl rfl ?_
  refine l_nilCheck rfl rfl ?_
  refine l_fieldAddr rfl fa_99_1 rfl ?_
  first | refine l_st Try.sizeOf3 rfl rfl rfl rfl ?_ | refine l_stw Try.sizeOf3 rfl rfl (by omega) ?_
  refine l_nil ?_
  refine g_seq ?_
  refine g_region ?_
  refine l_move rfl rfl ?_
  refine l_assign rfl rfl ?_
  refine l_nil ?_
  refine g_ret Try.func65 rfl (.tmp rfl .nil) ?_
  (first | exact Gives.mki ⟨_, _, _, rdN_flt (by omega), rfl, rfl⟩ | exact Gives.mki ⟨_, _, _, rdN_short (by omega) (by omega), rfl, rfl⟩ | (rw [show q = 0 by omega]; exact Gives.mki ⟨_, _, _, rdN_ok (by omega) (by omega), rfl, rfl⟩))
set_option maxHeartbeats 1000000 in
theorem qtext_ok (w0 : World) (F : List Atom) (by_ : Nat) (a : Option Addr) (n c : Nat) (B : List Int) (hB : B.length = n) (ha : n = 0 ∨ ∃ g, a = some ⟨g, 0, none⟩) (hc : n ≤ c) (hU : ∀ i, 0 ≤ B.getD i 0 ∧ B.getD i 0 ≤ 255) (hn : n ≤ 140737488355327) (p q : Int) (p0 : 0 ≤ p) (p1 : p ≤ n) (q0 : 0 ≤ q) (q1 : q ≤ 20) (most : Int) (most0 : -9223372036854775808 ≤ most) (most1 : most ≤ 9223372036854775807) :
    CallK Try.prog 66 [.pointer (some ⟨by_, 0, none⟩), .int .i64 most] w0 (Blk by_ (.cells [Value.slice a n c, .int .i64 p, .int .i64 q].toArray 99 (0, 0)) :: Own 5 1 (.slice a n c) n (ints .u8 B) :: F) (Gives w0 fun v F2 => ∃ T p2 q2, rdT B p q most = (T, p2, q2) ∧ v = .string (strOfNums T) ∧ F2 = Blk by_ (.cells [Value.slice a n c, .int .i64 p2, .int .i64 q2].toArray 99 (0, 0)) :: Own 5 1 (.slice a n c) n (ints .u8 B) :: F) := by
  refine c_enter Try.func66 rfl rfl rfl ?_
  refine g_seq ?_
  refine g_region ?_
  refine l_assign rfl rfl ?_
  refine l_nil ?_
  refine g_seq ?_
  refine g_seq ?_
  refine g_region ?_
  refine l_move rfl rfl ?_
  refine l_nilCheck rfl rfl ?_
  refine l_fieldAddr rfl fa_99_2 rfl ?_
  first | refine l_ld rfl Try.isAgg26 rfl rfl ?_ | refine l_ldw rfl Try.isAgg26 rfl (by omega) ?_
  refine l_neq rfl rfl rfl ?_
  refine l_nil ?_
  refine g_cond rfl ?_ ?_
  · intro hbr
    have hbr := of_decide_eq_true hbr
    refine g_seq ?_
    refine g_region ?_
    refine l_assign rfl rfl ?_
    refine l_nil ?_
    refine g_ret Try.func66 rfl (.tmp rfl .nil) ?_
    (first
      | exact Gives.mki ⟨_, _, _, rdT_flt (by omega), rfl, rfl⟩
      | (obtain rfl : q = 0 := by omega
         first
         | exact Gives.mki ⟨_, _, _, rdT_num rfl (rdN_short (by omega) (by omega)) (by decide), rfl, rfl⟩
         | exact Gives.mki ⟨_, _, _, rdT_most rfl (rdN_ok4 (by omega)) rfl (by omega), rfl, rfl⟩
         | exact Gives.mki ⟨_, _, _, rdT_short rfl (rdN_ok4 (by omega)) rfl (by omega) (by omega), rfl, rfl⟩
         | exact Gives.mki ⟨_, _, _, rdT_ok rfl (rdN_ok4 (by omega)) rfl (by omega) (by omega), rfl, rfl⟩))
  intro hbr
  have hbr := of_decide_eq_false hbr
  refine g_skip ?_
  refine g_seq ?_
  refine g_seq ?_
  refine gp_start mo (by kernel_rfl) (by kernel_rfl) ?_
  refine gp_quiet 0 rfl rfl rfl rfl rfl rfl (q_move rfl) ?_
  refine gp_quiet 1 rfl rfl rfl rfl rfl rfl (q_nilCheck rfl) ?_
  refine gp_quiet 2 rfl rfl rfl rfl rfl rfl (q_fieldAddr fa_99_0 rfl) ?_
  refine gp_quiet 3 rfl rfl rfl rfl rfl rfl (q_ld Try.isAgg36 rfl rfl) ?_
  refine gp_quiet 4 rfl rfl rfl rfl rfl rfl (q_len Try.underlying36 rfl) ?_
  refine gp_quiet 5 rfl rfl rfl rfl rfl rfl (q_move rfl) ?_
  refine gp_quiet 6 rfl rfl rfl rfl rfl rfl (q_nilCheck rfl) ?_
  refine gp_quiet 7 rfl rfl rfl rfl rfl rfl (q_fieldAddr fa_99_1 rfl) ?_
  first | refine gp_quiet 8 rfl rfl rfl rfl rfl rfl (q_ld Try.isAgg3 rfl rfl) ?_ | refine gp_quiet 8 rfl rfl rfl rfl rfl rfl (q_ldw Try.isAgg3 rfl (by omega)) ?_
  first | refine gp_quiet 9 rfl rfl rfl rfl rfl rfl (q_sub_ rfl rfl (w_i64 (by omega) (by omega))) ?_ | refine gp_quiet 9 rfl rfl rfl rfl rfl rfl (q_subw rfl rfl) ?_
  refine gp_quiet 10 rfl rfl rfl rfl rfl rfl (q_lss rfl rfl) ?_
  refine gp_end rfl rfl ?_
  refine g_cond rfl ?_ ?_
  · intro hbr
    have hbr := of_decide_eq_true hbr
    refine g_seq ?_
    refine g_region ?_
    refine l_move rfl rfl ?_
    refine l_nilCheck rfl rfl ?_
    refine l_fieldAddr rfl fa_99_2 rfl ?_
    first | refine l_st Try.sizeOf26 rfl rfl rfl rfl ?_ | refine l_stw Try.sizeOf26 rfl rfl (by omega) ?_
    refine l_nil ?_
    refine g_seq ?_
    refine g_region ?_
    refine l_assign rfl rfl ?_
    refine l_nil ?_
    refine g_ret Try.func66 rfl (.tmp rfl .nil) ?_
    (first
      | exact Gives.mki ⟨_, _, _, rdT_flt (by omega), rfl, rfl⟩
      | (obtain rfl : q = 0 := by omega
         first
         | exact Gives.mki ⟨_, _, _, rdT_num rfl (rdN_short (by omega) (by omega)) (by decide), rfl, rfl⟩
         | exact Gives.mki ⟨_, _, _, rdT_most rfl (rdN_ok4 (by omega)) rfl (by omega), rfl, rfl⟩
         | exact Gives.mki ⟨_, _, _, rdT_short rfl (rdN_ok4 (by omega)) rfl (by omega) (by omega), rfl, rfl⟩
         | exact Gives.mki ⟨_, _, _, rdT_ok rfl (rdN_ok4 (by omega)) rfl (by omega) (by omega), rfl, rfl⟩))
  intro hbr
  have hbr := of_decide_eq_false hbr
  refine g_skip ?_
  refine g_seq ?_
  refine g_seq ?_
  refine g_region ?_
  refine l_move rfl rfl ?_
  refine l_lss rfl rfl rfl ?_
  refine l_nil ?_
  refine g_cond rfl ?_ ?_
  · intro hbr
    have hbr := of_decide_eq_true hbr
    refine g_region ?_
    refine l_assign rfl rfl ?_
    refine l_nil ?_
    refine g_seq ?_
    refine gp_start mo (by kernel_rfl) (by kernel_rfl) ?_
    obtain ⟨g, rfl⟩ := ha.resolve_left (by omega)
    have hn4 := num4 hU p.toNat
    refine gp_quiet 0 rfl rfl rfl rfl rfl rfl (q_move rfl) ?_
    refine gp_quiet 1 rfl rfl rfl rfl rfl rfl (q_nilCheck rfl) ?_
    refine gp_quiet 2 rfl rfl rfl rfl rfl rfl (q_fieldAddr fa_99_0 rfl) ?_
    refine gp_quiet 3 rfl rfl rfl rfl rfl rfl (q_ld Try.isAgg36 rfl rfl) ?_
    refine gp_quiet 4 rfl rfl rfl rfl rfl rfl (q_move rfl) ?_
    refine gp_quiet 5 rfl rfl rfl rfl rfl rfl (q_nilCheck rfl) ?_
    refine gp_quiet 6 rfl rfl rfl rfl rfl rfl (q_fieldAddr fa_99_1 rfl) ?_
    first | refine gp_quiet 7 rfl rfl rfl rfl rfl rfl (q_ld Try.isAgg3 rfl rfl) ?_ | refine gp_quiet 7 rfl rfl rfl rfl rfl rfl (q_ldw Try.isAgg3 rfl (by omega)) ?_
    refine gp_quiet 8 rfl rfl rfl rfl rfl rfl (q_move rfl) ?_
    refine gp_quiet 9 rfl rfl rfl rfl rfl rfl (q_nilCheck rfl) ?_
    refine gp_quiet 10 rfl rfl rfl rfl rfl rfl (q_fieldAddr fa_99_1 rfl) ?_
    first | refine gp_quiet 11 rfl rfl rfl rfl rfl rfl (q_ld Try.isAgg3 rfl rfl) ?_ | refine gp_quiet 11 rfl rfl rfl rfl rfl rfl (q_ldw Try.isAgg3 rfl (by omega)) ?_
    first | refine gp_quiet 12 rfl rfl rfl rfl rfl rfl (q_add rfl rfl (w_i64 (by omega) (by omega))) ?_ | refine gp_quiet 12 rfl rfl rfl rfl rfl rfl (q_addw rfl rfl) ?_
    refine gp_quiet 13 rfl rfl rfl rfl rfl rfl (q_slice_lh Try.underlying36 Try.sizeOf5 rfl rfl rfl (by omega) (by omega) (by omega)) ?_
    refine gp_effa 14 [13] [12, 11, 10, 9, 8, 7, 6, 5, 4, 3, 2, 1, 0] rfl rfl rfl rfl rfl rfl rfl (does_call Try.call80 rfl (rhigh_ok _ _ g _ _ _ ((B.drop p.toNat).take ((p + 4).toNat - p.toNat)) (by rw [List.length_take, List.length_drop]; omega) (u8_take hU _ _) (by omega) (by omega) (words_part (.own (mem_getO 1 rfl)) sloff_spec (by omega)))) ?_
    rintro _ _ ⟨rfl, rfl⟩
    rw [numB_take (by omega), Nat.add_zero p.toNat, show (p + 4).toNat - p.toNat = 4 by omega]
    refine ⟨?_, ?_⟩
    · first | refine .cons rfl rfl rfl rfl rfl (q_add rfl rfl (w_i64 (by omega) (by omega))) ?_ | refine .cons rfl rfl rfl rfl rfl (q_addw rfl rfl) ?_
      first | refine .cons rfl rfl rfl rfl rfl (q_ld Try.isAgg3 rfl rfl) ?_ | refine .cons rfl rfl rfl rfl rfl (q_ldw Try.isAgg3 rfl (by omega)) ?_
      refine .cons rfl rfl rfl rfl rfl (q_fieldAddr fa_99_1 rfl) ?_
      refine .cons rfl rfl rfl rfl rfl (q_nilCheck rfl) ?_
      refine .cons rfl rfl rfl rfl rfl (q_move rfl) ?_
      first | refine .cons rfl rfl rfl rfl rfl (q_ld Try.isAgg3 rfl rfl) ?_ | refine .cons rfl rfl rfl rfl rfl (q_ldw Try.isAgg3 rfl (by omega)) ?_
      refine .cons rfl rfl rfl rfl rfl (q_fieldAddr fa_99_1 rfl) ?_
      refine .cons rfl rfl rfl rfl rfl (q_nilCheck rfl) ?_
      refine .cons rfl rfl rfl rfl rfl (q_move rfl) ?_
      refine .cons rfl rfl rfl rfl rfl (q_ld Try.isAgg36 rfl rfl) ?_
      refine .cons rfl rfl rfl rfl rfl (q_fieldAddr fa_99_0 rfl) ?_
      refine .cons rfl rfl rfl rfl rfl (q_nilCheck rfl) ?_
      refine .cons rfl rfl rfl rfl rfl (q_move rfl) ?_
      exact .nil
    first | refine gp_quiet 15 rfl rfl rfl rfl rfl rfl (q_conv Try.underlying53 Try.underlying3 rfl (w_i64 (by omega) (by omega))) ?_ | refine gp_quiet 15 rfl rfl rfl rfl rfl rfl (q_convw Try.underlying53 Try.underlying3 rfl) ?_
    refine gp_quiet 16 rfl rfl rfl rfl rfl rfl (q_assign rfl) ?_
    refine gp_end rfl rfl ?_
    refine g_seq ?_
    refine g_seq ?_
    refine g_region ?_
    refine l_move rfl rfl ?_
    refine l_move rfl rfl ?_
    refine l_gtr rfl rfl rfl ?_
    refine l_nil ?_
    refine g_cond rfl ?_ ?_
    · intro hbr
      have hbr := of_decide_eq_true hbr
      refine g_seq ?_
      refine g_region ?_
      refine l_move rfl rfl ?_
      refine l_nilCheck rfl rfl ?_
      refine l_fieldAddr rfl fa_99_2 rfl ?_
      first | refine l_st Try.sizeOf26 rfl rfl rfl rfl ?_ | refine l_stw Try.sizeOf26 rfl rfl (by omega) ?_
      refine l_nil ?_
      refine g_seq ?_
      refine g_region ?_
      refine l_assign rfl rfl ?_
      refine l_nil ?_
      refine g_ret Try.func66 rfl (.tmp rfl .nil) ?_
      (first
        | exact Gives.mki ⟨_, _, _, rdT_flt (by omega), rfl, rfl⟩
        | (obtain rfl : q = 0 := by omega
           first
           | exact Gives.mki ⟨_, _, _, rdT_num rfl (rdN_short (by omega) (by omega)) (by decide), rfl, rfl⟩
           | exact Gives.mki ⟨_, _, _, rdT_most rfl (rdN_ok4 (by omega)) rfl (by omega), rfl, rfl⟩
           | exact Gives.mki ⟨_, _, _, rdT_short rfl (rdN_ok4 (by omega)) rfl (by omega) (by omega), rfl, rfl⟩
           | exact Gives.mki ⟨_, _, _, rdT_ok rfl (rdN_ok4 (by omega)) rfl (by omega) (by omega), rfl, rfl⟩))
    intro hbr
    have hbr := of_decide_eq_false hbr
    refine g_skip ?_
    refine g_seq ?_
    refine g_seq ?_
    refine gp_start mo (by kernel_rfl) (by kernel_rfl) ?_
    refine gp_quiet 0 rfl rfl rfl rfl rfl rfl (q_move rfl) ?_
    refine gp_quiet 1 rfl rfl rfl rfl rfl rfl (q_nilCheck rfl) ?_
    refine gp_quiet 2 rfl rfl rfl rfl rfl rfl (q_fieldAddr fa_99_0 rfl) ?_
    refine gp_quiet 3 rfl rfl rfl rfl rfl rfl (q_ld Try.isAgg36 rfl rfl) ?_
    refine gp_quiet 4 rfl rfl rfl rfl rfl rfl (q_len Try.underlying36 rfl) ?_
    refine gp_quiet 5 rfl rfl rfl rfl rfl rfl (q_move rfl) ?_
    refine gp_quiet 6 rfl rfl rfl rfl rfl rfl (q_nilCheck rfl) ?_
    refine gp_quiet 7 rfl rfl rfl rfl rfl rfl (q_fieldAddr fa_99_1 rfl) ?_
    first | refine gp_quiet 8 rfl rfl rfl rfl rfl rfl (q_ld Try.isAgg3 rfl rfl) ?_ | refine gp_quiet 8 rfl rfl rfl rfl rfl rfl (q_ldw Try.isAgg3 rfl (by omega)) ?_
    first | refine gp_quiet 9 rfl rfl rfl rfl rfl rfl (q_sub_ rfl rfl (w_i64 (by omega) (by omega))) ?_ | refine gp_quiet 9 rfl rfl rfl rfl rfl rfl (q_subw rfl rfl) ?_
    first | refine gp_quiet 10 rfl rfl rfl rfl rfl rfl (q_sub_ rfl rfl (w_i64 (by omega) (by omega))) ?_ | refine gp_quiet 10 rfl rfl rfl rfl rfl rfl (q_subw rfl rfl) ?_
    refine gp_quiet 11 rfl rfl rfl rfl rfl rfl (q_move rfl) ?_
    refine gp_quiet 12 rfl rfl rfl rfl rfl rfl (q_lss rfl rfl) ?_
    refine gp_end rfl rfl ?_
    refine g_cond rfl ?_ ?_
    · intro hbr
      have hbr := of_decide_eq_true hbr
      (exfalso; omega)
    intro hbr
    have hbr := of_decide_eq_false hbr
    refine g_skip ?_
    refine g_seq ?_
    refine gp_start mo (by kernel_rfl) (by kernel_rfl) ?_
    refine gp_quiet 0 rfl rfl rfl rfl rfl rfl (q_move rfl) ?_
    refine gp_quiet 1 rfl rfl rfl rfl rfl rfl (q_nilCheck rfl) ?_
    refine gp_quiet 2 rfl rfl rfl rfl rfl rfl (q_fieldAddr fa_99_0 rfl) ?_
    refine gp_quiet 3 rfl rfl rfl rfl rfl rfl (q_ld Try.isAgg36 rfl rfl) ?_
    refine gp_quiet 4 rfl rfl rfl rfl rfl rfl (q_move rfl) ?_
    refine gp_quiet 5 rfl rfl rfl rfl rfl rfl (q_nilCheck rfl) ?_
    refine gp_quiet 6 rfl rfl rfl rfl rfl rfl (q_fieldAddr fa_99_1 rfl) ?_
    first | refine gp_quiet 7 rfl rfl rfl rfl rfl rfl (q_ld Try.isAgg3 rfl rfl) ?_ | refine gp_quiet 7 rfl rfl rfl rfl rfl rfl (q_ldw Try.isAgg3 rfl (by omega)) ?_
    first | refine gp_quiet 8 rfl rfl rfl rfl rfl rfl (q_add rfl rfl (w_i64 (by omega) (by omega))) ?_ | refine gp_quiet 8 rfl rfl rfl rfl rfl rfl (q_addw rfl rfl) ?_
    refine gp_quiet 9 rfl rfl rfl rfl rfl rfl (q_move rfl) ?_
    refine gp_quiet 10 rfl rfl rfl rfl rfl rfl (q_nilCheck rfl) ?_
    refine gp_quiet 11 rfl rfl rfl rfl rfl rfl (q_fieldAddr fa_99_1 rfl) ?_
    first | refine gp_quiet 12 rfl rfl rfl rfl rfl rfl (q_ld Try.isAgg3 rfl rfl) ?_ | refine gp_quiet 12 rfl rfl rfl rfl rfl rfl (q_ldw Try.isAgg3 rfl (by omega)) ?_
    first | refine gp_quiet 13 rfl rfl rfl rfl rfl rfl (q_add rfl rfl (w_i64 (by omega) (by omega))) ?_ | refine gp_quiet 13 rfl rfl rfl rfl rfl rfl (q_addw rfl rfl) ?_
    refine gp_quiet 14 rfl rfl rfl rfl rfl rfl (q_move rfl) ?_
    first | refine gp_quiet 15 rfl rfl rfl rfl rfl rfl (q_add rfl rfl (w_i64 (by omega) (by omega))) ?_ | refine gp_quiet 15 rfl rfl rfl rfl rfl rfl (q_addw rfl rfl) ?_
    refine gp_quiet 16 rfl rfl rfl rfl rfl rfl (q_slice_lh Try.underlying36 Try.sizeOf5 rfl rfl rfl (by omega) (by omega) (by omega)) ?_
    refine gp_quiet 17 rfl rfl rfl rfl rfl rfl (q_bytes_str (W := (B.drop (p + 4).toNat).take ((p + 4 + numB B p.toNat 4).toNat - (p + 4).toNat)) Try.underlying36 Try.underlying5 Try.underlying9 rfl ⟨by rw [List.length_take, List.length_drop]; omega, .inr ⟨_, _, rfl, words_part (.own (mem_getO 1 rfl)) sloff_spec (by omega)⟩⟩ (fun h => by cases h)) ?_
    refine gp_quiet 18 rfl rfl rfl rfl rfl rfl (q_assign rfl) ?_
    refine gp_end rfl rfl ?_
    refine g_seq ?_
    refine g_region ?_
    refine l_move rfl rfl ?_
    refine l_move rfl rfl ?_
    refine l_nilCheck rfl rfl ?_
    refine l_fieldAddr rfl fa_99_1 rfl ?_
    first | refine l_ld rfl Try.isAgg3 rfl rfl ?_ | refine l_ldw rfl Try.isAgg3 rfl (by omega) ?_
    first | refine l_add rfl rfl rfl (w_i64 (by omega) (by omega)) ?_ | refine l_addw rfl rfl rfl ?_
    refine l_move rfl rfl ?_
    first | refine l_add rfl rfl rfl (w_i64 (by omega) (by omega)) ?_ | refine l_addw rfl rfl rfl ?_
    refine l_nilCheck rfl rfl ?_
    refine l_fieldAddr rfl fa_99_1 rfl ?_
    first | refine l_st Try.sizeOf3 rfl rfl rfl rfl ?_ | refine l_stw Try.sizeOf3 rfl rfl (by omega) ?_
    refine l_nil ?_
    refine g_seq ?_
    refine g_region ?_
    refine l_move rfl rfl ?_
    refine l_assign rfl rfl ?_
    refine l_nil ?_
    refine g_ret Try.func66 rfl (.tmp rfl .nil) ?_
    (first
      | exact Gives.mki ⟨_, _, _, rdT_flt (by omega), rfl, rfl⟩
      | (obtain rfl : q = 0 := by omega
         first
         | exact Gives.mki ⟨_, _, _, rdT_num rfl (rdN_short (by omega) (by omega)) (by decide), rfl, rfl⟩
         | exact Gives.mki ⟨_, _, _, rdT_most rfl (rdN_ok4 (by omega)) rfl (by omega), rfl, rfl⟩
         | exact Gives.mki ⟨_, _, _, rdT_short rfl (rdN_ok4 (by omega)) rfl (by omega) (by omega), rfl, rfl⟩
         | exact Gives.mki ⟨_, _, _, rdT_ok rfl (rdN_ok4 (by omega)) rfl (by omega) (by omega), rfl, rfl⟩))
  intro hbr
  have hbr := of_decide_eq_false hbr
  refine g_skip ?_
  refine g_seq ?_
  refine gp_start mo (by kernel_rfl) (by kernel_rfl) ?_
  obtain ⟨g, rfl⟩ := ha.resolve_left (by omega)
  have hn4 := num4 hU p.toNat
  refine gp_quiet 0 rfl rfl rfl rfl rfl rfl (q_move rfl) ?_
  refine gp_quiet 1 rfl rfl rfl rfl rfl rfl (q_nilCheck rfl) ?_
  refine gp_quiet 2 rfl rfl rfl rfl rfl rfl (q_fieldAddr fa_99_0 rfl) ?_
  refine gp_quiet 3 rfl rfl rfl rfl rfl rfl (q_ld Try.isAgg36 rfl rfl) ?_
  refine gp_quiet 4 rfl rfl rfl rfl rfl rfl (q_move rfl) ?_
  refine gp_quiet 5 rfl rfl rfl rfl rfl rfl (q_nilCheck rfl) ?_
  refine gp_quiet 6 rfl rfl rfl rfl rfl rfl (q_fieldAddr fa_99_1 rfl) ?_
  first | refine gp_quiet 7 rfl rfl rfl rfl rfl rfl (q_ld Try.isAgg3 rfl rfl) ?_ | refine gp_quiet 7 rfl rfl rfl rfl rfl rfl (q_ldw Try.isAgg3 rfl (by omega)) ?_
  refine gp_quiet 8 rfl rfl rfl rfl rfl rfl (q_move rfl) ?_
  refine gp_quiet 9 rfl rfl rfl rfl rfl rfl (q_nilCheck rfl) ?_
  refine gp_quiet 10 rfl rfl rfl rfl rfl rfl (q_fieldAddr fa_99_1 rfl) ?_
  first | refine gp_quiet 11 rfl rfl rfl rfl rfl rfl (q_ld Try.isAgg3 rfl rfl) ?_ | refine gp_quiet 11 rfl rfl rfl rfl rfl rfl (q_ldw Try.isAgg3 rfl (by omega)) ?_
  first | refine gp_quiet 12 rfl rfl rfl rfl rfl rfl (q_add rfl rfl (w_i64 (by omega) (by omega))) ?_ | refine gp_quiet 12 rfl rfl rfl rfl rfl rfl (q_addw rfl rfl) ?_
  refine gp_quiet 13 rfl rfl rfl rfl rfl rfl (q_slice_lh Try.underlying36 Try.sizeOf5 rfl rfl rfl (by omega) (by omega) (by omega)) ?_
  refine gp_effa 14 [13] [12, 11, 10, 9, 8, 7, 6, 5, 4, 3, 2, 1, 0] rfl rfl rfl rfl rfl rfl rfl (does_call Try.call80 rfl (rhigh_ok _ _ g _ _ _ ((B.drop p.toNat).take ((p + 4).toNat - p.toNat)) (by rw [List.length_take, List.length_drop]; omega) (u8_take hU _ _) (by omega) (by omega) (words_part (.own (mem_getO 1 rfl)) sloff_spec (by omega)))) ?_
  rintro _ _ ⟨rfl, rfl⟩
  rw [numB_take (by omega), Nat.add_zero p.toNat, show (p + 4).toNat - p.toNat = 4 by omega]
  refine ⟨?_, ?_⟩
  · first | refine .cons rfl rfl rfl rfl rfl (q_add rfl rfl (w_i64 (by omega) (by omega))) ?_ | refine .cons rfl rfl rfl rfl rfl (q_addw rfl rfl) ?_
    first | refine .cons rfl rfl rfl rfl rfl (q_ld Try.isAgg3 rfl rfl) ?_ | refine .cons rfl rfl rfl rfl rfl (q_ldw Try.isAgg3 rfl (by omega)) ?_
    refine .cons rfl rfl rfl rfl rfl (q_fieldAddr fa_99_1 rfl) ?_
    refine .cons rfl rfl rfl rfl rfl (q_nilCheck rfl) ?_
    refine .cons rfl rfl rfl rfl rfl (q_move rfl) ?_
    first | refine .cons rfl rfl rfl rfl rfl (q_ld Try.isAgg3 rfl rfl) ?_ | refine .cons rfl rfl rfl rfl rfl (q_ldw Try.isAgg3 rfl (by omega)) ?_
    refine .cons rfl rfl rfl rfl rfl (q_fieldAddr fa_99_1 rfl) ?_
    refine .cons rfl rfl rfl rfl rfl (q_nilCheck rfl) ?_
    refine .cons rfl rfl rfl rfl rfl (q_move rfl) ?_
    refine .cons rfl rfl rfl rfl rfl (q_ld Try.isAgg36 rfl rfl) ?_
    refine .cons rfl rfl rfl rfl rfl (q_fieldAddr fa_99_0 rfl) ?_
    refine .cons rfl rfl rfl rfl rfl (q_nilCheck rfl) ?_
    refine .cons rfl rfl rfl rfl rfl (q_move rfl) ?_
    exact .nil
  first | refine gp_quiet 15 rfl rfl rfl rfl rfl rfl (q_conv Try.underlying53 Try.underlying3 rfl (w_i64 (by omega) (by omega))) ?_ | refine gp_quiet 15 rfl rfl rfl rfl rfl rfl (q_convw Try.underlying53 Try.underlying3 rfl) ?_
  refine gp_quiet 16 rfl rfl rfl rfl rfl rfl (q_assign rfl) ?_
  refine gp_end rfl rfl ?_
  refine g_seq ?_
  refine g_seq ?_
  refine g_region ?_
  refine l_move rfl rfl ?_
  refine l_move rfl rfl ?_
  refine l_gtr rfl rfl rfl ?_
  refine l_nil ?_
  refine g_cond rfl ?_ ?_
  · intro hbr
    have hbr := of_decide_eq_true hbr
    refine g_seq ?_
    refine g_region ?_
    refine l_move rfl rfl ?_
    refine l_nilCheck rfl rfl ?_
    refine l_fieldAddr rfl fa_99_2 rfl ?_
    first | refine l_st Try.sizeOf26 rfl rfl rfl rfl ?_ | refine l_stw Try.sizeOf26 rfl rfl (by omega) ?_
    refine l_nil ?_
    refine g_seq ?_
    refine g_region ?_
    refine l_assign rfl rfl ?_
    refine l_nil ?_
    refine g_ret Try.func66 rfl (.tmp rfl .nil) ?_
    (first
      | exact Gives.mki ⟨_, _, _, rdT_flt (by omega), rfl, rfl⟩
      | (obtain rfl : q = 0 := by omega
         first
         | exact Gives.mki ⟨_, _, _, rdT_num rfl (rdN_short (by omega) (by omega)) (by decide), rfl, rfl⟩
         | exact Gives.mki ⟨_, _, _, rdT_most rfl (rdN_ok4 (by omega)) rfl (by omega), rfl, rfl⟩
         | exact Gives.mki ⟨_, _, _, rdT_short rfl (rdN_ok4 (by omega)) rfl (by omega) (by omega), rfl, rfl⟩
         | exact Gives.mki ⟨_, _, _, rdT_ok rfl (rdN_ok4 (by omega)) rfl (by omega) (by omega), rfl, rfl⟩))
  intro hbr
  have hbr := of_decide_eq_false hbr
  refine g_skip ?_
  refine g_seq ?_
  refine g_seq ?_
  refine gp_start mo (by kernel_rfl) (by kernel_rfl) ?_
  refine gp_quiet 0 rfl rfl rfl rfl rfl rfl (q_move rfl) ?_
  refine gp_quiet 1 rfl rfl rfl rfl rfl rfl (q_nilCheck rfl) ?_
  refine gp_quiet 2 rfl rfl rfl rfl rfl rfl (q_fieldAddr fa_99_0 rfl) ?_
  refine gp_quiet 3 rfl rfl rfl rfl rfl rfl (q_ld Try.isAgg36 rfl rfl) ?_
  refine gp_quiet 4 rfl rfl rfl rfl rfl rfl (q_len Try.underlying36 rfl) ?_
  refine gp_quiet 5 rfl rfl rfl rfl rfl rfl (q_move rfl) ?_
  refine gp_quiet 6 rfl rfl rfl rfl rfl rfl (q_nilCheck rfl) ?_
  refine gp_quiet 7 rfl rfl rfl rfl rfl rfl (q_fieldAddr fa_99_1 rfl) ?_
  first | refine gp_quiet 8 rfl rfl rfl rfl rfl rfl (q_ld Try.isAgg3 rfl rfl) ?_ | refine gp_quiet 8 rfl rfl rfl rfl rfl rfl (q_ldw Try.isAgg3 rfl (by omega)) ?_
  first | refine gp_quiet 9 rfl rfl rfl rfl rfl rfl (q_sub_ rfl rfl (w_i64 (by omega) (by omega))) ?_ | refine gp_quiet 9 rfl rfl rfl rfl rfl rfl (q_subw rfl rfl) ?_
  first | refine gp_quiet 10 rfl rfl rfl rfl rfl rfl (q_sub_ rfl rfl (w_i64 (by omega) (by omega))) ?_ | refine gp_quiet 10 rfl rfl rfl rfl rfl rfl (q_subw rfl rfl) ?_
  refine gp_quiet 11 rfl rfl rfl rfl rfl rfl (q_move rfl) ?_
  refine gp_quiet 12 rfl rfl rfl rfl rfl rfl (q_lss rfl rfl) ?_
  refine gp_end rfl rfl ?_
  refine g_cond rfl ?_ ?_
  · intro hbr
    have hbr := of_decide_eq_true hbr
    refine g_seq ?_
    refine g_region ?_
    refine l_move rfl rfl ?_
    refine l_nilCheck rfl rfl ?_
    refine l_fieldAddr rfl fa_99_2 rfl ?_
    first | refine l_st Try.sizeOf26 rfl rfl rfl rfl ?_ | refine l_stw Try.sizeOf26 rfl rfl (by omega) ?_
    refine l_nil ?_
    refine g_seq ?_
    refine g_region ?_
    refine l_assign rfl rfl ?_
    refine l_nil ?_
    refine g_ret Try.func66 rfl (.tmp rfl .nil) ?_
    (first
      | exact Gives.mki ⟨_, _, _, rdT_flt (by omega), rfl, rfl⟩
      | (obtain rfl : q = 0 := by omega
         first
         | exact Gives.mki ⟨_, _, _, rdT_num rfl (rdN_short (by omega) (by omega)) (by decide), rfl, rfl⟩
         | exact Gives.mki ⟨_, _, _, rdT_most rfl (rdN_ok4 (by omega)) rfl (by omega), rfl, rfl⟩
         | exact Gives.mki ⟨_, _, _, rdT_short rfl (rdN_ok4 (by omega)) rfl (by omega) (by omega), rfl, rfl⟩
         | exact Gives.mki ⟨_, _, _, rdT_ok rfl (rdN_ok4 (by omega)) rfl (by omega) (by omega), rfl, rfl⟩))
  intro hbr
  have hbr := of_decide_eq_false hbr
  refine g_skip ?_
  refine g_seq ?_
  refine gp_start mo (by kernel_rfl) (by kernel_rfl) ?_
  refine gp_quiet 0 rfl rfl rfl rfl rfl rfl (q_move rfl) ?_
  refine gp_quiet 1 rfl rfl rfl rfl rfl rfl (q_nilCheck rfl) ?_
  refine gp_quiet 2 rfl rfl rfl rfl rfl rfl (q_fieldAddr fa_99_0 rfl) ?_
  refine gp_quiet 3 rfl rfl rfl rfl rfl rfl (q_ld Try.isAgg36 rfl rfl) ?_
  refine gp_quiet 4 rfl rfl rfl rfl rfl rfl (q_move rfl) ?_
  refine gp_quiet 5 rfl rfl rfl rfl rfl rfl (q_nilCheck rfl) ?_
  refine gp_quiet 6 rfl rfl rfl rfl rfl rfl (q_fieldAddr fa_99_1 rfl) ?_
  first | refine gp_quiet 7 rfl rfl rfl rfl rfl rfl (q_ld Try.isAgg3 rfl rfl) ?_ | refine gp_quiet 7 rfl rfl rfl rfl rfl rfl (q_ldw Try.isAgg3 rfl (by omega)) ?_
  first | refine gp_quiet 8 rfl rfl rfl rfl rfl rfl (q_add rfl rfl (w_i64 (by omega) (by omega))) ?_ | refine gp_quiet 8 rfl rfl rfl rfl rfl rfl (q_addw rfl rfl) ?_
  refine gp_quiet 9 rfl rfl rfl rfl rfl rfl (q_move rfl) ?_
  refine gp_quiet 10 rfl rfl rfl rfl rfl rfl (q_nilCheck rfl) ?_
  refine gp_quiet 11 rfl rfl rfl rfl rfl rfl (q_fieldAddr fa_99_1 rfl) ?_
  first | refine gp_quiet 12 rfl rfl rfl rfl rfl rfl (q_ld Try.isAgg3 rfl rfl) ?_ | refine gp_quiet 12 rfl rfl rfl rfl rfl rfl (q_ldw Try.isAgg3 rfl (by omega)) ?_
  first | refine gp_quiet 13 rfl rfl rfl rfl rfl rfl (q_add rfl rfl (w_i64 (by omega) (by omega))) ?_ | refine gp_quiet 13 rfl rfl rfl rfl rfl rfl (q_addw rfl rfl) ?_
  refine gp_quiet 14 rfl rfl rfl rfl rfl rfl (q_move rfl) ?_
  first | refine gp_quiet 15 rfl rfl rfl rfl rfl rfl (q_add rfl rfl (w_i64 (by omega) (by omega))) ?_ | refine gp_quiet 15 rfl rfl rfl rfl rfl rfl (q_addw rfl rfl) ?_
  refine gp_quiet 16 rfl rfl rfl rfl rfl rfl (q_slice_lh Try.underlying36 Try.sizeOf5 rfl rfl rfl (by omega) (by omega) (by omega)) ?_
  refine gp_quiet 17 rfl rfl rfl rfl rfl rfl (q_bytes_str (W := (B.drop (p + 4).toNat).take ((p + 4 + numB B p.toNat 4).toNat - (p + 4).toNat)) Try.underlying36 Try.underlying5 Try.underlying9 rfl ⟨by rw [List.length_take, List.length_drop]; omega, .inr ⟨_, _, rfl, words_part (.own (mem_getO 1 rfl)) sloff_spec (by omega)⟩⟩ (fun h => by cases h)) ?_
  refine gp_quiet 18 rfl rfl rfl rfl rfl rfl (q_assign rfl) ?_
  refine gp_end rfl rfl ?_
  refine g_seq ?_
  refine g_region ?_
  refine l_move rfl rfl ?_
  refine l_move rfl rfl ?_
  refine l_nilCheck rfl rfl ?_
  refine l_fieldAddr rfl fa_99_1 rfl ?_
  first | refine l_ld rfl Try.isAgg3 rfl rfl ?_ | refine l_ldw rfl Try.isAgg3 rfl (by omega) ?_
  first | refine l_add rfl rfl rfl (w_i64 (by omega) (by omega)) ?_ | refine l_addw rfl rfl rfl ?_
  refine l_move rfl rfl ?_
  first | refine l_add rfl rfl rfl (w_i64 (by omega) (by omega)) ?_ | refine l_addw rfl rfl rfl ?_
  refine l_nilCheck rfl rfl ?_
  refine l_fieldAddr rfl fa_99_1 rfl ?_
  first | refine l_st Try.sizeOf3 rfl rfl rfl rfl ?_ | refine l_stw Try.sizeOf3 rfl rfl (by omega) ?_
  refine l_nil ?_
  refine g_seq ?_
  refine g_region ?_
  refine l_move rfl rfl ?_
  refine l_assign rfl rfl ?_
  refine l_nil ?_
  refine g_ret Try.func66 rfl (.tmp rfl .nil) ?_
  (first
    | exact Gives.mki ⟨_, _, _, rdT_flt (by omega), rfl, rfl⟩
    | (obtain rfl : q = 0 := by omega
       first
       | exact Gives.mki ⟨_, _, _, rdT_num rfl (rdN_short (by omega) (by omega)) (by decide), rfl, rfl⟩
       | exact Gives.mki ⟨_, _, _, rdT_most rfl (rdN_ok4 (by omega)) rfl (by omega), rfl, rfl⟩
       | exact Gives.mki ⟨_, _, _, rdT_short rfl (rdN_ok4 (by omega)) rfl (by omega) (by omega), rfl, rfl⟩
       | exact Gives.mki ⟨_, _, _, rdT_ok rfl (rdN_ok4 (by omega)) rfl (by omega) (by omega), rfl, rfl⟩))
theorem qend_ok (w0 : World) (F : List Atom) (by_ : Nat) (a : Option Addr) (n c : Nat) (B : List Int) (hB : B.length = n) (ha : n = 0 ∨ ∃ g, a = some ⟨g, 0, none⟩) (hc : n ≤ c) (hU : ∀ i, 0 ≤ B.getD i 0 ∧ B.getD i 0 ≤ 255) (hn : n ≤ 140737488355327) (p q : Int) (p0 : 0 ≤ p) (p1 : p ≤ n) (q0 : 0 ≤ q) (q1 : q ≤ 20) :
    CallK Try.prog 68 [.pointer (some ⟨by_, 0, none⟩)] w0 (Blk by_ (.cells [Value.slice a n c, .int .i64 p, .int .i64 q].toArray 99 (0, 0)) :: Own 5 1 (.slice a n c) n (ints .u8 B) :: F) (Gives w0 fun v F2 => v = .int .i64 (endV n p q) ∧ F2 = Blk by_ (.cells [Value.slice a n c, .int .i64 p, .int .i64 q].toArray 99 (0, 0)) :: Own 5 1 (.slice a n c) n (ints .u8 B) :: F) := by
  refine c_enter Try.func68 rfl rfl rfl ?_
  refine g_seq ?_
  refine g_region ?_
  refine l_assign rfl rfl ?_
  refine l_nil ?_
  refine g_seq ?_
  refine g_seq ?_
  refine g_region ?_
  refine l_move rfl rfl ?_
  refine l_nilCheck rfl rfl ?_
  refine l_fieldAddr rfl fa_99_2 rfl ?_
  first | refine l_ld rfl Try.isAgg26 rfl rfl ?_ | refine l_ldw rfl Try.isAgg26 rfl (by omega) ?_
  refine l_neq rfl rfl rfl ?_
  refine l_nil ?_
  refine g_cond rfl ?_ ?_
  · intro hbr
    have hbr := of_decide_eq_true hbr
    refine g_seq ?_
    refine g_region ?_
    refine l_move rfl rfl ?_
    refine l_nilCheck rfl rfl ?_
    refine l_fieldAddr rfl fa_99_2 rfl ?_
    first | refine l_ld rfl Try.isAgg26 rfl rfl ?_ | refine l_ldw rfl Try.isAgg26 rfl (by omega) ?_
    refine l_assign rfl rfl ?_
    refine l_nil ?_
    refine g_ret Try.func68 rfl (.tmp rfl .nil) ?_
    (first | exact Gives.mki ⟨by unfold endV; rw [if_pos (by omega)]; rfl, rfl⟩ | exact Gives.mki ⟨by unfold endV; rw [if_neg (by omega), if_pos (by omega)]; rfl, rfl⟩ | exact Gives.mki ⟨by unfold endV; rw [if_neg (by omega), if_neg (by omega)]; rfl, rfl⟩)
  intro hbr
  have hbr := of_decide_eq_false hbr
  refine g_skip ?_
  refine g_seq ?_
  refine g_seq ?_
  refine gp_start mo (by kernel_rfl) (by kernel_rfl) ?_
  refine gp_quiet 0 rfl rfl rfl rfl rfl rfl (q_move rfl) ?_
  refine gp_quiet 1 rfl rfl rfl rfl rfl rfl (q_nilCheck rfl) ?_
  refine gp_quiet 2 rfl rfl rfl rfl rfl rfl (q_fieldAddr fa_99_1 rfl) ?_
  first | refine gp_quiet 3 rfl rfl rfl rfl rfl rfl (q_ld Try.isAgg3 rfl rfl) ?_ | refine gp_quiet 3 rfl rfl rfl rfl rfl rfl (q_ldw Try.isAgg3 rfl (by omega)) ?_
  refine gp_quiet 4 rfl rfl rfl rfl rfl rfl (q_move rfl) ?_
  refine gp_quiet 5 rfl rfl rfl rfl rfl rfl (q_nilCheck rfl) ?_
  refine gp_quiet 6 rfl rfl rfl rfl rfl rfl (q_fieldAddr fa_99_0 rfl) ?_
  refine gp_quiet 7 rfl rfl rfl rfl rfl rfl (q_ld Try.isAgg36 rfl rfl) ?_
  refine gp_quiet 8 rfl rfl rfl rfl rfl rfl (q_len Try.underlying36 rfl) ?_
  refine gp_quiet 9 rfl rfl rfl rfl rfl rfl (q_lss rfl rfl) ?_
  refine gp_end rfl rfl ?_
  refine g_cond rfl ?_ ?_
  · intro hbr
    have hbr := of_decide_eq_true hbr
    refine g_seq ?_
    refine g_region ?_
    refine l_assign rfl rfl ?_
    refine l_nil ?_
    refine g_ret Try.func68 rfl (.tmp rfl .nil) ?_
    (first | exact Gives.mki ⟨by unfold endV; rw [if_pos (by omega)]; rfl, rfl⟩ | exact Gives.mki ⟨by unfold endV; rw [if_neg (by omega), if_pos (by omega)]; rfl, rfl⟩ | exact Gives.mki ⟨by unfold endV; rw [if_neg (by omega), if_neg (by omega)]; rfl, rfl⟩)
  intro hbr
  have hbr := of_decide_eq_false hbr
  refine g_skip ?_
  refine g_seq ?_
  refine g_region ?_
  refine l_assign rfl rfl ?_
  refine l_nil ?_
  refine g_ret Try.func68 rfl (.tmp rfl .nil) ?_
  (first | exact Gives.mki ⟨by unfold endV; rw [if_pos (by omega)]; rfl, rfl⟩ | exact Gives.mki ⟨by unfold endV; rw [if_neg (by omega), if_pos (by omega)]; rfl, rfl⟩ | exact Gives.mki ⟨by unfold endV; rw [if_neg (by omega), if_neg (by omega)]; rfl, rfl⟩)
theorem qleft_ok (w0 : World) (F : List Atom) (by_ : Nat) (a : Option Addr) (n c : Nat) (B : List Int) (hB : B.length = n) (ha : n = 0 ∨ ∃ g, a = some ⟨g, 0, none⟩) (hc : n ≤ c) (hU : ∀ i, 0 ≤ B.getD i 0 ∧ B.getD i 0 ≤ 255) (hn : n ≤ 140737488355327) (p q : Int) (p0 : 0 ≤ p) (p1 : p ≤ n) (q0 : 0 ≤ q) (q1 : q ≤ 20) :
    CallK Try.prog 67 [.pointer (some ⟨by_, 0, none⟩)] w0 (Blk by_ (.cells [Value.slice a n c, .int .i64 p, .int .i64 q].toArray 99 (0, 0)) :: Own 5 1 (.slice a n c) n (ints .u8 B) :: F) (Gives w0 fun v F2 => v = .int .i64 ((n : Int) - p) ∧ F2 = Blk by_ (.cells [Value.slice a n c, .int .i64 p, .int .i64 q].toArray 99 (0, 0)) :: Own 5 1 (.slice a n c) n (ints .u8 B) :: F) := by
  refine c_enter Try.func67 rfl rfl rfl ?_
  refine g_seq ?_
  refine g_region ?_
  refine l_assign rfl rfl ?_
  refine l_nil ?_
  refine g_seq ?_
  refine gp_start mo (by kernel_rfl) (by kernel_rfl) ?_
  refine gp_quiet 0 rfl rfl rfl rfl rfl rfl (q_move rfl) ?_
  refine gp_quiet 1 rfl rfl rfl rfl rfl rfl (q_nilCheck rfl) ?_
  refine gp_quiet 2 rfl rfl rfl rfl rfl rfl (q_fieldAddr fa_99_0 rfl) ?_
  refine gp_quiet 3 rfl rfl rfl rfl rfl rfl (q_ld Try.isAgg36 rfl rfl) ?_
  refine gp_quiet 4 rfl rfl rfl rfl rfl rfl (q_len Try.underlying36 rfl) ?_
  refine gp_quiet 5 rfl rfl rfl rfl rfl rfl (q_move rfl) ?_
  refine gp_quiet 6 rfl rfl rfl rfl rfl rfl (q_nilCheck rfl) ?_
  refine gp_quiet 7 rfl rfl rfl rfl rfl rfl (q_fieldAddr fa_99_1 rfl) ?_
  first | refine gp_quiet 8 rfl rfl rfl rfl rfl rfl (q_ld Try.isAgg3 rfl rfl) ?_ | refine gp_quiet 8 rfl rfl rfl rfl rfl rfl (q_ldw Try.isAgg3 rfl (by omega)) ?_
  first | refine gp_quiet 9 rfl rfl rfl rfl rfl rfl (q_sub_ rfl rfl (w_i64 (by omega) (by omega))) ?_ | refine gp_quiet 9 rfl rfl rfl rfl rfl rfl (q_subw rfl rfl) ?_
  refine gp_quiet 10 rfl rfl rfl rfl rfl rfl (q_assign rfl) ?_
  refine gp_end rfl rfl ?_
  refine g_ret Try.func67 rfl (.tmp rfl .nil) ?_
  exact Gives.mki ⟨rfl, rfl⟩
set_option maxHeartbeats 1000000 in
theorem nobody_ok (w0 : World) (F : List Atom)  :
    CallK Try.prog 16 [] w0 (F) (Gives w0 fun v F2 => v = .bool true ∧ F2 = F) := by
  refine c_enter Try.func16 rfl rfl rfl ?_
  refine g_seq ?_
  refine g_region ?_
  refine l_assign rfl rfl ?_
  refine l_nil ?_
  refine g_seq ?_
  refine g_region ?_
  refine l_assign rfl rfl ?_
  refine l_nil ?_
  refine g_seq ?_
  refine g_region ?_
  refine l_assign rfl rfl ?_
  refine l_nil ?_
  refine g_seq ?_
  refine g_region ?_
  refine l_move rfl rfl ?_
  refine l_inl rfl Try.call40 rfl ?_
  refine c_enter Try.func40 rfl rfl rfl ?_
  refine g_region ?_
  refine l_move rfl rfl ?_
  refine l_move rfl rfl ?_
  first | refine l_conv rfl Try.underlying5 Try.underlying53 rfl (w_u64 (by omega) (by omega)) ?_ | refine l_convm (m := 18446744073709551616) rfl wr_u64 Try.underlying5 Try.underlying53 rfl ?_
  refine l_inl rfl Try.call76 rfl ?_
  refine c_enter Try.func76 rfl rfl rfl ?_
  refine g_seq ?_
  refine g_seq ?_
  refine g_region ?_
  refine l_move rfl rfl ?_
  refine l_eqpn rfl Try.underlying61 rfl rfl ?_
  refine l_nil ?_
  first | refine g_cond_t rfl ?_ | refine g_cond_t (congrArg (fun b => some (Value.bool b)) (decide_eq_true hbr)) ?_
  refine g_ret Try.func76 rfl .nil ?_
  refine ⟨.tuple #[], rfl, ?_⟩
  refine l_nil ?_
  refine g_end Try.func40 rfl .nil ?_
  refine ⟨.tuple #[], rfl, ?_⟩
  refine l_nil ?_
  refine g_seq ?_
  refine g_region ?_
  refine l_move rfl rfl ?_
  refine l_inl rfl Try.call45 rfl ?_
  refine c_enter Try.func45 rfl rfl rfl ?_
  refine g_region ?_
  refine l_move rfl rfl ?_
  refine l_move rfl rfl ?_
  first | refine l_conv rfl Try.underlying23 Try.underlying53 rfl (w_u64 (by omega) (by omega)) ?_ | refine l_convm (m := 18446744073709551616) rfl wr_u64 Try.underlying23 Try.underlying53 rfl ?_
  refine l_inl rfl Try.call76 rfl ?_
  refine c_enter Try.func76 rfl rfl rfl ?_
  refine g_seq ?_
  refine g_seq ?_
  refine g_region ?_
  refine l_move rfl rfl ?_
  refine l_eqpn rfl Try.underlying61 rfl rfl ?_
  refine l_nil ?_
  first | refine g_cond_t rfl ?_ | refine g_cond_t (congrArg (fun b => some (Value.bool b)) (decide_eq_true hbr)) ?_
  refine g_ret Try.func76 rfl .nil ?_
  refine ⟨.tuple #[], rfl, ?_⟩
  refine l_nil ?_
  refine g_end Try.func45 rfl .nil ?_
  refine ⟨.tuple #[], rfl, ?_⟩
  refine l_nil ?_
  refine g_seq ?_
  refine g_region ?_
  refine l_move rfl rfl ?_
  refine l_inl rfl Try.call46 rfl ?_
  refine c_enter Try.func46 rfl rfl rfl ?_
  refine g_region ?_
  refine l_move rfl rfl ?_
  refine l_move rfl rfl ?_
  refine l_inl rfl Try.call76 rfl ?_
  refine c_enter Try.func76 rfl rfl rfl ?_
  refine g_seq ?_
  refine g_seq ?_
  refine g_region ?_
  refine l_move rfl rfl ?_
  refine l_eqpn rfl Try.underlying61 rfl rfl ?_
  refine l_nil ?_
  first | refine g_cond_t rfl ?_ | refine g_cond_t (congrArg (fun b => some (Value.bool b)) (decide_eq_true hbr)) ?_
  refine g_ret Try.func76 rfl .nil ?_
  refine ⟨.tuple #[], rfl, ?_⟩
  refine l_nil ?_
  refine g_end Try.func46 rfl .nil ?_
  refine ⟨.tuple #[], rfl, ?_⟩
  refine l_nil ?_
  refine g_seq ?_
  refine g_region ?_
  refine l_move rfl rfl ?_
  refine l_inl rfl Try.call41 rfl ?_
  refine c_enter Try.func41 rfl rfl rfl ?_
  refine g_seq ?_
  refine g_seq ?_
  refine g_region ?_
  refine l_move rfl rfl ?_
  refine l_eqpn rfl Try.underlying61 rfl rfl ?_
  refine l_nil ?_
  first | refine g_cond_t rfl ?_ | refine g_cond_t (congrArg (fun b => some (Value.bool b)) (decide_eq_true hbr)) ?_
  refine g_ret Try.func41 rfl .nil ?_
  refine ⟨.tuple #[], rfl, ?_⟩
  refine l_nil ?_
  refine g_seq ?_
  refine g_region ?_
  refine l_move rfl rfl ?_
  refine l_inl rfl Try.call27 rfl ?_
  refine c_enter Try.func27 rfl rfl rfl ?_
  refine g_seq ?_
  refine g_region ?_
  refine l_assign rfl rfl ?_
  refine l_nil ?_
  refine g_seq ?_
  refine g_seq ?_
  refine g_region ?_
  refine l_move rfl rfl ?_
  refine l_eqpn rfl Try.underlying61 rfl rfl ?_
  refine l_nil ?_
  first | refine g_cond_t rfl ?_ | refine g_cond_t (congrArg (fun b => some (Value.bool b)) (decide_eq_true hbr)) ?_
  refine g_seq ?_
  refine g_region ?_
  refine l_assign rfl rfl ?_
  refine l_nil ?_
  refine g_ret Try.func27 rfl (.tmp rfl .nil) ?_
  first | refine ⟨.int _ _, rfl, ?_⟩ | refine ⟨_, rfl, ?_⟩
  refine l_assign rfl rfl ?_
  refine l_nil ?_
  refine g_seq ?_
  refine g_region ?_
  refine l_move rfl rfl ?_
  refine l_inl rfl Try.call28 rfl ?_
  refine c_enter Try.func28 rfl rfl rfl ?_
  refine g_seq ?_
  refine g_region ?_
  refine l_assign rfl rfl ?_
  refine l_nil ?_
  refine g_seq ?_
  refine g_seq ?_
  refine g_region ?_
  refine l_move rfl rfl ?_
  refine l_eqpn rfl Try.underlying61 rfl rfl ?_
  refine l_nil ?_
  first | refine g_cond_t rfl ?_ | refine g_cond_t (congrArg (fun b => some (Value.bool b)) (decide_eq_true hbr)) ?_
  refine g_seq ?_
  refine g_region ?_
  refine l_assign rfl rfl ?_
  refine l_nil ?_
  refine g_ret Try.func28 rfl (.tmp rfl .nil) ?_
  first | refine ⟨.slice _ _ _, rfl, ?_⟩ | refine ⟨_, rfl, ?_⟩
  refine l_assign rfl rfl ?_
  refine l_nil ?_
  refine g_seq ?_
  refine g_region ?_
  refine l_move rfl rfl ?_
  refine l_inl rfl Try.call42 rfl ?_
  refine c_enter Try.func42 rfl rfl rfl ?_
  refine g_seq ?_
  refine g_region ?_
  refine l_assign rfl rfl ?_
  refine l_nil ?_
  refine g_seq ?_
  refine g_region ?_
  refine l_move rfl rfl ?_
  refine l_inl rfl Try.call75 rfl ?_
  refine c_enter Try.func75 rfl rfl rfl ?_
  refine g_seq ?_
  refine g_region ?_
  refine l_assign rfl rfl ?_
  refine l_nil ?_
  refine g_seq ?_
  refine g_seq ?_
  refine g_region ?_
  refine l_move rfl rfl ?_
  refine l_eqpn rfl Try.underlying69 rfl rfl ?_
  refine l_move rfl rfl ?_
  refine l_guard_no rfl rfl rfl ?_
  refine l_guard_no rfl rfl rfl ?_
  refine l_guard_no rfl rfl rfl ?_
  refine l_guard_no rfl rfl rfl ?_
  refine l_guard_no rfl rfl rfl ?_
  refine l_pick_t rfl rfl rfl ?_
  refine l_nil ?_
  first | refine g_cond_t rfl ?_ | refine g_cond_t (congrArg (fun b => some (Value.bool b)) (decide_eq_true hbr)) ?_
  refine g_seq ?_
  refine g_region ?_
  refine l_assign rfl rfl ?_
  refine l_nil ?_
  refine g_ret Try.func75 rfl (.tmp rfl .nil) ?_
  first | refine ⟨.int _ _, rfl, ?_⟩ | refine ⟨_, rfl, ?_⟩
  first | refine l_conv rfl Try.underlying53 Try.underlying5 rfl (w_u8 (by omega) (by omega)) ?_ | refine l_convm (m := 256) rfl wr_u8 Try.underlying53 Try.underlying5 rfl ?_
  refine l_assign rfl rfl ?_
  refine l_nil ?_
  refine g_ret Try.func42 rfl (.tmp rfl .nil) ?_
  first | refine ⟨.int _ _, rfl, ?_⟩ | refine ⟨_, rfl, ?_⟩
  refine l_assign rfl rfl ?_
  refine l_nil ?_
  refine g_seq ?_
  refine g_region ?_
  refine l_move rfl rfl ?_
  refine l_inl rfl Try.call47 rfl ?_
  refine c_enter Try.func47 rfl rfl rfl ?_
  refine g_seq ?_
  refine g_region ?_
  refine l_assign rfl rfl ?_
  refine l_nil ?_
  refine g_seq ?_
  refine g_region ?_
  refine l_move rfl rfl ?_
  refine l_inl rfl Try.call75 rfl ?_
  refine c_enter Try.func75 rfl rfl rfl ?_
  refine g_seq ?_
  refine g_region ?_
  refine l_assign rfl rfl ?_
  refine l_nil ?_
  refine g_seq ?_
  refine g_seq ?_
  refine g_region ?_
  refine l_move rfl rfl ?_
  refine l_eqpn rfl Try.underlying69 rfl rfl ?_
  refine l_move rfl rfl ?_
  refine l_guard_no rfl rfl rfl ?_
  refine l_guard_no rfl rfl rfl ?_
  refine l_guard_no rfl rfl rfl ?_
  refine l_guard_no rfl rfl rfl ?_
  refine l_guard_no rfl rfl rfl ?_
  refine l_pick_t rfl rfl rfl ?_
  refine l_nil ?_
  first | refine g_cond_t rfl ?_ | refine g_cond_t (congrArg (fun b => some (Value.bool b)) (decide_eq_true hbr)) ?_
  refine g_seq ?_
  refine g_region ?_
  refine l_assign rfl rfl ?_
  refine l_nil ?_
  refine g_ret Try.func75 rfl (.tmp rfl .nil) ?_
  first | refine ⟨.int _ _, rfl, ?_⟩ | refine ⟨_, rfl, ?_⟩
  first | refine l_conv rfl Try.underlying53 Try.underlying23 rfl (w_u32 (by omega) (by omega)) ?_ | refine l_convm (m := 4294967296) rfl wr_u32 Try.underlying53 Try.underlying23 rfl ?_
  refine l_assign rfl rfl ?_
  refine l_nil ?_
  refine g_ret Try.func47 rfl (.tmp rfl .nil) ?_
  first | refine ⟨.int _ _, rfl, ?_⟩ | refine ⟨_, rfl, ?_⟩
  refine l_assign rfl rfl ?_
  refine l_nil ?_
  refine g_seq ?_
  refine g_region ?_
  refine l_move rfl rfl ?_
  refine l_inl rfl Try.call48 rfl ?_
  refine c_enter Try.func48 rfl rfl rfl ?_
  refine g_seq ?_
  refine g_region ?_
  refine l_assign rfl rfl ?_
  refine l_nil ?_
  refine g_seq ?_
  refine g_region ?_
  refine l_move rfl rfl ?_
  refine l_inl rfl Try.call75 rfl ?_
  refine c_enter Try.func75 rfl rfl rfl ?_
  refine g_seq ?_
  refine g_region ?_
  refine l_assign rfl rfl ?_
  refine l_nil ?_
  refine g_seq ?_
  refine g_seq ?_
  refine g_region ?_
  refine l_move rfl rfl ?_
  refine l_eqpn rfl Try.underlying69 rfl rfl ?_
  refine l_move rfl rfl ?_
  refine l_guard_no rfl rfl rfl ?_
  refine l_guard_no rfl rfl rfl ?_
  refine l_guard_no rfl rfl rfl ?_
  refine l_guard_no rfl rfl rfl ?_
  refine l_guard_no rfl rfl rfl ?_
  refine l_pick_t rfl rfl rfl ?_
  refine l_nil ?_
  first | refine g_cond_t rfl ?_ | refine g_cond_t (congrArg (fun b => some (Value.bool b)) (decide_eq_true hbr)) ?_
  refine g_seq ?_
  refine g_region ?_
  refine l_assign rfl rfl ?_
  refine l_nil ?_
  refine g_ret Try.func75 rfl (.tmp rfl .nil) ?_
  first | refine ⟨.int _ _, rfl, ?_⟩ | refine ⟨_, rfl, ?_⟩
  refine l_assign rfl rfl ?_
  refine l_nil ?_
  refine g_ret Try.func48 rfl (.tmp rfl .nil) ?_
  first | refine ⟨.int _ _, rfl, ?_⟩ | refine ⟨_, rfl, ?_⟩
  refine l_assign rfl rfl ?_
  refine l_nil ?_
  refine g_seq ?_
  refine g_region ?_
  refine l_move rfl rfl ?_
  refine l_inl rfl Try.call35 rfl ?_
  refine c_enter Try.func35 rfl rfl rfl ?_
  refine g_seq ?_
  refine g_region ?_
  refine l_assign rfl rfl ?_
  refine l_nil ?_
  refine g_seq ?_
  refine g_seq ?_
  refine g_region ?_
  refine l_move rfl rfl ?_
  refine l_eqpn rfl Try.underlying69 rfl rfl ?_
  refine l_move rfl rfl ?_
  refine l_guard_no rfl rfl rfl ?_
  refine l_guard_no rfl rfl rfl ?_
  refine l_guard_no rfl rfl rfl ?_
  refine l_guard_no rfl rfl rfl ?_
  refine l_guard_no rfl rfl rfl ?_
  refine l_pick_t rfl rfl rfl ?_
  refine l_nil ?_
  first | refine g_cond_t rfl ?_ | refine g_cond_t (congrArg (fun b => some (Value.bool b)) (decide_eq_true hbr)) ?_
  refine g_seq ?_
  refine g_region ?_
  refine l_assign rfl rfl ?_
  refine l_nil ?_
  refine g_ret Try.func35 rfl (.tmp rfl .nil) ?_
  first | refine ⟨.string _, rfl, ?_⟩ | refine ⟨_, rfl, ?_⟩
  refine l_assign rfl rfl ?_
  refine l_nil ?_
  refine g_seq ?_
  refine g_region ?_
  refine l_move rfl rfl ?_
  refine l_inl rfl Try.call33 rfl ?_
  refine c_enter Try.func33 rfl rfl rfl ?_
  refine g_seq ?_
  refine g_region ?_
  refine l_assign rfl rfl ?_
  refine l_nil ?_
  refine g_seq ?_
  refine g_seq ?_
  refine g_region ?_
  refine l_move rfl rfl ?_
  refine l_eqpn rfl Try.underlying69 rfl rfl ?_
  refine l_nil ?_
  first | refine g_cond_t rfl ?_ | refine g_cond_t (congrArg (fun b => some (Value.bool b)) (decide_eq_true hbr)) ?_
  refine g_seq ?_
  refine g_region ?_
  refine l_assign rfl rfl ?_
  refine l_nil ?_
  refine g_ret Try.func33 rfl (.tmp rfl .nil) ?_
  first | refine ⟨.int _ _, rfl, ?_⟩ | refine ⟨_, rfl, ?_⟩
  refine l_assign rfl rfl ?_
  refine l_nil ?_
  refine g_seq ?_
  refine g_region ?_
  refine l_move rfl rfl ?_
  refine l_inl rfl Try.call31 rfl ?_
  refine c_enter Try.func31 rfl rfl rfl ?_
  refine g_seq ?_
  refine g_region ?_
  refine l_assign rfl rfl ?_
  refine l_nil ?_
  refine g_seq ?_
  refine g_seq ?_
  refine g_region ?_
  refine l_move rfl rfl ?_
  refine l_eqpn rfl Try.underlying69 rfl rfl ?_
  refine l_nil ?_
  first | refine g_cond_t rfl ?_ | refine g_cond_t (congrArg (fun b => some (Value.bool b)) (decide_eq_true hbr)) ?_
  refine g_seq ?_
  refine g_region ?_
  refine l_assign rfl rfl ?_
  refine l_nil ?_
  refine g_ret Try.func31 rfl (.tmp rfl .nil) ?_
  first | refine ⟨.int _ _, rfl, ?_⟩ | refine ⟨_, rfl, ?_⟩
  refine l_assign rfl rfl ?_
  refine l_nil ?_
  refine g_seq ?_
  refine g_region ?_
  refine l_move rfl rfl ?_
  refine l_inl rfl Try.call34 rfl ?_
  refine c_enter Try.func34 rfl rfl rfl ?_
  refine g_seq ?_
  refine g_region ?_
  refine l_assign rfl rfl ?_
  refine l_nil ?_
  refine g_seq ?_
  refine g_seq ?_
  refine g_region ?_
  refine l_move rfl rfl ?_
  refine l_eqpn rfl Try.underlying69 rfl rfl ?_
  refine l_nil ?_
  first | refine g_cond_t rfl ?_ | refine g_cond_t (congrArg (fun b => some (Value.bool b)) (decide_eq_true hbr)) ?_
  refine g_seq ?_
  refine g_region ?_
  refine l_assign rfl rfl ?_
  refine l_nil ?_
  refine g_ret Try.func34 rfl (.tmp rfl .nil) ?_
  first | refine ⟨.int _ _, rfl, ?_⟩ | refine ⟨_, rfl, ?_⟩
  refine l_assign rfl rfl ?_
  refine l_nil ?_
  refine g_seq ?_
  refine g_region ?_
  refine l_move rfl rfl ?_
  refine l_inl rfl Try.call32 rfl ?_
  refine c_enter Try.func32 rfl rfl rfl ?_
  refine g_seq ?_
  refine g_region ?_
  refine l_assign rfl rfl ?_
  refine l_nil ?_
  refine g_seq ?_
  refine g_block ?_
  refine g_seq ?_
  refine g_region ?_
  refine l_move rfl rfl ?_
  refine l_eqpn rfl Try.underlying69 rfl rfl ?_
  refine l_assign rfl rfl ?_
  refine l_nil ?_
  first | refine g_cond_t rfl ?_ | refine g_cond_t (congrArg (fun b => some (Value.bool b)) (decide_eq_true hbr)) ?_
  refine g_seq ?_
  refine g_region ?_
  refine l_assign rfl rfl ?_
  refine l_nil ?_
  refine g_ret Try.func32 rfl (.tmp rfl .nil) ?_
  first | refine ⟨.int _ _, rfl, ?_⟩ | refine ⟨_, rfl, ?_⟩
  refine l_assign rfl rfl ?_
  refine l_nil ?_
  refine g_seq ?_
  refine g_region ?_
  refine l_move rfl rfl ?_
  refine l_eql rfl rfl rfl ?_
  refine l_move rfl rfl ?_
  refine l_split 43 rfl ?_ ?_
  · intro hbr
    have hbr := of_decide_eq_true hbr
    refine l_guard_yes rfl rfl ?_
    refine l_move rfl rfl ?_
    refine l_guard_yes rfl rfl ?_
    refine l_len rfl Try.underlying36 rfl ?_
    refine l_guard_yes rfl rfl ?_
    refine l_eql rfl rfl rfl ?_
    refine l_pick_t rfl rfl rfl ?_
    refine l_move rfl rfl ?_
    refine l_split 48 rfl ?_ ?_
    · intro hbr
      have hbr := of_decide_eq_true hbr
      refine l_guard_yes rfl rfl ?_
      refine l_move rfl rfl ?_
      refine l_guard_yes rfl rfl ?_
      refine l_eql rfl rfl rfl ?_
      refine l_pick_t rfl rfl rfl ?_
      refine l_move rfl rfl ?_
      refine l_split 52 rfl ?_ ?_
      · intro hbr
        have hbr := of_decide_eq_true hbr
        refine l_guard_yes rfl rfl ?_
        refine l_move rfl rfl ?_
        refine l_guard_yes rfl rfl ?_
        refine l_eql rfl rfl rfl ?_
        refine l_pick_t rfl rfl rfl ?_
        refine l_move rfl rfl ?_
        refine l_split 56 rfl ?_ ?_
        · intro hbr
          have hbr := of_decide_eq_true hbr
          refine l_guard_yes rfl rfl ?_
          refine l_move rfl rfl ?_
          refine l_guard_yes rfl rfl ?_
          refine l_eql rfl rfl rfl ?_
          refine l_pick_t rfl rfl rfl ?_
          refine l_move rfl rfl ?_
          refine l_split 60 rfl ?_ ?_
          · intro hbr
            have hbr := of_decide_eq_true hbr
            refine l_guard_yes rfl rfl ?_
            refine l_move rfl rfl ?_
            refine l_guard_yes rfl rfl ?_
            refine l_eqls rfl rfl rfl ?_
            refine l_pick_t rfl rfl rfl ?_
            refine l_move rfl rfl ?_
            refine l_split 64 rfl ?_ ?_
            · intro hbr
              have hb64 := hbr
              refine l_guard_yes rfl rfl ?_
              refine l_move rfl rfl ?_
              refine l_guard_yes rfl rfl ?_
              refine l_eql rfl rfl rfl ?_
              refine l_pick_t rfl rfl rfl ?_
              refine l_move rfl rfl ?_
              refine l_split 68 rfl ?_ ?_
              · intro hbr
                have hbr := of_decide_eq_true hbr
                refine l_guard_yes rfl rfl ?_
                refine l_move rfl rfl ?_
                refine l_guard_yes rfl rfl ?_
                refine l_eql rfl rfl rfl ?_
                refine l_pick_t rfl rfl rfl ?_
                refine l_move rfl rfl ?_
                refine l_split 72 rfl ?_ ?_
                · intro hbr
                  have hbr := of_decide_eq_true hbr
                  refine l_guard_yes rfl rfl ?_
                  refine l_move rfl rfl ?_
                  refine l_guard_yes rfl rfl ?_
                  refine l_eql rfl rfl rfl ?_
                  refine l_pick_t rfl rfl rfl ?_
                  refine l_move rfl rfl ?_
                  refine l_split 76 rfl ?_ ?_
                  · intro hbr
                    have hbr := of_decide_eq_true hbr
                    refine l_guard_yes rfl rfl ?_
                    refine l_move rfl rfl ?_
                    refine l_guard_yes rfl rfl ?_
                    refine l_eql rfl rfl rfl ?_
                    refine l_pick_t rfl rfl rfl ?_
                    refine l_assign rfl rfl ?_
                    refine l_nil ?_
                    refine g_ret Try.func16 rfl (.tmp rfl .nil) ?_
                    exact Gives.mki ⟨rfl, rfl⟩
                  · intro hbr
                    have hbr := of_decide_eq_false hbr
                    (exfalso; first | omega | (simp at hbr; done))
                · intro hbr
                  have hbr := of_decide_eq_false hbr
                  (exfalso; first | omega | (simp at hbr; done))
              · intro hbr
                have hbr := of_decide_eq_false hbr
                (exfalso; first | omega | (simp at hbr; done))
            · intro hbr
              first | (exfalso; simp at hbr; done) | (exfalso; simp at hbr; omega) | (exfalso; first | omega | (simp at hbr; done))
          · intro hbr
            have hbr := of_decide_eq_false hbr
            (exfalso; first | omega | (simp at hbr; done))
        · intro hbr
          have hbr := of_decide_eq_false hbr
          (exfalso; first | omega | (simp at hbr; done))
      · intro hbr
        have hbr := of_decide_eq_false hbr
        (exfalso; first | omega | (simp at hbr; done))
    · intro hbr
      have hbr := of_decide_eq_false hbr
      (exfalso; first | omega | (simp at hbr; done))
  · intro hbr
    have hbr := of_decide_eq_false hbr
    (exfalso; first | omega | (simp at hbr; done))
end Go.Proofs.Ytnkmhhjldfapdaa.Fw
