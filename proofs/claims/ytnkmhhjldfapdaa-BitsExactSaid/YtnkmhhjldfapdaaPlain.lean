import Derived.Test.YtnkmhhjldfapdaaProg
import Derived.Test.YtnkmhhjldfapdaaFw23
namespace Go.Proofs.Ytnkmhhjldfapdaa.Fw
open Go Go.Proofs
set_option linter.unusedVariables false
set_option linter.unusedSimpArgs false
set_option maxRecDepth 10000

def shV (w i : Int) : Int := w / 2 ^ i.toNat
def fieldV (w fr wd : Int) : Int := w / 2 ^ fr.toNat % 2 ^ wd.toNat
def maskV (fr wd : Int) : Int := (2 ^ wd.toNat - 1) * 2 ^ fr.toNat
def putV (w fr wd v : Int) : Int := bOr 32 (bAndNot 32 w (maskV fr wd)) (v * 2 ^ fr.toNat)
def There (fr wd : Int) : Prop := 0 ≤ fr ∧ fr < 32 ∧ 1 ≤ wd ∧ wd ≤ 32 - fr
theorem pow_nat (k : Nat) : (2 : Int) ^ k = ((2 ^ k : Nat) : Int) := by norm_cast
theorem pow_bd {k : Nat} (h : k ≤ 32) : 1 ≤ (2 : Int) ^ k ∧ (2 : Int) ^ k ≤ 4294967296 := by
  have h1 := Nat.one_le_two_pow (n := k)
  have h2 := Nat.pow_le_pow_right (n := 2) (by decide) h
  rw [pow_nat]
  simp at h2
  omega
theorem min64 {x : Int} (h : x ≤ 64) : min x.toNat 64 = x.toNat := Nat.min_eq_left (by omega)
theorem min32 {x : Int} (h : x ≤ 32) : min x.toNat 32 = x.toNat := Nat.min_eq_left (by omega)
theorem shV_bd {w i : Int} (h0 : 0 ≤ w) : 0 ≤ shV w i ∧ shV w i ≤ w := by
  unfold shV
  have := pow_nat i.toNat
  rw [this]
  exact ⟨Int.ediv_nonneg h0 (Int.natCast_nonneg _), Int.ediv_le_self _ h0⟩
theorem shV_zero {w i : Int} (h0 : 0 ≤ w) : shV w i = 0 ↔ w < 2 ^ i.toNat := by
  unfold shV
  obtain ⟨n, rfl⟩ := Int.eq_ofNat_of_zero_le h0
  rw [pow_nat]
  have h1 : (Int.ofNat n / ((2 ^ i.toNat : Nat) : Int)) = ((n / 2 ^ i.toNat : Nat) : Int) := by simp
  simp only [Int.ofNat_eq_natCast] at h1 ⊢
  rw [h1]
  constructor
  · intro h
    have h2 : n / 2 ^ i.toNat = 0 := by omega
    have := (Nat.div_eq_zero_iff).1 h2
    rcases this with h3 | h3
    · have := Nat.two_pow_pos i.toNat; omega
    · omega
  · intro h
    have : n < 2 ^ i.toNat := by omega
    rw [Nat.div_eq_of_lt this]; rfl
theorem field_bd {w fr wd : Int} : 0 ≤ fieldV w fr wd ∧ fieldV w fr wd < 2 ^ wd.toNat := by
  unfold fieldV
  have := pow_bd (k := 0) (by decide)
  have h1 : (0 : Int) < 2 ^ wd.toNat := Int.pow_pos (by decide)
  exact ⟨Int.emod_nonneg _ (by omega), Int.emod_lt_of_pos _ h1⟩
/- By bits. -/
theorem ofInt_nat (m n : Nat) : BitVec.ofInt m (n : Int) = BitVec.ofNat m n := by simp
theorem tb_or {a b i : Nat} : (bOr 32 a b).toNat.testBit i = (decide (i < 32) && (a.testBit i || b.testBit i)) := by
  unfold bOr
  rw [Int.toNat_natCast, BitVec.testBit_toNat, ofInt_nat, ofInt_nat, BitVec.getLsbD_or, BitVec.getLsbD_ofNat, BitVec.getLsbD_ofNat]
  cases decide (i < 32) <;> simp
theorem tb_andNot {a b i : Nat} : (bAndNot 32 a b).toNat.testBit i = (decide (i < 32) && (a.testBit i && !b.testBit i)) := by
  unfold bAndNot
  rw [Int.toNat_natCast, BitVec.testBit_toNat, ofInt_nat, ofInt_nat, BitVec.getLsbD_and, BitVec.getLsbD_not, BitVec.getLsbD_ofNat, BitVec.getLsbD_ofNat]
  by_cases h : i < 32 <;> simp [h]
theorem tb_and {m a b i : Nat} : (bAnd m a b).toNat.testBit i = (decide (i < m) && (a.testBit i && b.testBit i)) := by
  unfold bAnd
  rw [Int.toNat_natCast, BitVec.testBit_toNat, ofInt_nat, ofInt_nat, BitVec.getLsbD_and, BitVec.getLsbD_ofNat, BitVec.getLsbD_ofNat]
  by_cases h : i < m <;> simp [h]
theorem bOr_nn (m : Nat) (x y : Int) : 0 ≤ bOr m x y ∧ bOr m x y < 2 ^ m := by
  unfold bOr
  have := (BitVec.ofInt m x ||| BitVec.ofInt m y).isLt
  rw [pow_nat]
  omega
theorem bAnd_nn (m : Nat) (x y : Int) : 0 ≤ bAnd m x y ∧ bAnd m x y < 2 ^ m := by
  unfold bAnd
  have := (BitVec.ofInt m x &&& BitVec.ofInt m y).isLt
  rw [pow_nat]
  omega
theorem bXor_nn (m : Nat) (x y : Int) : 0 ≤ bXor m x y ∧ bXor m x y < 2 ^ m := by
  unfold bXor
  have := (BitVec.ofInt m x ^^^ BitVec.ofInt m y).isLt
  rw [pow_nat]
  omega
theorem bAndNot_nn (m : Nat) (x y : Int) : 0 ≤ bAndNot m x y := by
  unfold bAndNot; omega
theorem and_mask {m a k : Nat} (hk : k ≤ m) : bAnd m (a : Int) ((2 ^ k : Nat) - 1 : Nat) = ((a % 2 ^ k : Nat) : Int) := by
  have h : (bAnd m (a : Int) ((2 ^ k : Nat) - 1 : Nat)).toNat = a % 2 ^ k := by
    apply Nat.eq_of_testBit_eq
    intro i
    rw [tb_and, Nat.testBit_two_pow_sub_one, Nat.testBit_mod_two_pow]
    by_cases h1 : i < k
    · simp [h1, show i < m by omega]
    · simp [h1]
  have := (bAnd_nn m (a : Int) ((2 ^ k : Nat) - 1 : Nat)).1
  omega
theorem and_maskI {m : Nat} {a : Int} {k : Nat} (h0 : 0 ≤ a) (hk : k ≤ m) : bAnd m a (2 ^ k - 1) = a % 2 ^ k := by
  obtain ⟨n, rfl⟩ := Int.eq_ofNat_of_zero_le h0
  have h1 : (2 : Int) ^ k - 1 = ((2 ^ k - 1 : Nat) : Int) := by
    have := Nat.one_le_two_pow (n := k)
    rw [pow_nat]; omega
  have h2 := and_mask (m := m) (a := n) hk
  try simp only [Int.ofNat_eq_natCast]
  rw [h1, h2, pow_nat]
  simp
theorem maskV_nat {fr wd : Nat} : maskV fr wd = (((2 ^ wd - 1) * 2 ^ fr : Nat) : Int) := by
  unfold maskV
  have := Nat.one_le_two_pow (n := wd)
  simp only [Int.toNat_natCast, pow_nat]
  rw [Int.natCast_mul, Int.natCast_sub this]
  rfl
theorem tb_mask {fr wd i : Nat} : ((2 ^ wd - 1) * 2 ^ fr).testBit i = decide (fr ≤ i ∧ i < fr + wd) := by
  rw [← Nat.shiftLeft_eq, Nat.testBit_shiftLeft, Nat.testBit_two_pow_sub_one]
  by_cases h1 : fr ≤ i
  · by_cases h2 : i < fr + wd
    · simp [h1, h2, show i - fr < wd by omega]
    · simp [h1, h2, show ¬ i - fr < wd by omega]
  · simp [h1]
theorem tb_put {w fr wd v i : Nat} (hv : v < 2 ^ wd) : (putV w fr wd v).toNat.testBit i = (decide (i < 32) && if fr ≤ i ∧ i < fr + wd then v.testBit (i - fr) else w.testBit i) := by
  unfold putV
  rw [maskV_nat]
  have e1 : bAndNot 32 (w : Int) (((2 ^ wd - 1) * 2 ^ fr : Nat) : Int) = ((bAndNot 32 (w : Int) (((2 ^ wd - 1) * 2 ^ fr : Nat) : Int)).toNat : Int) := by
    have := bAndNot_nn 32 (w : Int) (((2 ^ wd - 1) * 2 ^ fr : Nat) : Int)
    omega
  have e2 : (v : Int) * 2 ^ ((fr : Int)).toNat = ((v * 2 ^ fr : Nat) : Int) := by
    simp only [Int.toNat_natCast, pow_nat]
    rw [Int.natCast_mul]
  rw [e1, e2, tb_or, tb_andNot, tb_mask, ← Nat.shiftLeft_eq, Nat.testBit_shiftLeft]
  by_cases h32 : i < 32
  · by_cases h1 : fr ≤ i
    · by_cases h2 : i < fr + wd
      · simp [h32, h1, h2]
      · have h3 : v.testBit (i - fr) = false := Nat.testBit_lt_two_pow (Nat.lt_of_lt_of_le hv (Nat.pow_le_pow_right (by decide) (by omega)))
        simp [h32, h1, h2, h3]
    · simp [h32, h1]
  · simp [h32]
theorem field_nat {w fr wd : Nat} : fieldV w fr wd = ((w / 2 ^ fr % 2 ^ wd : Nat) : Int) := by
  unfold fieldV
  simp only [Int.toNat_natCast, pow_nat]
  simp
theorem tb_field {w fr wd i : Nat} : (fieldV w fr wd).toNat.testBit i = (decide (i < wd) && w.testBit (fr + i)) := by
  rw [field_nat, Int.toNat_natCast, Nat.testBit_mod_two_pow, ← Nat.shiftRight_eq_div_pow, Nat.testBit_shiftRight]
theorem put_nn (w fr wd v : Int) : 0 ≤ putV w fr wd v ∧ putV w fr wd v ≤ 4294967295 := by
  have := bOr_nn 32 (bAndNot 32 w (maskV fr wd)) (v * 2 ^ fr.toNat)
  unfold putV
  simp at this ⊢
  omega
theorem field_put {w fr wd v : Int} (hw : 0 ≤ w ∧ w ≤ 4294967295) (ht : There fr wd) (hv : 0 ≤ v ∧ v < 2 ^ wd.toNat) : fieldV (putV w fr wd v) fr wd = v := by
  obtain ⟨t0, t1, t2, t3⟩ := ht
  obtain ⟨w, rfl⟩ := Int.eq_ofNat_of_zero_le hw.1
  obtain ⟨fr, rfl⟩ := Int.eq_ofNat_of_zero_le t0
  obtain ⟨wd, rfl⟩ := Int.eq_ofNat_of_zero_le (show 0 ≤ wd by omega)
  obtain ⟨v, rfl⟩ := Int.eq_ofNat_of_zero_le hv.1
  try simp only [Int.ofNat_eq_natCast] at *
  have hv2 : v < 2 ^ wd := by have := hv.2; rw [Int.toNat_natCast, pow_nat] at this; omega
  have hp := (put_nn w fr wd v).1
  obtain ⟨q, hq⟩ := Int.eq_ofNat_of_zero_le hp
  have hqn : q = (putV w fr wd v).toNat := by rw [hq]; rfl
  have h : (fieldV (putV w fr wd v) fr wd).toNat = v := by
    rw [hq]
    apply Nat.eq_of_testBit_eq
    intro i
    have := tb_field (w := q) (fr := fr) (wd := wd) (i := i)
    try simp only [Int.ofNat_eq_natCast]
    rw [this, hqn, tb_put hv2]
    by_cases h1 : i < wd
    · simp [h1, show fr + i < 32 by omega]
    · have h3 : v.testBit i = false := Nat.testBit_lt_two_pow (Nat.lt_of_lt_of_le hv2 (Nat.pow_le_pow_right (by decide) (by omega)))
      simp [h1, h3]
  have := (field_bd (w := putV w fr wd v) (fr := fr) (wd := wd)).1
  omega
theorem put_put {w fr wd v : Int} (hw : 0 ≤ w ∧ w ≤ 4294967295) (ht : There fr wd) (hv : 0 ≤ v ∧ v < 2 ^ wd.toNat) : putV (putV w fr wd v) fr wd (fieldV w fr wd) = w := by
  obtain ⟨t0, t1, t2, t3⟩ := ht
  obtain ⟨w, rfl⟩ := Int.eq_ofNat_of_zero_le hw.1
  obtain ⟨fr, rfl⟩ := Int.eq_ofNat_of_zero_le t0
  obtain ⟨wd, rfl⟩ := Int.eq_ofNat_of_zero_le (show 0 ≤ wd by omega)
  obtain ⟨v, rfl⟩ := Int.eq_ofNat_of_zero_le hv.1
  try simp only [Int.ofNat_eq_natCast] at *
  have hv2 : v < 2 ^ wd := by have := hv.2; rw [Int.toNat_natCast, pow_nat] at this; omega
  obtain ⟨q, hq⟩ := Int.eq_ofNat_of_zero_le (put_nn w fr wd v).1
  obtain ⟨u, hu⟩ := Int.eq_ofNat_of_zero_le (field_bd (w := w) (fr := fr) (wd := wd)).1
  have hqn : q = (putV w fr wd v).toNat := by rw [hq]; rfl
  have hun : u = (fieldV w fr wd).toNat := by rw [hu]; rfl
  have hu2 : u < 2 ^ wd := by have := (field_bd (w := (w : Int)) (fr := fr) (wd := wd)).2; rw [hu, Int.toNat_natCast, pow_nat] at this; exact Int.ofNat_lt.1 this
  have h : (putV (putV w fr wd v) fr wd (fieldV w fr wd)).toNat = w := by
    rw [hq, hu]
    apply Nat.eq_of_testBit_eq
    intro i
    try simp only [Int.ofNat_eq_natCast]
    rw [tb_put hu2]
    by_cases h32 : i < 32
    · by_cases h1 : fr ≤ i ∧ i < fr + wd
      · rw [if_pos h1, hun, tb_field]
        simp [h32, show i - fr < wd by omega, show fr + (i - fr) = i by omega]
      · rw [if_neg h1, hqn, tb_put hv2, if_neg h1]
        simp [h32]
    · have h3 : w.testBit i = false := Nat.testBit_lt_two_pow (Nat.lt_of_lt_of_le (show w < 2 ^ 32 by have := hw.2; omega) (Nat.pow_le_pow_right (by decide) (by omega)))
      simp [h32, h3]
  have := (put_nn (putV w fr wd v) fr wd (fieldV w fr wd)).1
  omega
theorem bit_nat {w i : Nat} : (bAnd 32 (shV w i) 1).toNat = if i < 32 ∨ w.testBit i then (w.testBit i).toNat else 0 := by
  unfold shV
  simp only [Int.toNat_natCast, pow_nat]
  have h1 : ((w : Int) / ((2 ^ i : Nat) : Int)) = ((w / 2 ^ i : Nat) : Int) := by simp
  rw [h1]
  have h2 := and_mask (m := 32) (a := w / 2 ^ i) (k := 1) (by decide)
  simp only [Nat.pow_one] at h2
  have h3 : (((2 - 1 : Nat)) : Int) = 1 := rfl
  rw [h3] at h2
  rw [h2, Int.toNat_natCast, ← Nat.shiftRight_eq_div_pow]
  have h4 : (w >>> i) % 2 = (w.testBit i).toNat := by
    rw [Nat.testBit_eq_decide_div_mod_eq, Nat.shiftRight_eq_div_pow]
    rcases Nat.mod_two_eq_zero_or_one (w / 2 ^ i) with h | h <;> simp [h]
  rw [h4]
  cases w.testBit i <;> simp
theorem bit_put {w fr wd v i : Int} (hw : 0 ≤ w ∧ w ≤ 4294967295) (ht : There fr wd) (hv : 0 ≤ v ∧ v < 2 ^ wd.toNat) (hi : 0 ≤ i ∧ i < 32) (ho : i < fr ∨ fr + wd ≤ i) : bAnd 32 (shV (putV w fr wd v) i) 1 = bAnd 32 (shV w i) 1 := by
  obtain ⟨t0, t1, t2, t3⟩ := ht
  obtain ⟨w, rfl⟩ := Int.eq_ofNat_of_zero_le hw.1
  obtain ⟨fr, rfl⟩ := Int.eq_ofNat_of_zero_le t0
  obtain ⟨wd, rfl⟩ := Int.eq_ofNat_of_zero_le (show 0 ≤ wd by omega)
  obtain ⟨v, rfl⟩ := Int.eq_ofNat_of_zero_le hv.1
  obtain ⟨i, rfl⟩ := Int.eq_ofNat_of_zero_le hi.1
  try simp only [Int.ofNat_eq_natCast] at *
  have hv2 : v < 2 ^ wd := by have := hv.2; rw [Int.toNat_natCast, pow_nat] at this; omega
  obtain ⟨q, hq⟩ := Int.eq_ofNat_of_zero_le (put_nn w fr wd v).1
  have hqn : q = (putV w fr wd v).toNat := by rw [hq]; rfl
  rw [hq]
  try simp only [Int.ofNat_eq_natCast]
  have a1 := bit_nat (w := q) (i := i)
  have a2 := bit_nat (w := w) (i := i)
  have hb : q.testBit i = w.testBit i := by
    rw [hqn, tb_put hv2, if_neg (by omega)]
    simp [show i < 32 by omega]
  rw [hb] at a1
  have b1 := (bAnd_nn 32 (shV (q : Int) i) 1).1
  have b2 := (bAnd_nn 32 (shV (w : Int) i) 1).1
  omega
end Go.Proofs.Ytnkmhhjldfapdaa.Fw
