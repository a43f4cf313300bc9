import Derived.Test.YtnkmhhjldfapdaaSum
namespace Go.Proofs.Ytnkmhhjldfapdaa.Fw
open Go Go.Proofs
set_option linter.unusedVariables false
set_option linter.unusedSimpArgs false
set_option maxRecDepth 10000

/-- A bit's step on the register. -/
def pol : BitVec 32 := 3988292384#32
def stepT (x : BitVec 32) : BitVec 32 := (x >>> 1) ^^^ (if x.getLsbD 0 then pol else 0#32)
theorem stepT_xor (x y : BitVec 32) : stepT (x ^^^ y) = stepT x ^^^ stepT y := by
  unfold stepT
  rw [BitVec.ushiftRight_xor_distrib, BitVec.getLsbD_xor]
  have h0 : pol ^^^ pol = 0#32 := by decide
  generalize x >>> 1 = a
  generalize y >>> 1 = b
  generalize pol = p at *
  cases x.getLsbD 0 <;> cases y.getLsbD 0 <;> simp
  · ac_rfl
  · ac_rfl
  · have : a ^^^ p ^^^ (b ^^^ p) = (a ^^^ b) ^^^ (p ^^^ p) := by ac_rfl
    rw [this, h0, BitVec.xor_zero]
theorem stepT_inj0 {x : BitVec 32} (h : stepT x = 0#32) : x = 0#32 := by
  have hb : ∀ i, i < 32 → (stepT x).getLsbD i = false := by intro i _; rw [h]; simp
  have h31 := hb 31 (by decide)
  have hx0 : x.getLsbD 0 = false := by
    unfold stepT at h31
    rw [BitVec.getLsbD_xor, BitVec.getLsbD_ushiftRight] at h31
    have h1 : x.getLsbD (1 + 31) = false := BitVec.getLsbD_of_ge _ _ (by decide)
    rw [h1] at h31
    cases hq : x.getLsbD 0 with
    | false => rfl
    | true =>
      have : pol.getLsbD 31 = true := by decide
      rw [hq, if_pos rfl, this] at h31
      exact absurd h31 (by decide)
  have h2 : x >>> 1 = 0#32 := by
    unfold stepT at h
    rw [hx0] at h
    simpa using h
  apply BitVec.eq_of_getLsbD_eq
  intro i hi
  rcases Nat.eq_zero_or_pos i with rfl | hp
  · rw [hx0]; simp
  · have := congrArg (fun z => z.getLsbD (i - 1)) h2
    simp only [BitVec.getLsbD_ushiftRight] at this
    rw [show 1 + (i - 1) = i by omega] at this
    rw [this]; simp
def steps : Nat → BitVec 32 → BitVec 32
  | 0, x => x
  | k + 1, x => stepT (steps k x)
theorem steps_xor (x y : BitVec 32) : ∀ k, steps k (x ^^^ y) = steps k x ^^^ steps k y
  | 0 => rfl
  | k + 1 => by simp only [steps]; rw [steps_xor x y k, stepT_xor]
theorem steps_inj0 {x : BitVec 32} : ∀ {k}, steps k x = 0#32 → x = 0#32
  | 0, h => h
  | k + 1, h => steps_inj0 (k := k) (stepT_inj0 h)
theorem step_even {x : BitVec 32} (b : Bool) (hb : x.getLsbD 0 = b) : stepT (x ^^^ (if b then 1#32 else 0#32)) = x >>> 1 := by
  subst hb
  unfold stepT
  have h1 : (x ^^^ (if x.getLsbD 0 then 1#32 else 0#32)).getLsbD 0 = false := by
    rw [BitVec.getLsbD_xor]
    cases x.getLsbD 0 <;> simp
  rw [h1, BitVec.ushiftRight_xor_distrib]
  have h2 : (if x.getLsbD 0 then 1#32 else 0#32) >>> 1 = 0#32 := by cases x.getLsbD 0 <;> decide
  rw [h2]
  simp
/-- The register after so many bits of a list of bits. -/
def regB (s : BitVec 32) (f : Nat → Bool) : Nat → BitVec 32
  | 0 => s
  | t + 1 => stepT (regB s f t ^^^ (if f t then 1#32 else 0#32))
theorem regB_steps {s e : BitVec 32} {f : Nat → Bool} : ∀ {k}, (∀ i, i < k → f i = e.getLsbD i) → regB s f k = steps k (s ^^^ e) ^^^ (e >>> k)
  | 0, _ => by simp [regB, steps, BitVec.xor_assoc]
  | k + 1, h => by
    have ih := regB_steps (s := s) (e := e) (f := f) (k := k) fun i hi => h i (by omega)
    simp only [regB, steps]
    rw [ih, h k (by omega), BitVec.xor_assoc, stepT_xor, step_even (x := e >>> k) (e.getLsbD k) (by rw [BitVec.getLsbD_ushiftRight]; rfl), ← BitVec.shiftRight_add]
theorem regB_cat {s : BitVec 32} {f : Nat → Bool} {m : Nat} : ∀ k, regB s f (m + k) = regB (regB s f m) (fun i => f (m + i)) k
  | 0 => rfl
  | k + 1 => by
    rw [show m + (k + 1) = (m + k) + 1 from rfl]
    simp only [regB]
    rw [regB_cat k]
theorem regB_xor {s u : BitVec 32} {f g : Nat → Bool} : ∀ k, regB s f k ^^^ regB u g k = regB (s ^^^ u) (fun i => f i ^^ g i) k
  | 0 => rfl
  | k + 1 => by
    have ih := regB_xor (s := s) (u := u) (f := f) (g := g) k
    simp only [regB]
    rw [← ih, ← stepT_xor]
    congr 1
    have : (if (f k ^^ g k) = true then 1#32 else 0#32) = (if f k = true then 1#32 else 0#32) ^^^ (if g k = true then 1#32 else (0#32 : BitVec 32)) := by
      cases f k <;> cases g k <;> simp
    rw [this]
    ac_rfl
theorem regB_congr {s : BitVec 32} {f g : Nat → Bool} : ∀ {k}, (∀ i, i < k → f i = g i) → regB s f k = regB s g k
  | 0, _ => rfl
  | k + 1, h => by
    simp only [regB]
    rw [regB_congr fun i hi => h i (by omega), h k (by omega)]
theorem step0 : stepT 0#32 = 0#32 := by decide
/-- A burst of at most 32 bits, told by e. -/
theorem burst {e : BitVec 32} {f : Nat → Bool} {p m : Nat} (h0 : ∀ t, t < p → f t = false) (h1 : ∀ i, i < m → f (p + i) = e.getLsbD i) (he : e >>> m = 0#32) : regB 0#32 f (p + m) = 0#32 ↔ e = 0#32 := by
  have hz : regB 0#32 f p = 0#32 := by
    rw [regB_congr (g := fun _ => false) h0]
    have : ∀ k, regB 0#32 (fun _ => false) k = 0#32 := by
      intro k
      induction k with
      | zero => rfl
      | succ k ih => simp only [regB]; rw [ih]; simpa using step0
    exact this p
  rw [regB_cat, hz, regB_steps h1, he, BitVec.xor_zero, BitVec.zero_xor]
  exact ⟨steps_inj0, fun h => by
    subst h
    clear h1 he hz
    induction m with
    | zero => rfl
    | succ k ih => simp only [steps]; rw [ih]; exact step0⟩
/- The program's sum. -/
def bitL (W : List Int) (t : Nat) : Bool := (W.getD (t / 8) 0).toNat.testBit (t % 8)
theorem itr_steps {x : BitVec 32} : ∀ k, itr k (x.toNat : Int) = ((steps k x).toNat : Int)
  | 0 => rfl
  | k + 1 => by
    simp only [itr, steps]
    rw [itr_steps k]
    generalize steps k x = y
    unfold crc1 stepT
    have h1 : bAnd 32 (y.toNat : Int) 1 = if y.getLsbD 0 then 1 else 0 := by
      have := and_mask (m := 32) (a := y.toNat) (k := 1) (by decide)
      have h3 : (((2 ^ 1 - 1 : Nat)) : Int) = 1 := rfl
      rw [h3] at this
      rw [this, BitVec.getLsbD, Nat.testBit_zero]
      rcases Nat.mod_two_eq_zero_or_one y.toNat with h | h <;> simp [h]
    have h2 : ((y.toNat : Int) / (2 : Int)) = ((y >>> 1).toNat : Int) := by
      rw [BitVec.toNat_ushiftRight, Nat.shiftRight_eq_div_pow]
      simp
    rw [h1, h2]
    cases y.getLsbD 0 with
    | false => simp
    | true =>
      simp only [if_true]
      unfold bXor
      rw [ofInt_nat]
      have h3 : BitVec.ofNat 32 (y >>> 1).toNat = y >>> 1 := BitVec.eq_of_toNat_eq (by rw [BitVec.toNat_ofNat, Nat.mod_eq_of_lt (BitVec.isLt _)])
      rw [h3]
      rfl
theorem bXor_reg {x : BitVec 32} {b : Int} : bXor 32 (x.toNat : Int) b = ((x ^^^ BitVec.ofInt 32 b).toNat : Int) := by
  unfold bXor
  rw [ofInt_nat]
  have h3 : BitVec.ofNat 32 x.toNat = x := by simp
  rw [h3]
theorem crcP_reg {W : List Int} (hU : U8s W) : ∀ k, crcP W k = ((regB (BitVec.allOnes 32) (bitL W) (8 * k)).toNat : Int)
  | 0 => by simp [crcP, regB]
  | k + 1 => by
    have ih := crcP_reg hU k
    simp only [crcP]
    rw [ih, bXor_reg, itr_steps, show 8 * (k + 1) = 8 * k + 8 by omega, regB_cat]
    have hb := hU k
    obtain ⟨b, hb2⟩ := Int.eq_ofNat_of_zero_le hb.1
    have hb3 : b ≤ 255 := by omega
    rw [regB_steps (k := 8) (e := BitVec.ofInt 32 (W.getD k 0))]
    · rw [hb2]
      have : BitVec.ofInt 32 ((b : Nat) : Int) >>> 8 = 0#32 := by
        apply BitVec.eq_of_toNat_eq
        rw [ofInt_nat, BitVec.toNat_ushiftRight, BitVec.toNat_ofNat, Nat.mod_eq_of_lt (by omega), Nat.shiftRight_eq_div_pow, Nat.div_eq_of_lt (by omega)]
        rfl
      try simp only [Int.ofNat_eq_natCast]
      rw [this, BitVec.xor_zero]
    · intro i hi
      unfold bitL
      rw [show (8 * k + i) / 8 = k by omega, show (8 * k + i) % 8 = i by omega, hb2]
      try simp only [Int.ofNat_eq_natCast]
      rw [ofInt_nat, BitVec.getLsbD_ofNat]
      simp [show i < 32 by omega]
theorem sumV_eq {W V : List Int} (hW : U8s W) (hV : U8s V) (hl : V.length = W.length) : sumV W = sumV V ↔ regB 0#32 (fun t => bitL W t ^^ bitL V t) (8 * W.length) = 0#32 := by
  unfold sumV
  rw [hl, crcP_reg hW, crcP_reg hV]
  have e : ∀ x : BitVec 32, bXor 32 4294967295 (x.toNat : Int) = ((BitVec.allOnes 32 ^^^ x).toNat : Int) := by
    intro x
    have := bXor_reg (x := BitVec.allOnes 32) (b := (x.toNat : Int))
    rw [ofInt_nat] at this
    simpa using this
  rw [e, e]
  have hz := regB_xor (s := BitVec.allOnes 32) (u := BitVec.allOnes 32) (f := bitL W) (g := bitL V) (8 * W.length)
  rw [BitVec.xor_self] at hz
  rw [← hz]
  generalize regB (BitVec.allOnes 32) (bitL W) (8 * W.length) = x
  generalize regB (BitVec.allOnes 32) (bitL V) (8 * W.length) = y
  constructor
  · intro h
    have h2 : BitVec.allOnes 32 ^^^ x = BitVec.allOnes 32 ^^^ y := BitVec.eq_of_toNat_eq (by exact_mod_cast h)
    have h3 := congrArg (fun z => BitVec.allOnes 32 ^^^ z) h2
    simp only [← BitVec.xor_assoc, BitVec.xor_self, BitVec.zero_xor] at h3
    rw [h3, BitVec.xor_self]
  · intro h
    have : x = y := by
      have h3 := congrArg (fun z => z ^^^ y) h
      simpa [BitVec.xor_assoc] using h3
    rw [this]
theorem sum_law {W C : List Int} (hW : U8s W) (hC : U8s C) (hl : C.length = W.length) {first mask : Nat} (hm : mask < 4294967296) (hf : first < 8 * W.length) (hb : ∀ t, t < 8 * W.length → bitL C t = (bitL W t ^^ (decide (first ≤ t ∧ t < first + 32) && mask.testBit (t - first)))) :
    sumV W = sumV C ↔ ¬ ∃ j, j < 32 ∧ mask.testBit j = true ∧ first + j < 8 * W.length := by
  rw [sumV_eq hW hC hl]
  obtain ⟨m, hm2⟩ : ∃ m, 8 * W.length = first + m := ⟨8 * W.length - first, by omega⟩
  rw [hm2] at hb ⊢
  have hlt : mask % 2 ^ m < 4294967296 := Nat.lt_of_le_of_lt (Nat.mod_le _ _) hm
  rw [burst (e := BitVec.ofNat 32 (mask % 2 ^ m))]
  · constructor
    · rintro h ⟨j, h1, h2, h3⟩
      have := congrArg (fun z => z.getLsbD j) h
      simp only [BitVec.getLsbD_ofNat, Nat.testBit_mod_two_pow, h2] at this
      simp [h1, show j < m by omega] at this
    · intro h
      apply BitVec.eq_of_getLsbD_eq
      intro i hi
      rw [BitVec.getLsbD_ofNat, Nat.testBit_mod_two_pow]
      simp only [BitVec.getLsbD_zero]
      by_cases h1 : i < m
      · cases h2 : mask.testBit i
        · simp
        · exact absurd ⟨i, hi, h2, by omega⟩ h
      · simp [h1]
  · intro t ht
    rw [hb t (by omega)]
    simp [show ¬ first ≤ t by omega]
  · intro i hi
    rw [hb _ (by omega), BitVec.getLsbD_ofNat, Nat.testBit_mod_two_pow]
    rw [show first + i - first = i by omega]
    by_cases h1 : i < 32
    · cases bitL W (first + i) <;> simp [h1, hi]
    · cases bitL W (first + i) <;> simp [h1]
  · apply BitVec.eq_of_toNat_eq
    rw [BitVec.toNat_ushiftRight, BitVec.toNat_ofNat, Nat.mod_eq_of_lt hlt, Nat.shiftRight_eq_div_pow, Nat.div_eq_of_lt (Nat.mod_lt _ (Nat.two_pow_pos m))]
    rfl
/-- A bit turned. -/
theorem xor8_bits {x k : Nat} (hx : x ≤ 255) (hk : k < 8) (i : Nat) (hi : i < 8) : (bXor 8 (x : Int) ((2 ^ k : Nat) : Int)).toNat.testBit i = (x.testBit i ^^ decide (i = k)) := by
  unfold bXor
  rw [ofInt_nat, ofInt_nat, Int.toNat_natCast, BitVec.testBit_toNat, BitVec.getLsbD_xor, BitVec.getLsbD_ofNat, BitVec.getLsbD_ofNat, Nat.testBit_two_pow]
  simp [hi, eq_comm]
def flipL (W : List Int) (k : Nat) : List Int := W.set (k / 8) (bXor 8 (W.getD (k / 8) 0) ((2 ^ (k % 8) : Nat) : Int))
theorem flip_u8 {W : List Int} {k : Nat} (hU : U8s W) : U8s (flipL W k) := by
  intro i
  unfold flipL
  rw [List.getD_eq_getElem?_getD, List.getElem?_set]
  split
  · split
    · have := bXor_nn 8 (W.getD (k / 8) 0) ((2 ^ (k % 8) : Nat) : Int)
      simp at this ⊢
      omega
    · decide
  · rw [← List.getD_eq_getElem?_getD]; exact hU i
theorem flip_bit {W : List Int} {k : Nat} (hU : U8s W) (hk : k / 8 < W.length) (t : Nat) : bitL (flipL W k) t = (bitL W t ^^ decide (t = k)) := by
  unfold bitL flipL
  rw [List.getD_eq_getElem?_getD, List.getElem?_set]
  by_cases h : k / 8 = t / 8
  · rw [if_pos h, if_pos hk]
    obtain ⟨b, hb⟩ := Int.eq_ofNat_of_zero_le (hU (k / 8)).1
    have hb2 := (hU (k / 8)).2
    rw [hb] at hb2 ⊢
    simp only [Option.getD_some, Int.ofNat_eq_natCast] at *
    rw [xor8_bits (by omega) (by omega) _ (by omega), ← h, hb]
    simp only [Int.toNat_natCast]
    have : (t % 8 = k % 8) ↔ t = k := by omega
    simp [this]
  · rw [if_neg h, ← List.getD_eq_getElem?_getD]
    have : t ≠ k := fun e => h (by rw [e])
    simp [this]
structure BurstI (W C : List Int) (first mask i : Nat) (tb : Bool) : Prop where
  len : C.length = W.length
  u8 : U8s C
  bit : ∀ t, t < 8 * W.length → bitL C t = (bitL W t ^^ (decide (first ≤ t ∧ t < first + i) && mask.testBit (t - first)))
  tb : tb = true ↔ ∃ j, j < i ∧ mask.testBit j = true ∧ first + j < 8 * W.length
theorem BurstI.zero {W : List Int} {first mask : Nat} (hU : U8s W) : BurstI W W first mask 0 false :=
  ⟨rfl, hU, fun t ht => by simp [show ¬ (first ≤ t ∧ t < first) by omega], by simp⟩
theorem BurstI.flip {W C : List Int} {first mask i : Nat} {tb : Bool} (h : BurstI W C first mask i tb) (hb : mask.testBit i = true) (hf : first + i < 8 * W.length) : BurstI W (flipL C (first + i)) first mask (i + 1) true := by
  refine ⟨by rw [← h.len]; simp [flipL], flip_u8 h.u8, fun t ht => ?_, ⟨fun _ => ⟨i, by omega, hb, hf⟩, fun _ => rfl⟩⟩
  rw [flip_bit h.u8 (by rw [h.len]; omega), h.bit t ht]
  by_cases he : t = first + i
  · subst he
    simp [show first + i - first = i by omega, hb]
  · by_cases h1 : first ≤ t ∧ t < first + i
    · simp [h1, he, show t < first + (i + 1) by omega]
    · simp [h1, he, show ¬ (first ≤ t ∧ t < first + (i + 1)) by omega]
theorem BurstI.skip {W C : List Int} {first mask i : Nat} {tb : Bool} (h : BurstI W C first mask i tb) (hb : ¬ (mask.testBit i = true ∧ first + i < 8 * W.length)) : BurstI W C first mask (i + 1) tb := by
  refine ⟨h.len, h.u8, fun t ht => ?_, ?_⟩
  · rw [h.bit t ht]
    by_cases he : t = first + i
    · subst he
      have : mask.testBit i = false := by
        cases hq : mask.testBit i
        · rfl
        · exact absurd ⟨hq, ht⟩ hb
      simp [show first + i - first = i by omega, this]
    · by_cases h1 : first ≤ t ∧ t < first + i
      · simp [h1, show t < first + (i + 1) by omega]
      · simp [h1, show ¬ (first ≤ t ∧ t < first + (i + 1)) by omega]
  · rw [h.tb]
    constructor
    · rintro ⟨j, h1, h2⟩; exact ⟨j, by omega, h2⟩
    · rintro ⟨j, h1, h2⟩
      rcases Nat.lt_or_ge j i with h3 | h3
      · exact ⟨j, h3, h2⟩
      · obtain rfl : j = i := by omega
        exact absurd h2 hb
theorem BurstI.law {W C : List Int} {first mask : Nat} {tb : Bool} (h : BurstI W C first mask 32 tb) (hU : U8s W) (hm : mask < 4294967296) (hf : first < 8 * W.length) : (decide (sumV W ≠ sumV C) == tb) = true := by
  have h1 := sum_law hU h.u8 h.len hm hf h.bit
  rw [← h.tb] at h1
  rw [beq_iff_eq]
  cases tb with
  | false => simpa using h1
  | true => simpa using h1
theorem bit_iff {x i : Int} (h : 0 ≤ x) : bAnd 32 (shV x i) 1 = 1 ↔ x.toNat.testBit i.toNat = true := by
  obtain ⟨w, rfl⟩ := Int.eq_ofNat_of_zero_le h
  have := bit_nat (w := w) (i := i.toNat)
  have hb := (bAnd_nn 32 (shV (w : Int) i) 1).1
  have hs : shV (w : Int) ((i.toNat : Nat) : Int) = shV (w : Int) i := by unfold shV; rw [Int.toNat_natCast]
  rw [hs] at this
  simp only [Int.ofNat_eq_natCast, Int.toNat_natCast]
  cases hq : w.testBit i.toNat
  · rw [hq] at this
    simp only [Bool.toNat_false, ite_self] at this
    constructor
    · intro h; omega
    · intro h; cases h
  · rw [hq] at this
    simp at this
    constructor
    · intro _; rfl
    · intro _; omega
def pickV (c n : Int) : Int := (if c < 0 then -(c + 1) else c) % n
theorem pickV_bd {c n : Int} (h : 0 < n) : 0 ≤ pickV c n ∧ pickV c n < n := by
  unfold pickV
  exact ⟨Int.emod_nonneg _ (by omega), Int.emod_lt_of_pos _ h⟩

end Go.Proofs.Ytnkmhhjldfapdaa.Fw
