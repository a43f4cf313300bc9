/- Isa: Decode, whatever the word, over the table. -/
import Derived.Test.YtdoighcgfbnigaaDoorIsaDec
namespace Go.Proofs.YtdoighcgfbnigaaDoor.Isa
set_option linter.unusedVariables false
set_option linter.unusedSimpArgs false
open Go.RowKit Go.Proofs.YtdoighcgfbnigaaDoorW.PrintWords Go.Proofs.YtdoighcgfbnigaaDoorW.PrintLast Go.Proofs.YtdoighcgfbnigaaDoorW.PrintMore

/-- An immediate: 18 bits with a sign. -/
def imm (x : Int) : Int := (x + 131072) % 262144 - 131072

theorem immOf_eq (x : Int) (x0 : 0 ≤ x) (x1 : x < 4294967296) : immOf x = imm x := by
  unfold immOf imm wrap64 wrap32; omega

/-- The operands that a word has. -/
def dop (x : Int) : Int := x / 67108864
def da (x : Int) : Int := cond (hasA (formOf (dop x))) (x / 4194304 % 16) 0
def db (x : Int) : Int := cond (hasB (formOf (dop x))) (x / 262144 % 16) 0
def dc (x : Int) : Int := cond (hasC (formOf (dop x))) (x / 16384 % 16) 0
def di (x : Int) : Int := cond (hasI (formOf (dop x))) (imm x) 0
/-- Is a word an instruction's? -/
def okWord (x : Int) : Bool := okIns (dop x) (da x) (db x) (dc x) (di x) && word (dop x) (da x) (db x) (dc x) (di x) == x

theorem reg_int (x p : Int) (g : Nat) (w : World) (hp0 : 0 ≤ p) (hp : p < 32) (x0 : 0 ≤ x) (hx : x < 4294967296) (hc : w.cell? ⟨g, 0, none⟩ = some (.int .u32 x)) :
    Calls Tryd.prog 27 #[.int .i64 p, .pointer (some ⟨g, 0, none⟩)] w fun e w' => e = .returned (.int .i64 (x / 2 ^ p.toNat % 16)) ∧ w = w' := by
  obtain ⟨p, rfl⟩ := Int.eq_ofNat_of_zero_le hp0
  obtain ⟨x, rfl⟩ := Int.eq_ofNat_of_zero_le x0
  have h := reg_any x p g w (by omega) (by omega) hc
  simpa using h

theorem decH (x : Int) (x0 : 0 ≤ x) (x1 : x < 4294967296) :
    DecH x (dop x) (x / 4194304 % 16) (x / 262144 % 16) (x / 16384 % 16) (formOf (dop x))
      (if okIns (dop x) (da x) (db x) (dc x) (di x) then word (dop x) (da x) (db x) (dc x) (di x) else 0) (if okIns (dop x) (da x) (db x) (dc x) (di x) then 0 else 21)
      (hasA (formOf (dop x))) (hasB (formOf (dop x))) (hasC (formOf (dop x))) (hasI (formOf (dop x))) where
  HF := fun W hW => form_any _ W hW
  HH := fun W => has_any _ W (formOf_bound _).1 (formOf_bound _).2
  HA := fun W g h => reg_int x 22 g W (by decide) (by decide) x0 x1 h
  HB := fun W g h => reg_int x 18 g W (by decide) (by decide) x0 x1 h
  HC := fun W g h => reg_int x 14 g W (by decide) (by decide) x0 x1 h
  HE := fun W hW => by
    have h := enc_any (dop x) (da x) (db x) (dc x) (di x) W hW
    unfold da db dc di at h ⊢
    rw [immOf_eq x x0 x1]
    exact h

theorem combos (f : Int) : (hasA f = false ∧ hasB f = false ∧ hasC f = false ∧ hasI f = false) ∨ (hasA f = true ∧ hasB f = false ∧ hasC f = false ∧ hasI f = false) ∨ (hasA f = true ∧ hasB f = true ∧ hasC f = false ∧ hasI f = false) ∨
    (hasA f = true ∧ hasB f = true ∧ hasC f = true ∧ hasI f = false) ∨ (hasA f = true ∧ hasB f = false ∧ hasC f = false ∧ hasI f = true) ∨ (hasA f = true ∧ hasB f = true ∧ hasC f = false ∧ hasI f = true) ∨ (hasA f = false ∧ hasB f = false ∧ hasC f = false ∧ hasI f = true) := by
  unfold hasA hasB hasC hasI
  simp only [decide_eq_true_eq, decide_eq_false_iff_not]
  omega

/-- isa.Decode, whatever the word. -/
theorem dec_any (x : Int) (w : World) (ht : Tab w) (x0 : 0 ≤ x) (x1 : x < 4294967296) :
    Calls Tryd.prog 13 #[.int .u32 x] w fun e w' => e = .returned (if okWord x then .tuple #[.agg #[.int .i64 (dop x), .int .i64 (da x), .int .i64 (db x), .int .i64 (dc x), .int .i64 (di x)], .int .i64 0] else .tuple #[.agg #[.int .i64 0, .int .i64 0, .int .i64 0, .int .i64 0, .int .i64 0], .int .i64 20]) ∧ Below w.heap.size w w' := by
  have H := decH x x0 x1
  unfold okWord
  have hi := immOf_eq x x0 x1
  by_cases ho : okIns (dop x) (da x) (db x) (dc x) (di x) = true
  · rw [ho] at H ⊢
    simp only [if_true, Bool.true_and] at H ⊢
    by_cases hv : (word (dop x) (da x) (db x) (dc x) (di x) == x) = true
    · rw [hv]
      simp only [if_true]
      have hv2 : (word (dop x) (da x) (db x) (dc x) (di x) != x) = false := by simpa using hv
      unfold da db dc di at hv hv2 H ⊢
      rcases combos (formOf (dop x)) with ⟨h1, h2, h3, h4⟩ | ⟨h1, h2, h3, h4⟩ | ⟨h1, h2, h3, h4⟩ | ⟨h1, h2, h3, h4⟩ | ⟨h1, h2, h3, h4⟩ | ⟨h1, h2, h3, h4⟩ | ⟨h1, h2, h3, h4⟩ <;> simp only [h1, h2, h3, h4, cond_true, cond_false] at hv hv2 H ⊢ <;> rw [← hi] at * <;>
        first
        | exact dec_f1_yes x _ _ _ _ _ _ w ht x0 x1 H hv hv2 rfl rfl
        | exact dec_f2_yes x _ _ _ _ _ _ w ht x0 x1 H hv hv2 rfl rfl
        | exact dec_f3_yes x _ _ _ _ _ _ w ht x0 x1 H hv hv2 rfl rfl
        | exact dec_f4_yes x _ _ _ _ _ _ w ht x0 x1 H hv hv2 rfl rfl
        | exact dec_f5_yes x _ _ _ _ _ _ w ht x0 x1 H hv hv2 rfl rfl
        | exact dec_f6_yes x _ _ _ _ _ _ w ht x0 x1 H hv hv2 rfl rfl
        | exact dec_f7_yes x _ _ _ _ _ _ w ht x0 x1 H hv hv2 rfl rfl
    · have hv : (word (dop x) (da x) (db x) (dc x) (di x) == x) = false := by simpa using hv
      have hv2 : (word (dop x) (da x) (db x) (dc x) (di x) != x) = true := by simpa using hv
      rw [hv]
      simp only [Bool.false_eq_true, if_false]
      rcases combos (formOf (dop x)) with ⟨h1, h2, h3, h4⟩ | ⟨h1, h2, h3, h4⟩ | ⟨h1, h2, h3, h4⟩ | ⟨h1, h2, h3, h4⟩ | ⟨h1, h2, h3, h4⟩ | ⟨h1, h2, h3, h4⟩ | ⟨h1, h2, h3, h4⟩ <;> simp only [h1, h2, h3, h4] at H
      · exact dec_f1_nov x _ _ _ _ _ _ w ht x0 x1 H hv hv2 rfl rfl
      · exact dec_f2_nov x _ _ _ _ _ _ w ht x0 x1 H hv hv2 rfl rfl
      · exact dec_f3_nov x _ _ _ _ _ _ w ht x0 x1 H hv hv2 rfl rfl
      · exact dec_f4_nov x _ _ _ _ _ _ w ht x0 x1 H hv hv2 rfl rfl
      · exact dec_f5_nov x _ _ _ _ _ _ w ht x0 x1 H hv hv2 rfl rfl
      · exact dec_f6_nov x _ _ _ _ _ _ w ht x0 x1 H hv hv2 rfl rfl
      · exact dec_f7_nov x _ _ _ _ _ _ w ht x0 x1 H hv hv2 rfl rfl
  · have ho : okIns (dop x) (da x) (db x) (dc x) (di x) = false := by simpa using ho
    rw [ho] at H ⊢
    simp only [Bool.false_eq_true, if_false, Bool.false_and] at H ⊢
    rcases combos (formOf (dop x)) with ⟨h1, h2, h3, h4⟩ | ⟨h1, h2, h3, h4⟩ | ⟨h1, h2, h3, h4⟩ | ⟨h1, h2, h3, h4⟩ | ⟨h1, h2, h3, h4⟩ | ⟨h1, h2, h3, h4⟩ | ⟨h1, h2, h3, h4⟩ <;> simp only [h1, h2, h3, h4] at H
    · exact dec_f1_nor x _ _ _ _ _ _ w ht x0 x1 H rfl rfl
    · exact dec_f2_nor x _ _ _ _ _ _ w ht x0 x1 H rfl rfl
    · exact dec_f3_nor x _ _ _ _ _ _ w ht x0 x1 H rfl rfl
    · exact dec_f4_nor x _ _ _ _ _ _ w ht x0 x1 H rfl rfl
    · exact dec_f5_nor x _ _ _ _ _ _ w ht x0 x1 H rfl rfl
    · exact dec_f6_nor x _ _ _ _ _ _ w ht x0 x1 H rfl rfl
    · exact dec_f7_nor x _ _ _ _ _ _ w ht x0 x1 H rfl rfl

end Go.Proofs.YtdoighcgfbnigaaDoor.Isa
