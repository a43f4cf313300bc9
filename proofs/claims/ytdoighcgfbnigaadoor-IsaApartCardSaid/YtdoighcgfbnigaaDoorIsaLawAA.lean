/- Isa: the law IsaApart, its walk: no two instructions have one word, no two operations one name. -/
import Derived.Test.YtdoighcgfbnigaaDoorIsaLawA
namespace Go.Proofs.YtdoighcgfbnigaaDoor.Isa
set_option linter.unusedVariables false
set_option linter.unusedSimpArgs false
open Go.RowKit

theorem names_fin : ∀ k l : Fin 31, k.1 ≠ 0 → l.1 ≠ 0 → names.getD k.1 [] = names.getD l.1 [] → k.1 = l.1 := by decide +kernel
theorem names_apart (k : Nat) (hk : k < 31) (l : Nat) (hl : l < 31) (h1 : k ≠ 0) (h2 : l ≠ 0) (h : names.getD k [] = names.getD l []) : k = l := names_fin ⟨k, hk⟩ ⟨l, hl⟩ h1 h2 h

theorem name_apart (op op2 : Int) (h1 : formOf op ≠ 0) (h2 : formOf op2 ≠ 0) (h : op ≠ op2) : ((nameS op).toList == (nameS op2).toList) = false := by
  obtain ⟨a0, a1⟩ := formOf_pos op h1
  obtain ⟨b0, b1⟩ := formOf_pos op2 h2
  have e : ∀ p : Int, 1 ≤ p → p ≤ 30 → (nameS p).toList = names.getD p.toNat [] := by
    intro p p0 p1
    unfold nameS nameOf
    rw [if_pos (by omega), ByteArray.toList_eq]
  rw [e op a0 a1, e op2 b0 b1]
  rw [beq_eq_false_iff_ne]
  intro hh
  have := names_apart op.toNat (by omega) op2.toNat (by omega) (by omega) (by omega) hh
  omega

theorem word_apart (op a b c i op2 a2 b2 c2 i2 : Int) (h1 : okIns op a b c i = true) (h2 : okIns op2 a2 b2 c2 i2 = true) (h : word op a b c i = word op2 a2 b2 c2 i2) : op = op2 ∧ a = a2 ∧ b = b2 ∧ c = c2 ∧ i = i2 := by
  obtain ⟨e1, e2, e3, e4, e5, _, _⟩ := word_back op a b c i h1
  obtain ⟨g1, g2, g3, g4, g5, _, _⟩ := word_back op2 a2 b2 c2 i2 h2
  rw [h] at e1 e2 e3 e4 e5
  exact ⟨e1.symm.trans g1, e2.symm.trans g2, e3.symm.trans g3, e4.symm.trans g4, e5.symm.trans g5⟩

theorem nz1 {f : Int} (h : f ≠ 0) : (f == 0) = false := by simpa using h
theorem nz2 {f : Int} (h : f ≠ 0) : (f != 0) = true := by simpa using h

theorem apart_any (op a b c i op2 a2 b2 c2 i2 : Int) (w : World) (ht : Tab w) :
    Calls Tryd.prog 7 #[.agg #[.int .i64 op, .int .i64 a, .int .i64 b, .int .i64 c, .int .i64 i], .agg #[.int .i64 op2, .int .i64 a2, .int .i64 b2, .int .i64 c2, .int .i64 i2]] w fun e w' => e = .returned (.bool true) ∧ Below w.heap.size w w' := by
  have F1 : ∀ w, Tab w → _ := fun w ht => form_any op w ht
  have F2 : ∀ w, Tab w → _ := fun w ht => form_any op2 w ht
  have N1 : ∀ w, Tab w → _ := fun w ht => name_any op w ht
  have N2 : ∀ w, Tab w → _ := fun w ht => name_any op2 w ht
  by_cases h1 : okIns op a b c i = true
  · have g1 := enc_good op a b c i h1
    have f1 := (okIns_iff op a b c i h1).1
    by_cases h2 : okIns op2 a2 b2 c2 i2 = true
    · have g2 := enc_good op2 a2 b2 c2 i2 h2
      have f2 := (okIns_iff op2 a2 b2 c2 i2 h2).1
      by_cases hs : op = op2 ∧ a = a2 ∧ b = b2 ∧ c = c2 ∧ i = i2
      · obtain ⟨rfl, rfl, rfl, rfl, rfl⟩ := hs
        exact ap_same_opsame (word op a b c i) 0 op a b c i 0 0 0 0 0 (formOf op) 0 (nameS op) ⟨#[]⟩ w ht g1 F1 N1 (nz1 f1) (nz2 f1)
      · have hw : (word op a b c i == word op2 a2 b2 c2 i2) = false := by
          rw [beq_eq_false_iff_ne]; exact fun h => hs (word_apart _ _ _ _ _ _ _ _ _ _ h1 h2 h)
        by_cases ho : op = op2
        · subst ho
          by_cases ha : a = a2
          · subst ha
            by_cases hb : b = b2
            · subst hb
              by_cases hc : c = c2
              · subst hc
                have hi : ¬ i = i2 := fun h => hs ⟨rfl, rfl, rfl, rfl, h⟩
                exact ap_diff4_opsame _ _ op a b c i 0 0 0 0 i2 (formOf op) 0 (nameS op) ⟨#[]⟩ w ht g1 g2 F1 N1 (nz1 f1) (nz2 f1) hw (by simpa using hi)
              · exact ap_diff3_opsame _ _ op a b c i 0 0 0 c2 i2 (formOf op) 0 (nameS op) ⟨#[]⟩ w ht g1 g2 F1 N1 (nz1 f1) (nz2 f1) hw (by simpa using hc)
            · exact ap_diff2_opsame _ _ op a b c i 0 0 b2 c2 i2 (formOf op) 0 (nameS op) ⟨#[]⟩ w ht g1 g2 F1 N1 (nz1 f1) (nz2 f1) hw (by simpa using hb)
          · exact ap_diff1_opsame _ _ op a b c i 0 a2 b2 c2 i2 (formOf op) 0 (nameS op) ⟨#[]⟩ w ht g1 g2 F1 N1 (nz1 f1) (nz2 f1) hw (by simpa using ha)
        · have hij : (op == op2 && (a == a2 && (b == b2 && (c == c2 && i == i2)))) = false := by simp [ho]
          exact ap_diff_opdiff _ _ op a b c i op2 a2 b2 c2 i2 _ _ _ _ w ht g1 g2 F1 F2 N1 N2 (nz1 f1) (nz2 f1) (nz1 f2) (nz2 f2) (by simpa using ho) (name_apart op op2 f1 f2 ho) hw hij
    · have g2 := enc_bad op2 a2 b2 c2 i2 h2
      by_cases f2 : formOf op2 = 0
      · rw [f2] at F2
        exact ap_tf_g0 _ 0 op a b c i op2 a2 b2 c2 i2 _ 0 ⟨#[]⟩ ⟨#[]⟩ w ht g1 g2 F1 F2 (nz1 f1) (nz2 f1)
      · by_cases ho : op = op2
        · subst ho
          exact ap_tf_opsame _ 0 op a b c i 0 a2 b2 c2 i2 _ 0 _ ⟨#[]⟩ w ht g1 g2 F1 N1 (nz1 f1) (nz2 f1)
        · exact ap_tf_opdiff _ 0 op a b c i op2 a2 b2 c2 i2 _ _ _ _ w ht g1 g2 F1 F2 N1 N2 (nz1 f1) (nz2 f1) (nz1 f2) (nz2 f2) (by simpa using ho) (name_apart op op2 f1 f2 ho)
  · have g1 := enc_bad op a b c i h1
    by_cases h2 : okIns op2 a2 b2 c2 i2 = true
    · have g2 := enc_good op2 a2 b2 c2 i2 h2
      have f2 := (okIns_iff op2 a2 b2 c2 i2 h2).1
      by_cases f1 : formOf op = 0
      · rw [f1] at F1
        exact ap_ft_f0 0 _ op a b c i op2 a2 b2 c2 i2 0 0 ⟨#[]⟩ ⟨#[]⟩ w ht g1 g2 F1
      · by_cases ho : op = op2
        · subst ho
          exact ap_ft_opsame 0 _ op a b c i 0 a2 b2 c2 i2 _ 0 _ ⟨#[]⟩ w ht g1 g2 F1 N1 (nz1 f1) (nz2 f1)
        · exact ap_ft_opdiff 0 _ op a b c i op2 a2 b2 c2 i2 _ _ _ _ w ht g1 g2 F1 F2 N1 N2 (nz1 f1) (nz2 f1) (nz1 f2) (nz2 f2) (by simpa using ho) (name_apart op op2 f1 f2 ho)
    · have g2 := enc_bad op2 a2 b2 c2 i2 h2
      by_cases f1 : formOf op = 0
      · rw [f1] at F1
        exact ap_ff_f0 0 0 op a b c i op2 a2 b2 c2 i2 0 0 ⟨#[]⟩ ⟨#[]⟩ w ht g1 g2 F1
      · by_cases f2 : formOf op2 = 0
        · rw [f2] at F2
          exact ap_ff_g0 0 0 op a b c i op2 a2 b2 c2 i2 _ 0 ⟨#[]⟩ ⟨#[]⟩ w ht g1 g2 F1 F2 (nz1 f1) (nz2 f1)
        · by_cases ho : op = op2
          · subst ho
            exact ap_ff_opsame 0 0 op a b c i 0 a2 b2 c2 i2 _ 0 _ ⟨#[]⟩ w ht g1 g2 F1 N1 (nz1 f1) (nz2 f1)
          · exact ap_ff_opdiff 0 0 op a b c i op2 a2 b2 c2 i2 _ _ _ _ w ht g1 g2 F1 F2 N1 N2 (nz1 f1) (nz2 f1) (nz1 f2) (nz2 f2) (by simpa using ho) (name_apart op op2 f1 f2 ho)
end Go.Proofs.YtdoighcgfbnigaaDoor.Isa
