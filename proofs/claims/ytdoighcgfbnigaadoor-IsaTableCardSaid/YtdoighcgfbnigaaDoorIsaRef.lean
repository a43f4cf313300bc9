/- Isa: the reference's functions are the plain ones. -/
import Derived.Test.YtdoighcgfbnigaaDoorPDecodex3
import Derived.Test.YtdoighcgfbnigaaDoorIsaDecAny
import Derived.Test.YtdoighcgfbnigaaDoorIsaFind
import Derived.Test.YtdoighcgfbnigaaDoorPFindx1
import Derived.Test.YtdoighcgfbnigaaDoorPNamex1
import Derived.Test.YtdoighcgfbnigaaDoorPCostx1
namespace Go.Proofs.YtdoighcgfbnigaaDoor.Isa
set_option linter.unusedVariables false
set_option linter.unusedSimpArgs false
open Go.RowKit Go.Proofs.YtdoighcgfbnigaaDoor.PDecode Go.Proofs.YtdoighcgfbnigaaDoorW.PrintWords Go.Proofs.YtdoighcgfbnigaaDoorW.PrintLast Go.Proofs.YtdoighcgfbnigaaDoorW.PrintMore

theorem ref_table : ∃ t, bulkheadref02_table.f = some t ∧ t.length = 30 ∧ ∀ k, k < 30 → (rd_T54 t (k : Nat)).f1 = forms.getD (k + 1) 0 := by
  refine ⟨_, rfl, rfl, ?_⟩
  decide +kernel

theorem form_ref (op : Int) (h0 : -9223372036854775808 ≤ op) (h1 : op < 9223372036854775808) : bulkheadref02_Form.f op = some (formOf op) := by
  obtain ⟨t, ht, hl, hk⟩ := ref_table
  unfold bulkheadref02_Form.f bulkheadref02_of.f
  rw [ht]
  simp only [Option.bind_some]
  by_cases c1 : op < 1
  · rw [if_pos c1]
    simp only [Option.bind_some]
    unfold formOf
    by_cases c2 : 0 ≤ op
    · obtain rfl : op = 0 := by omega
      rfl
    · rw [if_neg (by omega)]
  · rw [if_neg c1, hl]
    by_cases c2 : op > 30
    · rw [if_pos (by omega)]
      simp only [Option.bind_some]
      unfold formOf
      rw [if_neg (by omega)]
    · obtain ⟨k, rfl⟩ : ∃ k : Nat, op = (k : Int) + 1 := ⟨(op - 1).toNat, by omega⟩
      have w : wrap64 ((k : Int) + 1 - 1) = k := by unfold wrap64; omega
      rw [if_neg (by omega), w, if_pos (by omega), if_pos (by omega)]
      simp only [Option.bind_some]
      rw [hk k (by omega)]
      unfold formOf
      rw [if_pos (by omega)]
      congr 2

theorem has_ref (f : Int) (h0 : 0 ≤ f) (h7 : f ≤ 7) : bulkheadref02_Has.f f = some (hasA f, hasB f, hasC f, hasI f) := by
  have hc : f = 0 ∨ f = 1 ∨ f = 2 ∨ f = 3 ∨ f = 4 ∨ f = 5 ∨ f = 6 ∨ f = 7 := by omega
  rcases hc with rfl | rfl | rfl | rfl | rfl | rfl | rfl | rfl <;> rfl

theorem right_ref (b : Bool) (n : Int) : bulkheadref02_right.f b n = some (fits b n 0 15) := by
  unfold bulkheadref02_right.f fits
  cases b
  · simp; congr 1
  · simp only [if_true]
    split
    · congr 1; simp; omega
    · congr 1; simp; omega

theorem encode_ref (op a b c i : Int) (o0 : -9223372036854775808 ≤ op) (o1 : op < 9223372036854775808) :
    bulkheadref02_Encode.f 3 op a b c i = some (if okIns op a b c i then (word op a b c i, 0) else (0, 21)) := by
  obtain ⟨f0, f7⟩ := formOf_bound op
  have hp := formOf_pos op
  unfold bulkheadref02_Encode.f
  rw [form_ref op o0 o1]
  simp only [Option.bind_some]
  rw [has_ref _ f0 f7]
  simp only [Option.bind_some, right_ref]
  unfold okIns
  generalize formOf op = f at *
  have j0true : ∀ x7, bulkheadref02_Encode.j0 3 x7 true op a b c i = some (0, 21) := fun x7 => by rw [bulkheadref02_Encode.j0, if_pos rfl]
  by_cases hf : f = 0
  · rw [if_pos hf, j0true]; simp [hf]
  · obtain ⟨p1, p30⟩ := hp hf
    rw [if_neg hf]
    simp only [j0true]
    by_cases ha : fits (hasA f) a 0 15 = true
    · rw [if_pos ha]
      by_cases hb : fits (hasB f) b 0 15 = true
      · rw [if_pos hb]
        by_cases hc : fits (hasC f) c 0 15 = true
        · have a0 : 0 ≤ a ∧ a ≤ 15 := by revert ha; unfold fits; cases hasA f <;> simp <;> omega
          have b0 : 0 ≤ b ∧ b ≤ 15 := by revert hb; unfold fits; cases hasB f <;> simp <;> omega
          have c0 : 0 ≤ c ∧ c ≤ 15 := by revert hc; unfold fits; cases hasC f <;> simp <;> omega
          have hw : ∀ x : Int, -1000000000000 ≤ x → x ≤ 1000000000000 → wrap64 x = x := fun x h1 h2 => by unfold wrap64; omega
          rw [hc, Bool.not_true, bulkheadref02_Encode.j0, if_neg (by decide)]
          have big : -131072 ≤ i → ∀ k, bulkheadref02_Encode.j1 (k + 1) (decide (i > 131071)) op a b c i = some (if i ≤ 131071 then (word op a b c i, 0) else (0, 21)) := by
            intro hi k
            by_cases h2 : i ≤ 131071
            · rw [if_pos h2, bulkheadref02_Encode.j1, if_neg (by simp; omega)]
              rw [hw (op * 67108864) (by omega) (by omega), hw (a * 4194304) (by omega) (by omega), hw (b * 262144) (by omega) (by omega), hw (c * 16384) (by omega) (by omega), hw (op * 67108864 + a * 4194304) (by omega) (by omega), hw (op * 67108864 + a * 4194304 + b * 262144) (by omega) (by omega), hw (op * 67108864 + a * 4194304 + b * 262144 + c * 16384) (by omega) (by omega), hw (i + 262144) (by omega) (by omega)]
              unfold word
              split
              · rw [hw _ (by omega) (by omega)]; congr 2; omega
              · rw [hw _ (by omega) (by omega)]; congr 2; omega
            · rw [if_neg h2, bulkheadref02_Encode.j1, if_pos (by simp; omega)]
          have small : ∀ k, bulkheadref02_Encode.j1 (k + 1) true op a b c i = some (0, 21) := fun k => by rw [bulkheadref02_Encode.j1, if_pos rfl]
          rw [small, ha, hb]
          have hf' : decide (f ≠ 0) = true := by simpa using hf
          rw [hf']
          simp only [Bool.true_and]
          by_cases hi : hasI f = true
          · rw [if_pos hi, hi]
            by_cases h2 : i < -131072
            · rw [if_pos h2]; simp [fits]; omega
            · rw [if_neg h2, big (by omega)]
              by_cases h3 : i ≤ 131071
              · rw [if_pos h3, if_pos (by simp [fits]; omega)]
              · rw [if_neg h3, if_neg (by simp [fits]; omega)]
          · have hi : hasI f = false := by simpa using hi
            rw [if_neg (by simp [hi]), hi]
            by_cases h2 : i = 0
            · subst h2
              rw [if_pos rfl, if_neg (by omega), big (by omega), if_pos (by omega), if_pos (by simp [fits])]
            · rw [if_neg h2, if_neg (by simp [fits, h2])]
        · have hc' : fits (hasC f) c 0 15 = false := by simpa using hc
          rw [hc', Bool.not_false, j0true]; simp
      · rw [if_neg hb]; simp [hb]
    · rw [if_neg ha]; simp [ha]

theorem hw (x : Int) (h1 : -1000000000000 ≤ x) (h2 : x ≤ 1000000000000) : wrap64 x = x := by unfold wrap64; omega

theorem decode_ref (x : Int) (x0 : 0 ≤ x) (x1 : x < 4294967296) :
    bulkheadref02_Decode.f 6 x = some (if okWord x then (dop x, da x, db x, dc x, di x, 0) else (0, 0, 0, 0, 0, 20)) := by
  have e0 : wrap64 x = x := hw x (by omega) (by omega)
  have e1 : wrap64 (Int.tdiv x 67108864) = dop x := by rw [Int.tdiv_eq_ediv_of_nonneg x0]; exact hw _ (by omega) (by omega)
  have e2 : Int.tmod (wrap64 (Int.tdiv x 4194304)) 16 = x / 4194304 % 16 := by rw [Int.tdiv_eq_ediv_of_nonneg x0, hw _ (by omega) (by omega), Int.tmod_eq_emod_of_nonneg (by omega)]
  have e3 : Int.tmod (wrap64 (Int.tdiv x 262144)) 16 = x / 262144 % 16 := by rw [Int.tdiv_eq_ediv_of_nonneg x0, hw _ (by omega) (by omega), Int.tmod_eq_emod_of_nonneg (by omega)]
  have e4 : Int.tmod (wrap64 (Int.tdiv x 16384)) 16 = x / 16384 % 16 := by rw [Int.tdiv_eq_ediv_of_nonneg x0, hw _ (by omega) (by omega), Int.tmod_eq_emod_of_nonneg (by omega)]
  have e5 : Int.tmod x 262144 = x % 262144 := Int.tmod_eq_emod_of_nonneg x0
  have e6 : wrap64 (x % 262144 - 262144) = x % 262144 - 262144 := hw _ (by omega) (by omega)
  have o0 : -9223372036854775808 ≤ dop x := by unfold dop; omega
  have o1 : dop x < 9223372036854775808 := by unfold dop; omega
  obtain ⟨f0, f7⟩ := formOf_bound (dop x)
  have fin : ∀ a b c i, (bulkheadref02_Encode.f 3 (dop x) a b c i).bind (fun bt => if bt.2 = 0 then (if bt.1 = x then some (dop x, a, b, c, i, (0 : Int)) else some (0, 0, 0, 0, 0, 20)) else some (0, 0, 0, 0, 0, 20)) = some (if okIns (dop x) a b c i && word (dop x) a b c i == x then (dop x, a, b, c, i, 0) else (0, 0, 0, 0, 0, 20)) := by
    intro a b c i
    rw [encode_ref (dop x) a b c i o0 o1]
    simp only [Option.bind_some]
    by_cases h1 : okIns (dop x) a b c i = true
    · by_cases h2 : word (dop x) a b c i = x
      · simp [h1, h2]
      · simp [h1, h2]
    · simp [h1]
  have hj2 : ∀ (pi : Bool) a b c, bulkheadref02_Decode.j2 4 x x pi (dop x) a b c 0 = some (if okIns (dop x) a b c (cond pi (imm x) 0) && word (dop x) a b c (cond pi (imm x) 0) == x then (dop x, a, b, c, cond pi (imm x) 0, 0) else (0, 0, 0, 0, 0, 20)) := by
    intro pi a b c
    rw [bulkheadref02_Decode.j2, e5, e6]
    cases pi
    · rw [if_neg (by decide)]; exact fin a b c 0
    · rw [if_pos rfl]
      by_cases hi : x % 262144 > 131071
      · have hh : imm x = x % 262144 - 262144 := by unfold imm; omega
        rw [if_pos hi, cond_true, hh]; exact fin a b c _
      · have hh : imm x = x % 262144 := by unfold imm; omega
        rw [if_neg hi, cond_true, hh]; exact fin a b c _
  have hj1 : ∀ (pc pi : Bool) a b, bulkheadref02_Decode.j1 5 x x pc pi (dop x) a b 0 0 = some (if okIns (dop x) a b (cond pc (x / 16384 % 16) 0) (cond pi (imm x) 0) && word (dop x) a b (cond pc (x / 16384 % 16) 0) (cond pi (imm x) 0) == x then (dop x, a, b, cond pc (x / 16384 % 16) 0, cond pi (imm x) 0, 0) else (0, 0, 0, 0, 0, 20)) := by
    intro pc pi a b
    rw [bulkheadref02_Decode.j1, e4]
    cases pc
    · rw [if_neg (by decide)]; exact hj2 pi a b 0
    · rw [if_pos rfl]; exact hj2 pi a b _
  have hj0 : ∀ (pb pc pi : Bool) a, bulkheadref02_Decode.j0 6 x x pb pc pi (dop x) a 0 0 0 = some (if okIns (dop x) a (cond pb (x / 262144 % 16) 0) (cond pc (x / 16384 % 16) 0) (cond pi (imm x) 0) && word (dop x) a (cond pb (x / 262144 % 16) 0) (cond pc (x / 16384 % 16) 0) (cond pi (imm x) 0) == x then (dop x, a, cond pb (x / 262144 % 16) 0, cond pc (x / 16384 % 16) 0, cond pi (imm x) 0, 0) else (0, 0, 0, 0, 0, 20)) := by
    intro pb pc pi a
    rw [bulkheadref02_Decode.j0, e3]
    cases pb
    · rw [if_neg (by decide)]; exact hj1 pc pi a 0
    · rw [if_pos rfl]; exact hj1 pc pi a _
  unfold bulkheadref02_Decode.f
  rw [e0, e1, form_ref (dop x) o0 o1]
  simp only [Option.bind_some]
  rw [has_ref _ f0 f7]
  simp only [Option.bind_some]
  rw [e2]
  unfold okWord da db dc di
  generalize hasA (formOf (dop x)) = pa
  cases pa
  · rw [if_neg (by decide)]; exact hj0 _ _ _ 0
  · rw [if_pos rfl]; exact hj0 _ _ _ _

theorem find_table : ∃ t, PFind.bulkheadref02_table.f = some t ∧ t.length = 30 ∧ ∀ k, k < 30 → (PFind.rd_T54 t (k : Nat)).f0.toList = names.getD (k + 1) [] := by
  refine ⟨_, rfl, rfl, ?_⟩
  decide +kernel

theorem find_ref (s : ByteArray) : PFind.bulkheadref02_Find.f 31 s = some (findFrom s.data.toList 30) := by
  obtain ⟨t, ht, hl, hk⟩ := find_table
  unfold PFind.bulkheadref02_Find.f
  rw [ht]
  simp only [Option.bind_some]
  have go : ∀ d, d ≤ 30 → PFind.bulkheadref02_Find.l0 (d + 1) s t (((30 - d : Nat) : Int)) = some (findFrom s.data.toList d) := by
    intro d
    induction d with
    | zero => intro _; rw [PFind.bulkheadref02_Find.l0, hl, if_neg (by omega)]; rfl
    | succ d ih =>
      intro hd
      rw [PFind.bulkheadref02_Find.l0, hl, if_pos (by omega), if_pos (by omega), hk _ (by omega), show 30 - (d + 1) + 1 = 30 - d by omega, hw _ (by omega) (by omega), show (((30 - (d + 1) : Nat) : Int) + 1) = ((30 - d : Nat) : Int) by omega, ih (by omega), findFrom, ByteArray.toList_eq]
      split <;> rfl
  have := go 30 (by omega)
  simpa using this

theorem name_table : ∃ t, PName.bulkheadref02_table.f = some t ∧ t.length = 30 ∧ ∀ k, k < 30 → (PName.rd_T54 t (k : Nat)).f0 = ⟨(names.getD (k + 1) []).toArray⟩ := by
  refine ⟨_, rfl, rfl, ?_⟩
  decide +kernel
theorem cost_table : ∃ t, PCost.bulkheadref02_table.f = some t ∧ t.length = 30 ∧ ∀ k, k < 30 → (PCost.rd_T54 t (k : Nat)).f2 = costs.getD (k + 1) 0 := by
  refine ⟨_, rfl, rfl, ?_⟩
  decide +kernel

theorem name_ref (op : Int) (h0 : -9223372036854775808 ≤ op) (h1 : op < 9223372036854775808) : PName.bulkheadref02_Name.f op = some (nameS op) := by
  obtain ⟨t, ht, hl, hk⟩ := name_table
  unfold PName.bulkheadref02_Name.f PName.bulkheadref02_of.f
  rw [ht]
  simp only [Option.bind_some]
  unfold nameS nameOf
  by_cases c1 : op < 1
  · rw [if_pos c1]
    simp only [Option.bind_some]
    by_cases c2 : 0 ≤ op
    · obtain rfl : op = 0 := by omega
      rfl
    · rw [if_neg (by omega)]
  · rw [if_neg c1, hl]
    by_cases c2 : op > 30
    · rw [if_pos (by omega)]
      simp only [Option.bind_some]
      rw [if_neg (by omega)]
    · obtain ⟨k, rfl⟩ : ∃ k : Nat, op = (k : Int) + 1 := ⟨(op - 1).toNat, by omega⟩
      have w : wrap64 ((k : Int) + 1 - 1) = k := by unfold wrap64; omega
      rw [if_neg (by omega), w, if_pos (by omega), if_pos (by omega)]
      simp only [Option.bind_some]
      rw [hk k (by omega), if_pos (by omega)]
      rfl

theorem cost_ref (op : Int) (h0 : -9223372036854775808 ≤ op) (h1 : op < 9223372036854775808) : PCost.bulkheadref02_Cost.f op = some (costOf op) := by
  obtain ⟨t, ht, hl, hk⟩ := cost_table
  unfold PCost.bulkheadref02_Cost.f PCost.bulkheadref02_of.f
  rw [ht]
  simp only [Option.bind_some]
  unfold costOf
  by_cases c1 : op < 1
  · rw [if_pos c1]
    simp only [Option.bind_some]
    by_cases c2 : 0 ≤ op
    · obtain rfl : op = 0 := by omega
      rfl
    · rw [if_neg (by omega)]
  · rw [if_neg c1, hl]
    by_cases c2 : op > 30
    · rw [if_pos (by omega)]
      simp only [Option.bind_some]
      rw [if_neg (by omega)]
    · obtain ⟨k, rfl⟩ : ∃ k : Nat, op = (k : Int) + 1 := ⟨(op - 1).toNat, by omega⟩
      have w : wrap64 ((k : Int) + 1 - 1) = k := by unfold wrap64; omega
      rw [if_neg (by omega), w, if_pos (by omega), if_pos (by omega)]
      simp only [Option.bind_some]
      rw [hk k (by omega), if_pos (by omega)]
      congr 2

end Go.Proofs.YtdoighcgfbnigaaDoor.Isa
