/- The plain law of AluDivides: quotient times divisor and rest make the number again, and the rest is small and of its sign; for every two words. -/
import Derived.Test.YtjegoojkjcjpnaaPAluDividesx1
import Derived.Test.YtjegoojkjcjpnaaAluPlain
namespace Go.Proofs.Ytjegoojkjcjpnaa.Pure
open Go.RowKit Go.Proofs.Ytjegoojkjcjpnaa.PAluDivides Go.Proofs.YtjegoojkjcjpnaaW.PrintWords Go.Proofs.YtjegoojkjcjpnaaW.PrintLast

/-- What is left of a signed division: small, and of the number's sign. -/
theorem rest_small (s d : Int) (hd : d ≠ 0) :
    (s < 0 → Int.tmod s d ≤ 0 ∧ (0 < d → -Int.tmod s d < d) ∧ (d < 0 → -Int.tmod s d < -d)) ∧ (0 ≤ s → 0 ≤ Int.tmod s d ∧ (0 < d → Int.tmod s d < d) ∧ (d < 0 → Int.tmod s d < -d)) := by
  have key : ∀ t : Int, 0 ≤ t → 0 ≤ Int.tmod t d ∧ (0 < d → Int.tmod t d < d) ∧ (d < 0 → Int.tmod t d < -d) := by
    intro t ht
    rw [Int.tmod_eq_emod_of_nonneg ht]
    refine ⟨Int.emod_nonneg _ hd, fun h => Int.emod_lt_of_pos _ h, fun h => ?_⟩
    rw [← Int.emod_neg]; exact Int.emod_lt_of_pos _ (by omega)
  constructor
  · intro h
    have k := key (-s) (by omega)
    rw [Int.neg_tmod] at k
    omega
  · exact key s

theorem quot_small (s d : Int) (hs0 : -2147483648 ≤ s) (hs1 : s < 2147483648) : -2147483648 ≤ Int.tdiv s d ∧ Int.tdiv s d ≤ 2147483648 := by
  have h := Int.natAbs_tdiv_le_natAbs s d
  omega

theorem again (x y s d q : Int) (c : Int) (hy : y = d + 4294967296 * c) (hx : x % 4294967296 = x) (r : Int) (e : Int) (hxs : s = x + 4294967296 * e) (hq : d * q + r = s) :
    ((q % 4294967296 * y) % 4294967296 + r % 4294967296) % 4294967296 = x := by
  rw [Int.mul_emod (q % 4294967296) y, Int.emod_emod_of_dvd _ (Int.dvd_refl _), ← Int.mul_emod, ← Int.add_emod]
  have h1 : q * y + r = x + 4294967296 * (e + q * c) := by
    rw [hy, Int.mul_add, Int.mul_comm q d, Int.mul_left_comm q 4294967296 c, Int.mul_add]
    omega
  rw [h1, Int.add_mul_emod_self_left, hx]

theorem AluDivides : bulkheadlaw03_AluDivides.Pure := by
  intro x y hx hy
  obtain ⟨x0, x1⟩ := Plain.u32_bounds hx
  obtain ⟨y0, y1⟩ := Plain.u32_bounds hy
  refine ⟨1, ?_⟩
  by_cases hz : y = 0
  · subst hz
    simp [bulkheadlaw03_AluDivides.f, alu_Do.f, alu_Do.j0]
  · obtain ⟨s, hs⟩ : ∃ s, s = wrap32 x := ⟨_, rfl⟩
    obtain ⟨d, hd⟩ : ∃ d, d = wrap32 y := ⟨_, rfl⟩
    have s0 : -2147483648 ≤ s := by rw [hs]; unfold wrap32; omega
    have s1 : s < 2147483648 := by rw [hs]; unfold wrap32; omega
    have d0 : -2147483648 ≤ d := by rw [hd]; unfold wrap32; omega
    have d1 : d < 2147483648 := by rw [hd]; unfold wrap32; omega
    have dz : d ≠ 0 := by rw [hd]; unfold wrap32; omega
    obtain ⟨c, hc⟩ : ∃ c, y = d + 4294967296 * c := ⟨if y < 2147483648 then 0 else 1, by rw [hd]; unfold wrap32; split <;> omega⟩
    obtain ⟨e, he⟩ : ∃ e, s = x + 4294967296 * e := ⟨if x < 2147483648 then 0 else -1, by rw [hs]; unfold wrap32; split <;> omega⟩
    obtain ⟨r1, r2⟩ := rest_small s d dz
    obtain ⟨q0, q1⟩ := quot_small s d s0 s1
    have hqr := Int.mul_tdiv_add_tmod s d
    have ag := again x y s d (Int.tdiv s d) c hc (by omega) (Int.tmod s d) e he hqr
    have ws : wrap64 s = s := by unfold wrap64; omega
    have wd : wrap64 d = d := by unfold wrap64; omega
    have wq : wrap64 (Int.tdiv s d) = Int.tdiv s d := by unfold wrap64; omega
    generalize hq' : Int.tdiv s d = q at *
    generalize hr' : Int.tmod s d = r at *
    have wr : wrap32 (r % 4294967296) = r := by unfold wrap32; omega
    have wr' : wrap64 r = r := by unfold wrap64; omega
    have wnr : wrap64 (-r) = -r := by unfold wrap64; omega
    have wnd : wrap64 (-d) = -d := by unfold wrap64; omega
    have D8 : alu_Do.f 1 8 x y = some (q % 4294967296, 0) := by
      simp [alu_Do.f, alu_Do.j0, alu_divided.f, ← hs, ← hd, ws, wd, dz, hz, hq', wq]
    have D9 : alu_Do.f 1 9 x y = some (r % 4294967296, 0) := by
      simp [alu_Do.f, alu_Do.j0, alu_divided.f, ← hs, ← hd, ws, wd, dz, hz, hr']
    have D7 : alu_Do.f 1 7 (q % 4294967296) y = some (q % 4294967296 * y % 4294967296, 0) := by
      simp [alu_Do.f, alu_Do.j0, alu_plain.f]
    have D5 : alu_Do.f 1 5 (q % 4294967296 * y % 4294967296) (r % 4294967296) = some (x, 0) := by
      rw [← ag]; simp [alu_Do.f, alu_Do.j0, alu_plain.f]
    have J : bulkheadlaw03_AluDivides.j0 1 x y (r % 4294967296) false = some true := by
      rw [bulkheadlaw03_AluDivides.j0, if_neg (by decide)]
      simp only [← hs, ← hd, ws, wd, wr, wr', wnr, wnd]
      by_cases hd0 : d < 0
      · rw [if_pos hd0]
        by_cases hs0 : s < 0
        · rw [if_pos hs0, if_pos (by omega)]; simp; omega
        · rw [if_neg hs0, if_pos (by omega)]; simp; omega
      · rw [if_neg hd0]
        by_cases hs0 : s < 0
        · rw [if_pos hs0, if_pos (by omega)]; simp; omega
        · rw [if_neg hs0, if_pos (by omega)]; simp; omega
    simp only [bulkheadlaw03_AluDivides.f, D8, D9, D7, D5, Option.bind_some, if_neg hz, if_true, bne_self_eq_false]
    exact J

end Go.Proofs.Ytjegoojkjcjpnaa.Pure
