/- The plain law of AluOrders: the comparisons are orders, and the branches go by them; for every two words. -/
import Derived.Test.YtjegoojkjcjpnaaPAluOrdersx2
import Derived.Test.YtjegoojkjcjpnaaAluPlain
namespace Go.Proofs.Ytjegoojkjcjpnaa.Pure
open Go.RowKit Go.Proofs.Ytjegoojkjcjpnaa.PAluOrders Go.Proofs.YtjegoojkjcjpnaaW.PrintWords Go.Proofs.YtjegoojkjcjpnaaW.PrintLast

def o (b : Bool) : Int := if b = true then 1 else 0

theorem done16 (x y : Int) : bulkheadlaw03_done.f 2 16 x y = some (o (decide (wrap32 x < wrap32 y)), true) := by
  by_cases h : wrap32 x < wrap32 y <;> simp [bulkheadlaw03_done.f, alu_Do.f, alu_Do.j0, alu_plain.f, alu_one.f, o, h]

theorem done17 (x y : Int) : bulkheadlaw03_done.f 2 17 x y = some (o (decide (x < y)), true) := by
  by_cases h : x < y <;> simp [bulkheadlaw03_done.f, alu_Do.f, alu_Do.j0, alu_plain.f, alu_one.f, o, h]

theorem top_xor (x y : Int) (x0 : 0 ≤ x) (x1 : x < 4294967296) (y0 : 0 ≤ y) (y1 : y < 4294967296) :
    Go.bits .xor .u32 x y / 2147483648 = if (x < 2147483648) = (y < 2147483648) then 0 else 1 := by
  rw [u32_xor x y x0 x1 y0 y1]
  have h := Nat.xor_div_two_pow (a := x.toNat) (b := y.toNat) (n := 31)
  have hx : x.toNat / 2 ^ 31 = if x < 2147483648 then 0 else 1 := by split <;> omega
  have hy : y.toNat / 2 ^ 31 = if y < 2147483648 then 0 else 1 := by split <;> omega
  rw [hx, hy] at h
  by_cases a : x < 2147483648 <;> by_cases b : y < 2147483648 <;> simp [a, b] at h ⊢ <;> omega

theorem branched (x y : Int) (u : Int) (hu : u = if x = y then 0 else 1) : bulkheadlaw03_branched.f x y (o (decide (wrap32 x < wrap32 y))) (o (decide (x < y))) u = some true := by
  subst hu
  by_cases h : wrap32 x < wrap32 y <;> by_cases g : x < y <;> by_cases e : x = y <;>
    simp [bulkheadlaw03_branched.f, alu_Takes.f, o, h, g, e]

theorem AluOrders : bulkheadlaw03_AluOrders.Pure := by
  intro x y hx hy
  obtain ⟨x0, x1⟩ := Plain.u32_bounds hx
  obtain ⟨y0, y1⟩ := Plain.u32_bounds hy
  refine ⟨2, ?_⟩
  have B := branched x y _ rfl
  have T := top_xor x y x0 x1 y0 y1
  have wx : wrap32 x = if x < 2147483648 then x else x - 4294967296 := by unfold wrap32; split <;> omega
  have wy : wrap32 y = if y < 2147483648 then y else y - 4294967296 := by unfold wrap32; split <;> omega
  simp only [bulkheadlaw03_AluOrders.f, done16, done17, Option.bind_some, if_true, Bool.not_true]
  rw [bulkheadlaw03_AluOrders.j0, if_neg (by decide), T]
  by_cases e : x = y
  · subst e
    simp [o] at B ⊢
    simp [B]
  · rw [if_neg e] at B ⊢
    have p1 : decide (y < x) = !decide (x < y) := by by_cases h : x < y <;> simp [h] <;> omega
    have p2 : decide (wrap32 y < wrap32 x) = !decide (wrap32 x < wrap32 y) := by
      have : wrap32 x ≠ wrap32 y := by unfold wrap32; omega
      by_cases h : wrap32 x < wrap32 y <;> simp [h] <;> omega
    have p3 : decide (wrap32 x < wrap32 y) = if (x < 2147483648) = (y < 2147483648) then decide (x < y) else !decide (x < y) := by
      rw [wx, wy]
      by_cases a : x < 2147483648 <;> by_cases b : y < 2147483648 <;> by_cases h : x < y <;> simp [a, b, h] <;> omega
    rw [p1, p2]
    generalize decide (wrap32 x < wrap32 y) = q at *
    generalize decide (x < y) = p at *
    by_cases c : (x < 2147483648) = (y < 2147483648)
    · rw [if_pos c] at p3 ⊢
      rw [p3] at B ⊢
      cases p <;> simp [o] at B ⊢ <;> simp [B]
    · rw [if_neg c] at p3 ⊢
      rw [p3] at B ⊢
      cases p <;> simp [o] at B ⊢ <;> simp [B]

end Go.Proofs.Ytjegoojkjcjpnaa.Pure
