/- The plain law of AluTakes: for every operation and every two words. -/
import Derived.Test.YtjegoojkjcjpnaaPAluTakesx1
import Derived.Test.YtjegoojkjcjpnaaAluPlain
namespace Go.Proofs.Ytjegoojkjcjpnaa.Pure
open Go.RowKit Go.Proofs.Ytjegoojkjcjpnaa.PAluTakes Go.Proofs.YtjegoojkjcjpnaaW.PrintWords Go.Proofs.YtjegoojkjcjpnaaW.PrintLast

theorem signed (x : Int) (x0 : 0 ≤ x) (x1 : x < 4294967296) : bulkheadref03_Signed.f x = some (wrap32 x) := by
  have w : wrap64 x = x := by unfold wrap64; omega
  unfold bulkheadref03_Signed.f
  rw [w]
  split
  · congr 1; unfold wrap32 wrap64; omega
  · congr 1; unfold wrap32; omega

theorem AluTakes (op x y : Int) (hx : (Lit.int .u32 x).wf = true) (hy : (Lit.int .u32 y).wf = true) : bulkheadlaw03_AluTakes.f 1 op x y = some true := by
  obtain ⟨x0, x1⟩ := Plain.u32_bounds hx
  obtain ⟨y0, y1⟩ := Plain.u32_bounds hy
  have sx := signed x x0 x1
  have sy := signed y y0 y1
  by_cases h1 : op = 21
  · subst h1; simp [bulkheadlaw03_AluTakes.f, alu_Takes.f, bulkheadref03_Takes.f, bulkheadref03_Branches.f, alu_Branches.f]
  by_cases h2 : op = 22
  · subst h2; cases h : (x == y) <;> simp [bulkheadlaw03_AluTakes.f, alu_Takes.f, bulkheadref03_Takes.f, bulkheadref03_Branches.f, alu_Branches.f, h, bne]
  by_cases h3 : op = 23
  · subst h3; simp [bulkheadlaw03_AluTakes.f, alu_Takes.f, bulkheadref03_Takes.f, bulkheadref03_Branches.f, alu_Branches.f, bulkheadref03_below.f, bulkheadref03_below.j0, sx, sy]
  by_cases h4 : op = 24
  · subst h4; simp [bulkheadlaw03_AluTakes.f, alu_Takes.f, bulkheadref03_Takes.f, bulkheadref03_Branches.f, alu_Branches.f, bulkheadref03_below.f, bulkheadref03_below.j0, sx, sy]
  by_cases h5 : op = 25
  · subst h5; simp [bulkheadlaw03_AluTakes.f, alu_Takes.f, bulkheadref03_Takes.f, bulkheadref03_Branches.f, alu_Branches.f, bulkheadref03_below.f, bulkheadref03_below.j0]
  have hb : bulkheadref03_Branches.f op = some false := by
    unfold bulkheadref03_Branches.f; split
    · congr 1; simp; omega
    · rfl
  have hb' : alu_Branches.f op = some false := by
    unfold alu_Branches.f; split
    · congr 1; simp; omega
    · rfl
  simp [bulkheadlaw03_AluTakes.f, alu_Takes.f, bulkheadref03_Takes.f, hb, hb', h1, h2, h3, h4, h5]

end Go.Proofs.Ytjegoojkjcjpnaa.Pure
