/- Isa: an instruction that came in as an argument: five numbers; what an argument reads as behind the call. -/
import Derived.Test.YtdoighcgfbnigaaDoorIsaLaid
namespace Go.Proofs.YtdoighcgfbnigaaDoor.Isa
set_option linter.unusedVariables false
set_option linter.unusedSimpArgs false
open Go.ChangeShapes Go.WideShapes Go.ChangeAt Go.WideMaps Go.WideElems Go.RowKit Go.Joins

theorem laidOut : laidOutB Tryd.prog = true := by kernel_rfl
theorem own : ownKnob Tryd.prog.godebug = none := by kernel_rfl
theorem cells23 : Tryd.prog.cellsOf 23 = 5 := by kernel_rfl

theorem open_ins {H : Type} {enc : TypeId × Value → H} {w : World} {base : Nat} {sp : Nat → Bool} {held : Bool} {r : Reach} {b0 : Nat} {v : Value} {d : DataW H} {p : List MemPlace}
    (hv : Value.okWide Tryd.prog w r b0 23 v) (h : DataW.Trod enc Tryd.prog w base sp held 23 v d p) :
    ∃ o a b c i : Int, v = .agg #[.int .i64 o, .int .i64 a, .int .i64 b, .int .i64 c, .int .i64 i] ∧ (Lit.int .i64 o).wf = true ∧ (Lit.int .i64 a).wf = true ∧ (Lit.int .i64 b).wf = true ∧ (Lit.int .i64 c).wf = true ∧ (Lit.int .i64 i).wf = true := by
  obtain ⟨cs, rfl, hsz⟩ := okWide_struct Tryd.underlying23 hv
  obtain ⟨l⟩ := cs
  obtain ⟨fuel, hf⟩ := h
  obtain ⟨xs, n, _, _, _, hlen, hg⟩ := DataW.trod_struct Tryd.underlying23 hf
  have c3 : Tryd.prog.cellsOf 3 = 1 := by kernel_rfl
  match l, hsz.trans cells23 with
  | [v0, v1, v2, v3, v4], _ =>
    match xs, hlen with
    | [y0, y1, y2, y3, y4], _ =>
      obtain ⟨o, e0, _, w0⟩ := DataW.trod_int Tryd.underlying3 (hg 0 _ rfl)
      obtain ⟨a, e1, _, w1⟩ := DataW.trod_int Tryd.underlying3 (hg 1 _ rfl)
      obtain ⟨b, e2, _, w2⟩ := DataW.trod_int Tryd.underlying3 (hg 2 _ rfl)
      obtain ⟨c, e3, _, w3⟩ := DataW.trod_int Tryd.underlying3 (hg 3 _ rfl)
      obtain ⟨i, e4, _, w4⟩ := DataW.trod_int Tryd.underlying3 (hg 4 _ rfl)
      simp [Value.cells, c3] at e0 e1 e2 e3 e4
      subst e0 e1 e2 e3 e4
      exact ⟨o, a, b, c, i, rfl, w0, w1, w2, w3, w4⟩

theorem i64_bounds {a : Int} (h : (Lit.int .i64 a).wf = true) : -9223372036854775808 ≤ a ∧ a < 9223372036854775808 := by
  simp [Lit.wf, IntKind.min, IntKind.max, IntKind.signed, IntKind.bits] at h
  omega
theorem u32_bounds {a : Int} (h : (Lit.int .u32 a).wf = true) : 0 ≤ a ∧ a < 4294967296 := by
  simp [Lit.wf, IntKind.min, IntKind.max, IntKind.signed, IntKind.bits] at h
  omega
end Go.Proofs.YtdoighcgfbnigaaDoor.Isa
