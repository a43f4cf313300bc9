/- Isa: the listed table, as the walks ask for it; the door's own heap meets the condition. -/
import Derived.Test.YtdoighcgfbnigaaDoorRows
import Derived.Test.YtdoighcgfbnigaaDoorIsaTab
import Derived.ProofKit
import Derived.LaidMore
import Derived.OpenShut
import Derived.Stop.Joined
import Derived.Lib.SmallJoins
import Derived.Deep.Strs
namespace Go.Proofs.YtdoighcgfbnigaaDoor.Isa
set_option linter.unusedVariables false
set_option linter.unusedSimpArgs false
open Go.ChangeShapes Go.WideShapes Go.ChangeAt Go.WideMaps Go.WideElems Go.RowKit

abbrev laid1 : List (String × DataW Unit) := [("bulkhead/isa.rows", Rows.laid_bulkhead_isa_rows)]
theorem gRows : Tryd.prog.globalNamed "bulkhead/isa.rows" = some 0 := by kernel_rfl
theorem tRows : (Tryd.prog.globals[0]?).map (·.type) = some 50 := by kernel_rfl
theorem cells48 : Tryd.prog.cellsOf 48 = 3 := by kernel_rfl

/-- The door's own heap meets the condition: three closed facts. -/
theorem door_met (os : Os) (args : Array Value) : laidMetH Tryd.prog laid1 ((World.doorLaid Tryd.prog 400 os).forCall (fun _ _ => 0) ⟨#[], args, []⟩).memory :=
  laidMetH_of_parts3 (fuel := 8) (laidMet_of_run' 8 (by kernel_rfl) (by kernel_rfl)) (by kernel_rfl) (by kernel_rfl)

theorem rows_at : ∃ L : List (DataW Unit), (Rows.laid_bulkhead_isa_rows : DataW Unit) = .agg L ∧ ∀ k, k < 31 → L[k]? = some (.agg [.lit (.string (names.getD k [])), .lit (.int .i64 (forms.getD k 0)), .lit (.int .i64 (costs.getD k 0))]) := by
  refine ⟨_, rfl, ?_⟩
  intro k hk
  match k, hk with
  | 0, _ => rfl | 1, _ => rfl | 2, _ => rfl | 3, _ => rfl | 4, _ => rfl | 5, _ => rfl | 6, _ => rfl | 7, _ => rfl | 8, _ => rfl | 9, _ => rfl
  | 10, _ => rfl | 11, _ => rfl | 12, _ => rfl | 13, _ => rfl | 14, _ => rfl | 15, _ => rfl | 16, _ => rfl | 17, _ => rfl | 18, _ => rfl | 19, _ => rfl
  | 20, _ => rfl | 21, _ => rfl | 22, _ => rfl | 23, _ => rfl | 24, _ => rfl | 25, _ => rfl | 26, _ => rfl | 27, _ => rfl | 28, _ => rfl | 29, _ => rfl
  | 30, _ => rfl
  | n + 31, h => omega

theorem tab_of_laid {W : World} (h : laidMetH Tryd.prog laid1 W) : Tab W := by
  rw [MakeChecks.laidMetH_plain _ _ _ (by kernel_rfl)] at h
  obtain ⟨ps, ⟨g0, t0, cs0, f0, p0, q0, hg0, ht0, hv0, hd0, _, _⟩, _, _⟩ := h
  obtain rfl := Option.some.inj (gRows.symm.trans hg0)
  obtain rfl := Option.some.inj (tRows.symm.trans ht0)
  obtain ⟨L, hL, hk⟩ := rows_at
  obtain ⟨xs, m, rfl, hx, hlen, hn, hel⟩ := DataW.trod_array Tryd.underlying50 hd0
  rw [hL] at hx
  simp only [Prod.mk.injEq, DataW.agg.injEq] at hx
  have row : ∀ k, k < 31 → cs0[k * 3]? = some (.string ⟨(names.getD k []).toArray⟩) ∧ cs0[k * 3 + 1]? = some (.int .i64 (forms.getD k 0)) ∧ cs0[k * 3 + 2]? = some (.int .i64 (costs.getD k 0)) := by
    intro k hk31
    have hx1 : (xs.map (·.1))[k]? = some (.agg [.lit (.string (names.getD k [])), .lit (.int .i64 (forms.getD k 0)), .lit (.int .i64 (costs.getD k 0))]) := by rw [← hx.1]; exact hk k hk31
    obtain ⟨y, hy, hy1⟩ : ∃ y, xs[k]? = some y ∧ y.1 = .agg [.lit (.string (names.getD k [])), .lit (.int .i64 (forms.getD k 0)), .lit (.int .i64 (costs.getD k 0))] := by
      rw [List.getElem?_map] at hx1
      cases hxk : xs[k]? with
      | none => rw [hxk] at hx1; cases hx1
      | some y => rw [hxk] at hx1; exact ⟨y, rfl, Option.some.inj hx1⟩
    have he := hel k hk31
    rw [cells48, hy] at he
    obtain ⟨y0, y1, y2, n, hyy, _, h0, h1, h2⟩ := Go.Deep.trod_struct3 Tryd.underlying48 he
    obtain ⟨s, es, rfl, _⟩ := DataW.trod_string Tryd.underlying9 h0
    obtain ⟨a, ea, rfl, _⟩ := DataW.trod_int Tryd.underlying3 h1
    obtain ⟨b, eb, rfl, _⟩ := DataW.trod_int Tryd.underlying3 h2
    have c9 : Tryd.prog.cellsOf 9 = 1 := by kernel_rfl
    have c3 : Tryd.prog.cellsOf 3 = 1 := by kernel_rfl
    simp only [c9, c3] at es ea eb
    rw [hyy] at hy1
    simp only [DataW.agg.injEq, List.cons.injEq, DataW.lit.injEq, Lit.string.injEq, Lit.int.injEq, true_and, and_true] at hy1
    obtain ⟨h1', h2', h3'⟩ := hy1
    have q0 := congrArg (fun l => l[0]?) es
    have q1 := congrArg (fun l => l[0]?) ea
    have q2 := congrArg (fun l => l[0]?) eb
    simp [List.getElem?_take, List.getElem?_drop] at q0 q1 q2
    refine ⟨?_, ?_, ?_⟩
    · rw [q0, ← h1']
    · rw [q1, h2']
    · rw [q2, h3']
  exact ⟨fun k hk => (World.var?_cell hg0 hv0 _).trans (row k hk).1, fun k hk => (World.var?_cell hg0 hv0 _).trans (row k hk).2.1, fun k hk => (World.var?_cell hg0 hv0 _).trans (row k hk).2.2⟩
end Go.Proofs.YtdoighcgfbnigaaDoor.Isa
