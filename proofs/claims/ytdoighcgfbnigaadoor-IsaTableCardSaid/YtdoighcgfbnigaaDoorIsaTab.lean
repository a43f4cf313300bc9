import Derived.Test.YtdoighcgfbnigaaDoorIsaSpec
import Derived.Test.YtdoighcgfbnigaaDoorWMore
import Derived.Test.YtdoighcgfbnigaaDoorProg
import Derived.WalkKit
import Derived.Below
import Derived.Deep.QuietTactic
import Derived.BigQuiet
import Derived.Outline
namespace Go.Proofs.YtdoighcgfbnigaaDoor.Isa
set_option linter.unusedVariables false
set_option linter.unusedSimpArgs false
open Go.RowKit Go.Proofs.YtdoighcgfbnigaaDoorW.PrintWords Go.Proofs.YtdoighcgfbnigaaDoorW.PrintLast Go.Proofs.YtdoighcgfbnigaaDoorW.PrintMore

/-- The table stands in block 0. -/
structure Tab (W : World) : Prop where
  nm : ∀ k, k < 31 → W.cell? ⟨0, k * 3, none⟩ = some (.string ⟨(names.getD k []).toArray⟩)
  fm : ∀ k, k < 31 → W.cell? ⟨0, k * 3 + 1, none⟩ = some (.int .i64 (forms.getD k 0))
  ct : ∀ k, k < 31 → W.cell? ⟨0, k * 3 + 2, none⟩ = some (.int .i64 (costs.getD k 0))

theorem Tab.below {W W' : World} (h : Tab W) (hb : Below W.heap.size W W') : Tab W' := by
  have h0 : 0 < W.heap.size := World.block_lt_of_cell? W _ (h.fm 0 (by decide))
  exact ⟨fun k hk => (hb.cell (p := ⟨0, k * 3, none⟩) h0).trans (h.nm k hk), fun k hk => (hb.cell (p := ⟨0, k * 3 + 1, none⟩) h0).trans (h.fm k hk), fun k hk => (hb.cell (p := ⟨0, k * 3 + 2, none⟩) h0).trans (h.ct k hk)⟩

set_option maxHeartbeats 400000 in
set_option maxRecDepth 100000 in
theorem of_in (k : Nat) (hk : k < 31) (s : ByteArray) (f c : Int) (w : World) (h0 : w.cell? ⟨0, k * 3, none⟩ = some (.string s)) (h1 : w.cell? ⟨0, k * 3 + 1, none⟩ = some (.int .i64 f)) (h2 : w.cell? ⟨0, k * 3 + 2, none⟩ = some (.int .i64 c)) :
    Calls Tryd.prog 28 #[.int .i64 k] w fun e w' => e = .returned (.agg #[.string s, .int .i64 f, .int .i64 c]) ∧ Below w.heap.size w w' := by
  have hs : 0 < w.heap.size := World.block_lt_of_cell? w _ h1
  have a0 : ∀ o, (w.alloc o).cell? ⟨0, k * 3, none⟩ = some (.string s) := fun o => (World.cell?_alloc_lt _ _ _ hs).trans h0
  have a1 : ∀ o, (w.alloc o).cell? ⟨0, k * 3 + 1, none⟩ = some (.int .i64 f) := fun o => (World.cell?_alloc_lt _ _ _ hs).trans h1
  have a2 : ∀ o, (w.alloc o).cell? ⟨0, k * 3 + 2, none⟩ = some (.int .i64 c) := fun o => (World.cell?_alloc_lt _ _ _ hs).trans h2
  have d1 : decide ((k : Int) < 0) = false := by simp
  have d2 : decide ((31 : Int) ≤ (k : Int)) = false := by simp; omega
  go_enter Tryd.func28, Tryd.ntmps28
  go_wp2
  exact bodyPost_ret (v := .agg #[.string s, .int .i64 f, .int .i64 c]) (by simp [results, Tryd.results28, go_sem]) rfl ⟨rfl, (Below.refl _ _).alloc (Nat.le_refl _) _⟩

set_option maxHeartbeats 400000 in
theorem of_out (op : Int) (w : World) (h : op < 0 ∨ 31 ≤ op) :
    Calls Tryd.prog 28 #[.int .i64 op] w fun e w' => e = .returned (.agg #[.string ⟨#[]⟩, .int .i64 0, .int .i64 0]) ∧ Below w.heap.size w w' := by
  rcases h with h | h
  · have d1 : decide (op < 0) = true := by simpa using h
    go_enter Tryd.func28, Tryd.ntmps28
    go_wp2
    exact bodyPost_ret (v := .agg #[.string ⟨#[]⟩, .int .i64 0, .int .i64 0]) (by simp [results, Tryd.results28, go_sem]) rfl ⟨rfl, by repeat (first | (with_reducible first | apply below_alloc | apply pw_below_drewN | (refine below_set ?_ (Nat.le_refl _))) | exact Below.refl _ _)⟩
  · have d1 : decide (op < 0) = false := by simp; omega
    have d2 : decide ((31 : Int) ≤ op) = true := by simpa using h
    go_enter Tryd.func28, Tryd.ntmps28
    go_wp2
    exact bodyPost_ret (v := .agg #[.string ⟨#[]⟩, .int .i64 0, .int .i64 0]) (by simp [results, Tryd.results28, go_sem]) rfl ⟨rfl, by repeat (first | (with_reducible first | apply below_alloc | apply pw_below_drewN | (refine below_set ?_ (Nat.le_refl _))) | exact Below.refl _ _)⟩

def nameS (op : Int) : ByteArray := ⟨(nameOf op).toArray⟩

/-- 'of', whatever the operation. -/
theorem of_any (op : Int) (w : World) (ht : Tab w) :
    Calls Tryd.prog 28 #[.int .i64 op] w fun e w' => e = .returned (.agg #[.string (nameS op), .int .i64 (formOf op), .int .i64 (costOf op)]) ∧ Below w.heap.size w w' := by
  by_cases h : 0 ≤ op ∧ op < 31
  · obtain ⟨k, rfl⟩ := Int.eq_ofNat_of_zero_le h.1
    have hk : k < 31 := by omega
    unfold nameS nameOf formOf costOf
    rw [if_pos h, if_pos h, if_pos h]
    exact of_in k hk _ _ _ w (ht.nm k hk) (ht.fm k hk) (ht.ct k hk)
  · unfold nameS nameOf formOf costOf
    rw [if_neg h, if_neg h, if_neg h]
    exact of_out op w (by omega)

theorem form_any (op : Int) (w : World) (ht : Tab w) : Calls Tryd.prog 15 #[.int .i64 op] w fun e w' => e = .returned (.int .i64 (formOf op)) ∧ Below w.heap.size w w' := by
  have H := Aside0.mk (of_any op w ht)
  have hu48 := Tryd.underlying48
  have hf : ∀ (a b c : Value) (w : World), (Instr.field 48 (.agg #[a, b, c]) 1).run Tryd.prog w = .ok b w := fun _ _ _ _ => by kernel_rfl
  clear ht
  go_enter Tryd.func15, Tryd.ntmps15
  go_wp2_with (go_at_call 28; (with_reducible refine H.out.mono ?_); rintro e w' ⟨rfl, hb⟩)
  go_ret
  exact ⟨rfl, hb⟩

theorem name_any (op : Int) (w : World) (ht : Tab w) : Calls Tryd.prog 16 #[.int .i64 op] w fun e w' => e = .returned (.string (nameS op)) ∧ Below w.heap.size w w' := by
  have H := Aside0.mk (of_any op w ht)
  have hu48 := Tryd.underlying48
  have hf : ∀ (a b c : Value) (w : World), (Instr.field 48 (.agg #[a, b, c]) 0).run Tryd.prog w = .ok a w := fun _ _ _ _ => by kernel_rfl
  clear ht
  go_enter Tryd.func16, Tryd.ntmps16
  go_wp2_with (go_at_call 28; (with_reducible refine H.out.mono ?_); rintro e w' ⟨rfl, hb⟩)
  go_ret
  exact ⟨rfl, hb⟩

theorem cost_any (op : Int) (w : World) (ht : Tab w) : Calls Tryd.prog 21 #[.int .i64 op] w fun e w' => e = .returned (.int .i64 (costOf op)) ∧ Below w.heap.size w w' := by
  have H := Aside0.mk (of_any op w ht)
  have hu48 := Tryd.underlying48
  have hf : ∀ (a b c : Value) (w : World), (Instr.field 48 (.agg #[a, b, c]) 2).run Tryd.prog w = .ok c w := fun _ _ _ _ => by kernel_rfl
  clear ht
  go_enter Tryd.func21, Tryd.ntmps21
  go_wp2_with (go_at_call 28; (with_reducible refine H.out.mono ?_); rintro e w' ⟨rfl, hb⟩)
  go_ret
  exact ⟨rfl, hb⟩

end Go.Proofs.YtdoighcgfbnigaaDoor.Isa
