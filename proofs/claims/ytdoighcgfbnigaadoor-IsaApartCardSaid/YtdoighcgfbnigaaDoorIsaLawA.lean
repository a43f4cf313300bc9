/- Isa: the law IsaApart, its walk, way by way. -/
import Derived.Test.YtdoighcgfbnigaaDoorIsaLawB
import Derived.Deep.RegionHeld3
import Derived.Deep.RegionWith
namespace Go.Proofs.YtdoighcgfbnigaaDoor.Isa
set_option linter.unusedVariables false
set_option linter.unusedSimpArgs false
open Go.RowKit Go.Proofs.YtdoighcgfbnigaaDoorW.PrintWords Go.Proofs.YtdoighcgfbnigaaDoorW.PrintLast Go.Proofs.YtdoighcgfbnigaaDoorW.PrintMore

/-- What stands behind each call: both instructions' cells, the table, old memory. -/
structure TwoW (w w' : World) (o a b c i o2 a2 b2 c2 i2 : Int) : Prop where
  tab : Tab w'
  bel : Below w.heap.size w w'
  lt : w.heap.size + 1 < w'.heap.size
  p0 : w'.cell? ⟨w.heap.size, 0, none⟩ = some (.int .i64 o)
  p1 : w'.cell? ⟨w.heap.size, 1, none⟩ = some (.int .i64 a)
  p2 : w'.cell? ⟨w.heap.size, 2, none⟩ = some (.int .i64 b)
  p3 : w'.cell? ⟨w.heap.size, 3, none⟩ = some (.int .i64 c)
  p4 : w'.cell? ⟨w.heap.size, 4, none⟩ = some (.int .i64 i)
  q0 : w'.cell? ⟨w.heap.size + 1, 0, none⟩ = some (.int .i64 o2)
  q1 : w'.cell? ⟨w.heap.size + 1, 1, none⟩ = some (.int .i64 a2)
  q2 : w'.cell? ⟨w.heap.size + 1, 2, none⟩ = some (.int .i64 b2)
  q3 : w'.cell? ⟨w.heap.size + 1, 3, none⟩ = some (.int .i64 c2)
  q4 : w'.cell? ⟨w.heap.size + 1, 4, none⟩ = some (.int .i64 i2)

theorem TwoW.start {w : World} {o a b c i o2 a2 b2 c2 i2 : Int} (ht : Tab w) : TwoW w ((w.alloc (.cells #[.int .i64 o, .int .i64 a, .int .i64 b, .int .i64 c, .int .i64 i] 23)).alloc (.cells #[.int .i64 o2, .int .i64 a2, .int .i64 b2, .int .i64 c2, .int .i64 i2] 23)) o a b c i o2 a2 b2 c2 i2 := by
  have hb : Below w.heap.size w ((w.alloc (.cells #[.int .i64 o, .int .i64 a, .int .i64 b, .int .i64 c, .int .i64 i] 23)).alloc (.cells #[.int .i64 o2, .int .i64 a2, .int .i64 b2, .int .i64 c2, .int .i64 i2] 23)) := ((Below.refl _ _).alloc (Nat.le_refl _) _).alloc (by simp) _
  refine ⟨ht.below hb, hb, by simp, ?_, ?_, ?_, ?_, ?_, ?_, ?_, ?_, ?_, ?_⟩ <;> first | (rw [World.cell?_alloc_lt _ _ _ (by simp), World.cell?_alloc_at _ _ _ _ rfl]; rfl) | (rw [World.cell?_alloc_at _ _ _ _ (by simp)]; rfl)

theorem TwoW.next {w w1 w2 : World} {o a b c i o2 a2 b2 c2 i2 : Int} (h : TwoW w w1 o a b c i o2 a2 b2 c2 i2) (hb : Below w1.heap.size w1 w2) : TwoW w w2 o a b c i o2 a2 b2 c2 i2 :=
  have hz := hb.size
  have h0 : w.heap.size < w1.heap.size := by have := h.lt; omega
  ⟨h.tab.below hb, h.bel.trans (hb.mono (by have := h.lt; omega)), by have := h.lt; omega, (hb.cell (p := ⟨w.heap.size, 0, none⟩) h0).trans h.p0, (hb.cell (p := ⟨w.heap.size, 1, none⟩) h0).trans h.p1, (hb.cell (p := ⟨w.heap.size, 2, none⟩) h0).trans h.p2, (hb.cell (p := ⟨w.heap.size, 3, none⟩) h0).trans h.p3, (hb.cell (p := ⟨w.heap.size, 4, none⟩) h0).trans h.p4, (hb.cell (p := ⟨w.heap.size + 1, 0, none⟩) h.lt).trans h.q0, (hb.cell (p := ⟨w.heap.size + 1, 1, none⟩) h.lt).trans h.q1, (hb.cell (p := ⟨w.heap.size + 1, 2, none⟩) h.lt).trans h.q2, (hb.cell (p := ⟨w.heap.size + 1, 3, none⟩) h.lt).trans h.q3, (hb.cell (p := ⟨w.heap.size + 1, 4, none⟩) h.lt).trans h.q4⟩

theorem TwoW.drew {w w1 : World} {o a b c i o2 a2 b2 c2 i2 : Int} (h : TwoW w w1 o a b c i o2 a2 b2 c2 i2) (n : Nat) : TwoW w (w1.drewN n) o a b c i o2 a2 b2 c2 i2 := h.next (Drawn0.below ⟨n, rfl⟩)
theorem TwoW.drw {w w1 : World} {o a b c i o2 a2 b2 c2 i2 : Int} (h : TwoW w w1 o a b c i o2 a2 b2 c2 i2) : TwoW w w1.drew o a b c i o2 a2 b2 c2 i2 := h.next (below_drew (Below.refl _ _))
theorem TwoW.all {w w1 : World} {o a b c i o2 a2 b2 c2 i2 : Int} (h : TwoW w w1 o a b c i o2 a2 b2 c2 i2) : w1.cell? ⟨w.heap.size, 0, none⟩ = some (.int .i64 o) ∧ w1.cell? ⟨w.heap.size + 1, 0, none⟩ = some (.int .i64 o2) ∧ TwoW w w1 o a b c i o2 a2 b2 c2 i2 := ⟨h.p0, h.q0, h⟩
theorem TwoW.of {w w1 : World} {o a b c i o2 a2 b2 c2 i2 : Int} (h : w1.cell? ⟨w.heap.size, 0, none⟩ = some (.int .i64 o) ∧ w1.cell? ⟨w.heap.size + 1, 0, none⟩ = some (.int .i64 o2) ∧ TwoW w w1 o a b c i o2 a2 b2 c2 i2) : TwoW w w1 o a b c i o2 a2 b2 c2 i2 := h.2.2

set_option maxHeartbeats 1600000 in
set_option maxRecDepth 100000 in
theorem ap_same_opsame (x y o a b c i o2 a2 b2 c2 i2 f g : Int) (n m : ByteArray) (w : World) (ht : Tab w) (HE1 : ∀ w, Tab w → Calls Tryd.prog 10 #[.agg #[.int .i64 o, .int .i64 a, .int .i64 b, .int .i64 c, .int .i64 i]] w fun e w' => e = .returned (.tuple #[.int .u32 x, .int .i64 0]) ∧ Below w.heap.size w w') (HF1 : ∀ w, Tab w → Calls Tryd.prog 15 #[.int .i64 o] w fun e w' => e = .returned (.int .i64 f) ∧ Below w.heap.size w w') (HN1 : ∀ w, Tab w → Calls Tryd.prog 16 #[.int .i64 o] w fun e w' => e = .returned (.string n) ∧ Below w.heap.size w w') (hf1 : (f == 0) = false) (hf2 : (f != 0) = true) :
    Calls Tryd.prog 7 #[.agg #[.int .i64 o, .int .i64 a, .int .i64 b, .int .i64 c, .int .i64 i], .agg #[.int .i64 o, .int .i64 a, .int .i64 b, .int .i64 c, .int .i64 i]] w fun e w' => e = .returned (.bool true) ∧ Below w.heap.size w w' := by
  have hu23 := Tryd.underlying23
  have hE0 := TwoW.start (o := o) (a := a) (b := b) (c := c) (i := i) (o2 := o) (a2 := a) (b2 := b) (c2 := c) (i2 := i) ht
  have HE1 := Aside0.mk HE1
  have HF1 := Aside0.mk HF1
  have HN1 := Aside0.mk HN1
  clear ht
  go_enter Tryd.func7, Tryd.ntmps7
  go_wp2_with (first | (go_at_call 10; (with_reducible refine (HE1.out _ ?_).mono ?_); (refine TwoW.tab (w := w) (o := o) (a := a) (b := b) (c := c) (i := i) (o2 := o) (a2 := a) (b2 := b) (c2 := c) (i2 := i) ?_; assumption); rintro e w9 ⟨rfl, hb9⟩; have hE := TwoW.next (w := w) (o := o) (a := a) (b := b) (c := c) (i := i) (o2 := o) (a2 := a) (b2 := b) (c2 := c) (i2 := i) (by assumption) hb9; clear hb9; have kc0 := hE.p0; have kd0 := hE.q0; have kc1 := hE.p1; have kd1 := hE.q1; have kc2 := hE.p2; have kd2 := hE.q2; have kc3 := hE.p3; have kd3 := hE.q3; have kc4 := hE.p4; have kd4 := hE.q4))
  go_region_held3 (fun w' => w'.cell? ⟨w.heap.size, 0, none⟩ = some (.int .i64 o) ∧ w'.cell? ⟨w.heap.size + 1, 0, none⟩ = some (.int .i64 o) ∧ TwoW w w' o a b c i o a b c i) (first | exact TwoW.all (by assumption) | exact TwoW.all (TwoW.drw (by assumption))) (first | (go_at_call 15; (with_reducible refine (HF1.out _ ?_).mono ?_); refine TwoW.tab (TwoW.of (w := w) (o := o) (a := a) (b := b) (c := c) (i := i) (o2 := o) (a2 := a) (b2 := b) (c2 := c) (i2 := i) ?_); assumption; rintro e w9 ⟨rfl, hb9⟩; have hE9 := TwoW.next (TwoW.of (w := w) (o := o) (a := a) (b := b) (c := c) (i := i) (o2 := o) (a2 := a) (b2 := b) (c2 := c) (i2 := i) (by assumption)) hb9; clear hb9) | (go_at_call 16; (with_reducible refine (HN1.out _ ?_).mono ?_); refine TwoW.tab (TwoW.of (w := w) (o := o) (a := a) (b := b) (c := c) (i := i) (o2 := o) (a2 := a) (b2 := b) (c2 := c) (i2 := i) ?_); assumption; rintro e w9 ⟨rfl, hb9⟩; have hE9 := TwoW.next (TwoW.of (w := w) (o := o) (a := a) (b := b) (c := c) (i := i) (o2 := o) (a2 := a) (b2 := b) (c2 := c) (i2 := i) (by assumption)) hb9; clear hb9))
  all_goals have hM := TwoW.of (w := w) (o := o) (a := a) (b := b) (c := c) (i := i) (o2 := o) (a2 := a) (b2 := b) (c2 := c) (i2 := i) (by assumption)
  all_goals go_wp2_with (go_at_call 12; (with_reducible refine (awake_any _ ?_).mono ?_); refine TwoW.tab (w := w) (o := o) (a := a) (b := b) (c := c) (i := i) (o2 := o) (a2 := a) (b2 := b) (c2 := c) (i2 := i) ?_; assumption; rintro e w10 ⟨rfl, hb⟩; have hL := TwoW.next (w := w) (o := o) (a := a) (b := b) (c := c) (i := i) (o2 := o) (a2 := a) (b2 := b) (c2 := c) (i2 := i) (by assumption) hb)
  all_goals go_ret
  all_goals exact ⟨rfl, hL.bel⟩

set_option maxHeartbeats 1600000 in
set_option maxRecDepth 100000 in
theorem ap_diff1_opsame (x y o a b c i o2 a2 b2 c2 i2 f g : Int) (n m : ByteArray) (w : World) (ht : Tab w) (HE1 : ∀ w, Tab w → Calls Tryd.prog 10 #[.agg #[.int .i64 o, .int .i64 a, .int .i64 b, .int .i64 c, .int .i64 i]] w fun e w' => e = .returned (.tuple #[.int .u32 x, .int .i64 0]) ∧ Below w.heap.size w w') (HE2 : ∀ w, Tab w → Calls Tryd.prog 10 #[.agg #[.int .i64 o, .int .i64 a2, .int .i64 b2, .int .i64 c2, .int .i64 i2]] w fun e w' => e = .returned (.tuple #[.int .u32 y, .int .i64 0]) ∧ Below w.heap.size w w') (HF1 : ∀ w, Tab w → Calls Tryd.prog 15 #[.int .i64 o] w fun e w' => e = .returned (.int .i64 f) ∧ Below w.heap.size w w') (HN1 : ∀ w, Tab w → Calls Tryd.prog 16 #[.int .i64 o] w fun e w' => e = .returned (.string n) ∧ Below w.heap.size w w') (hf1 : (f == 0) = false) (hf2 : (f != 0) = true) (hxy : (x == y) = false) (hij : (a == a2) = false) :
    Calls Tryd.prog 7 #[.agg #[.int .i64 o, .int .i64 a, .int .i64 b, .int .i64 c, .int .i64 i], .agg #[.int .i64 o, .int .i64 a2, .int .i64 b2, .int .i64 c2, .int .i64 i2]] w fun e w' => e = .returned (.bool true) ∧ Below w.heap.size w w' := by
  have hu23 := Tryd.underlying23
  have hE0 := TwoW.start (o := o) (a := a) (b := b) (c := c) (i := i) (o2 := o) (a2 := a2) (b2 := b2) (c2 := c2) (i2 := i2) ht
  have HE1 := Aside0.mk HE1
  have HE2 := Aside0.mk HE2
  have HF1 := Aside0.mk HF1
  have HN1 := Aside0.mk HN1
  clear ht
  go_enter Tryd.func7, Tryd.ntmps7
  go_wp2_with (first | (go_at_call 10; (with_reducible refine (HE1.out _ ?_).mono ?_); (refine TwoW.tab (w := w) (o := o) (a := a) (b := b) (c := c) (i := i) (o2 := o) (a2 := a2) (b2 := b2) (c2 := c2) (i2 := i2) ?_; assumption); rintro e w9 ⟨rfl, hb9⟩; have hE := TwoW.next (w := w) (o := o) (a := a) (b := b) (c := c) (i := i) (o2 := o) (a2 := a2) (b2 := b2) (c2 := c2) (i2 := i2) (by assumption) hb9; clear hb9; have kc0 := hE.p0; have kd0 := hE.q0; have kc1 := hE.p1; have kd1 := hE.q1; have kc2 := hE.p2; have kd2 := hE.q2; have kc3 := hE.p3; have kd3 := hE.q3; have kc4 := hE.p4; have kd4 := hE.q4) | (go_at_call 10; (with_reducible refine (HE2.out _ ?_).mono ?_); (refine TwoW.tab (w := w) (o := o) (a := a) (b := b) (c := c) (i := i) (o2 := o) (a2 := a2) (b2 := b2) (c2 := c2) (i2 := i2) ?_; assumption); rintro e w9 ⟨rfl, hb9⟩; have hE := TwoW.next (w := w) (o := o) (a := a) (b := b) (c := c) (i := i) (o2 := o) (a2 := a2) (b2 := b2) (c2 := c2) (i2 := i2) (by assumption) hb9; clear hb9; have kc0 := hE.p0; have kd0 := hE.q0; have kc1 := hE.p1; have kd1 := hE.q1; have kc2 := hE.p2; have kd2 := hE.q2; have kc3 := hE.p3; have kd3 := hE.q3; have kc4 := hE.p4; have kd4 := hE.q4))
  go_region_held3 (fun w' => w'.cell? ⟨w.heap.size, 0, none⟩ = some (.int .i64 o) ∧ w'.cell? ⟨w.heap.size + 1, 0, none⟩ = some (.int .i64 o) ∧ TwoW w w' o a b c i o a2 b2 c2 i2) (first | exact TwoW.all (by assumption) | exact TwoW.all (TwoW.drw (by assumption))) (first | (go_at_call 15; (with_reducible refine (HF1.out _ ?_).mono ?_); refine TwoW.tab (TwoW.of (w := w) (o := o) (a := a) (b := b) (c := c) (i := i) (o2 := o) (a2 := a2) (b2 := b2) (c2 := c2) (i2 := i2) ?_); assumption; rintro e w9 ⟨rfl, hb9⟩; have hE9 := TwoW.next (TwoW.of (w := w) (o := o) (a := a) (b := b) (c := c) (i := i) (o2 := o) (a2 := a2) (b2 := b2) (c2 := c2) (i2 := i2) (by assumption)) hb9; clear hb9) | (go_at_call 16; (with_reducible refine (HN1.out _ ?_).mono ?_); refine TwoW.tab (TwoW.of (w := w) (o := o) (a := a) (b := b) (c := c) (i := i) (o2 := o) (a2 := a2) (b2 := b2) (c2 := c2) (i2 := i2) ?_); assumption; rintro e w9 ⟨rfl, hb9⟩; have hE9 := TwoW.next (TwoW.of (w := w) (o := o) (a := a) (b := b) (c := c) (i := i) (o2 := o) (a2 := a2) (b2 := b2) (c2 := c2) (i2 := i2) (by assumption)) hb9; clear hb9))
  all_goals have hM := TwoW.of (w := w) (o := o) (a := a) (b := b) (c := c) (i := i) (o2 := o) (a2 := a2) (b2 := b2) (c2 := c2) (i2 := i2) (by assumption)
  all_goals go_wp2_with (go_at_call 12; (with_reducible refine (awake_any _ ?_).mono ?_); refine TwoW.tab (w := w) (o := o) (a := a) (b := b) (c := c) (i := i) (o2 := o) (a2 := a2) (b2 := b2) (c2 := c2) (i2 := i2) ?_; assumption; rintro e w10 ⟨rfl, hb⟩; have hL := TwoW.next (w := w) (o := o) (a := a) (b := b) (c := c) (i := i) (o2 := o) (a2 := a2) (b2 := b2) (c2 := c2) (i2 := i2) (by assumption) hb)
  all_goals go_ret
  all_goals exact ⟨rfl, hL.bel⟩

set_option maxHeartbeats 1600000 in
set_option maxRecDepth 100000 in
theorem ap_diff2_opsame (x y o a b c i o2 a2 b2 c2 i2 f g : Int) (n m : ByteArray) (w : World) (ht : Tab w) (HE1 : ∀ w, Tab w → Calls Tryd.prog 10 #[.agg #[.int .i64 o, .int .i64 a, .int .i64 b, .int .i64 c, .int .i64 i]] w fun e w' => e = .returned (.tuple #[.int .u32 x, .int .i64 0]) ∧ Below w.heap.size w w') (HE2 : ∀ w, Tab w → Calls Tryd.prog 10 #[.agg #[.int .i64 o, .int .i64 a, .int .i64 b2, .int .i64 c2, .int .i64 i2]] w fun e w' => e = .returned (.tuple #[.int .u32 y, .int .i64 0]) ∧ Below w.heap.size w w') (HF1 : ∀ w, Tab w → Calls Tryd.prog 15 #[.int .i64 o] w fun e w' => e = .returned (.int .i64 f) ∧ Below w.heap.size w w') (HN1 : ∀ w, Tab w → Calls Tryd.prog 16 #[.int .i64 o] w fun e w' => e = .returned (.string n) ∧ Below w.heap.size w w') (hf1 : (f == 0) = false) (hf2 : (f != 0) = true) (hxy : (x == y) = false) (hij : (b == b2) = false) :
    Calls Tryd.prog 7 #[.agg #[.int .i64 o, .int .i64 a, .int .i64 b, .int .i64 c, .int .i64 i], .agg #[.int .i64 o, .int .i64 a, .int .i64 b2, .int .i64 c2, .int .i64 i2]] w fun e w' => e = .returned (.bool true) ∧ Below w.heap.size w w' := by
  have hu23 := Tryd.underlying23
  have hE0 := TwoW.start (o := o) (a := a) (b := b) (c := c) (i := i) (o2 := o) (a2 := a) (b2 := b2) (c2 := c2) (i2 := i2) ht
  have HE1 := Aside0.mk HE1
  have HE2 := Aside0.mk HE2
  have HF1 := Aside0.mk HF1
  have HN1 := Aside0.mk HN1
  clear ht
  go_enter Tryd.func7, Tryd.ntmps7
  go_wp2_with (first | (go_at_call 10; (with_reducible refine (HE1.out _ ?_).mono ?_); (refine TwoW.tab (w := w) (o := o) (a := a) (b := b) (c := c) (i := i) (o2 := o) (a2 := a) (b2 := b2) (c2 := c2) (i2 := i2) ?_; assumption); rintro e w9 ⟨rfl, hb9⟩; have hE := TwoW.next (w := w) (o := o) (a := a) (b := b) (c := c) (i := i) (o2 := o) (a2 := a) (b2 := b2) (c2 := c2) (i2 := i2) (by assumption) hb9; clear hb9; have kc0 := hE.p0; have kd0 := hE.q0; have kc1 := hE.p1; have kd1 := hE.q1; have kc2 := hE.p2; have kd2 := hE.q2; have kc3 := hE.p3; have kd3 := hE.q3; have kc4 := hE.p4; have kd4 := hE.q4) | (go_at_call 10; (with_reducible refine (HE2.out _ ?_).mono ?_); (refine TwoW.tab (w := w) (o := o) (a := a) (b := b) (c := c) (i := i) (o2 := o) (a2 := a) (b2 := b2) (c2 := c2) (i2 := i2) ?_; assumption); rintro e w9 ⟨rfl, hb9⟩; have hE := TwoW.next (w := w) (o := o) (a := a) (b := b) (c := c) (i := i) (o2 := o) (a2 := a) (b2 := b2) (c2 := c2) (i2 := i2) (by assumption) hb9; clear hb9; have kc0 := hE.p0; have kd0 := hE.q0; have kc1 := hE.p1; have kd1 := hE.q1; have kc2 := hE.p2; have kd2 := hE.q2; have kc3 := hE.p3; have kd3 := hE.q3; have kc4 := hE.p4; have kd4 := hE.q4))
  go_region_held3 (fun w' => w'.cell? ⟨w.heap.size, 0, none⟩ = some (.int .i64 o) ∧ w'.cell? ⟨w.heap.size + 1, 0, none⟩ = some (.int .i64 o) ∧ TwoW w w' o a b c i o a b2 c2 i2) (first | exact TwoW.all (by assumption) | exact TwoW.all (TwoW.drw (by assumption))) (first | (go_at_call 15; (with_reducible refine (HF1.out _ ?_).mono ?_); refine TwoW.tab (TwoW.of (w := w) (o := o) (a := a) (b := b) (c := c) (i := i) (o2 := o) (a2 := a) (b2 := b2) (c2 := c2) (i2 := i2) ?_); assumption; rintro e w9 ⟨rfl, hb9⟩; have hE9 := TwoW.next (TwoW.of (w := w) (o := o) (a := a) (b := b) (c := c) (i := i) (o2 := o) (a2 := a) (b2 := b2) (c2 := c2) (i2 := i2) (by assumption)) hb9; clear hb9) | (go_at_call 16; (with_reducible refine (HN1.out _ ?_).mono ?_); refine TwoW.tab (TwoW.of (w := w) (o := o) (a := a) (b := b) (c := c) (i := i) (o2 := o) (a2 := a) (b2 := b2) (c2 := c2) (i2 := i2) ?_); assumption; rintro e w9 ⟨rfl, hb9⟩; have hE9 := TwoW.next (TwoW.of (w := w) (o := o) (a := a) (b := b) (c := c) (i := i) (o2 := o) (a2 := a) (b2 := b2) (c2 := c2) (i2 := i2) (by assumption)) hb9; clear hb9))
  all_goals have hM := TwoW.of (w := w) (o := o) (a := a) (b := b) (c := c) (i := i) (o2 := o) (a2 := a) (b2 := b2) (c2 := c2) (i2 := i2) (by assumption)
  all_goals go_wp2_with (go_at_call 12; (with_reducible refine (awake_any _ ?_).mono ?_); refine TwoW.tab (w := w) (o := o) (a := a) (b := b) (c := c) (i := i) (o2 := o) (a2 := a) (b2 := b2) (c2 := c2) (i2 := i2) ?_; assumption; rintro e w10 ⟨rfl, hb⟩; have hL := TwoW.next (w := w) (o := o) (a := a) (b := b) (c := c) (i := i) (o2 := o) (a2 := a) (b2 := b2) (c2 := c2) (i2 := i2) (by assumption) hb)
  all_goals go_ret
  all_goals exact ⟨rfl, hL.bel⟩

set_option maxHeartbeats 1600000 in
set_option maxRecDepth 100000 in
theorem ap_diff3_opsame (x y o a b c i o2 a2 b2 c2 i2 f g : Int) (n m : ByteArray) (w : World) (ht : Tab w) (HE1 : ∀ w, Tab w → Calls Tryd.prog 10 #[.agg #[.int .i64 o, .int .i64 a, .int .i64 b, .int .i64 c, .int .i64 i]] w fun e w' => e = .returned (.tuple #[.int .u32 x, .int .i64 0]) ∧ Below w.heap.size w w') (HE2 : ∀ w, Tab w → Calls Tryd.prog 10 #[.agg #[.int .i64 o, .int .i64 a, .int .i64 b, .int .i64 c2, .int .i64 i2]] w fun e w' => e = .returned (.tuple #[.int .u32 y, .int .i64 0]) ∧ Below w.heap.size w w') (HF1 : ∀ w, Tab w → Calls Tryd.prog 15 #[.int .i64 o] w fun e w' => e = .returned (.int .i64 f) ∧ Below w.heap.size w w') (HN1 : ∀ w, Tab w → Calls Tryd.prog 16 #[.int .i64 o] w fun e w' => e = .returned (.string n) ∧ Below w.heap.size w w') (hf1 : (f == 0) = false) (hf2 : (f != 0) = true) (hxy : (x == y) = false) (hij : (c == c2) = false) :
    Calls Tryd.prog 7 #[.agg #[.int .i64 o, .int .i64 a, .int .i64 b, .int .i64 c, .int .i64 i], .agg #[.int .i64 o, .int .i64 a, .int .i64 b, .int .i64 c2, .int .i64 i2]] w fun e w' => e = .returned (.bool true) ∧ Below w.heap.size w w' := by
  have hu23 := Tryd.underlying23
  have hE0 := TwoW.start (o := o) (a := a) (b := b) (c := c) (i := i) (o2 := o) (a2 := a) (b2 := b) (c2 := c2) (i2 := i2) ht
  have HE1 := Aside0.mk HE1
  have HE2 := Aside0.mk HE2
  have HF1 := Aside0.mk HF1
  have HN1 := Aside0.mk HN1
  clear ht
  go_enter Tryd.func7, Tryd.ntmps7
  go_wp2_with (first | (go_at_call 10; (with_reducible refine (HE1.out _ ?_).mono ?_); (refine TwoW.tab (w := w) (o := o) (a := a) (b := b) (c := c) (i := i) (o2 := o) (a2 := a) (b2 := b) (c2 := c2) (i2 := i2) ?_; assumption); rintro e w9 ⟨rfl, hb9⟩; have hE := TwoW.next (w := w) (o := o) (a := a) (b := b) (c := c) (i := i) (o2 := o) (a2 := a) (b2 := b) (c2 := c2) (i2 := i2) (by assumption) hb9; clear hb9; have kc0 := hE.p0; have kd0 := hE.q0; have kc1 := hE.p1; have kd1 := hE.q1; have kc2 := hE.p2; have kd2 := hE.q2; have kc3 := hE.p3; have kd3 := hE.q3; have kc4 := hE.p4; have kd4 := hE.q4) | (go_at_call 10; (with_reducible refine (HE2.out _ ?_).mono ?_); (refine TwoW.tab (w := w) (o := o) (a := a) (b := b) (c := c) (i := i) (o2 := o) (a2 := a) (b2 := b) (c2 := c2) (i2 := i2) ?_; assumption); rintro e w9 ⟨rfl, hb9⟩; have hE := TwoW.next (w := w) (o := o) (a := a) (b := b) (c := c) (i := i) (o2 := o) (a2 := a) (b2 := b) (c2 := c2) (i2 := i2) (by assumption) hb9; clear hb9; have kc0 := hE.p0; have kd0 := hE.q0; have kc1 := hE.p1; have kd1 := hE.q1; have kc2 := hE.p2; have kd2 := hE.q2; have kc3 := hE.p3; have kd3 := hE.q3; have kc4 := hE.p4; have kd4 := hE.q4))
  go_region_held3 (fun w' => w'.cell? ⟨w.heap.size, 0, none⟩ = some (.int .i64 o) ∧ w'.cell? ⟨w.heap.size + 1, 0, none⟩ = some (.int .i64 o) ∧ TwoW w w' o a b c i o a b c2 i2) (first | exact TwoW.all (by assumption) | exact TwoW.all (TwoW.drw (by assumption))) (first | (go_at_call 15; (with_reducible refine (HF1.out _ ?_).mono ?_); refine TwoW.tab (TwoW.of (w := w) (o := o) (a := a) (b := b) (c := c) (i := i) (o2 := o) (a2 := a) (b2 := b) (c2 := c2) (i2 := i2) ?_); assumption; rintro e w9 ⟨rfl, hb9⟩; have hE9 := TwoW.next (TwoW.of (w := w) (o := o) (a := a) (b := b) (c := c) (i := i) (o2 := o) (a2 := a) (b2 := b) (c2 := c2) (i2 := i2) (by assumption)) hb9; clear hb9) | (go_at_call 16; (with_reducible refine (HN1.out _ ?_).mono ?_); refine TwoW.tab (TwoW.of (w := w) (o := o) (a := a) (b := b) (c := c) (i := i) (o2 := o) (a2 := a) (b2 := b) (c2 := c2) (i2 := i2) ?_); assumption; rintro e w9 ⟨rfl, hb9⟩; have hE9 := TwoW.next (TwoW.of (w := w) (o := o) (a := a) (b := b) (c := c) (i := i) (o2 := o) (a2 := a) (b2 := b) (c2 := c2) (i2 := i2) (by assumption)) hb9; clear hb9))
  all_goals have hM := TwoW.of (w := w) (o := o) (a := a) (b := b) (c := c) (i := i) (o2 := o) (a2 := a) (b2 := b) (c2 := c2) (i2 := i2) (by assumption)
  all_goals go_wp2_with (go_at_call 12; (with_reducible refine (awake_any _ ?_).mono ?_); refine TwoW.tab (w := w) (o := o) (a := a) (b := b) (c := c) (i := i) (o2 := o) (a2 := a) (b2 := b) (c2 := c2) (i2 := i2) ?_; assumption; rintro e w10 ⟨rfl, hb⟩; have hL := TwoW.next (w := w) (o := o) (a := a) (b := b) (c := c) (i := i) (o2 := o) (a2 := a) (b2 := b) (c2 := c2) (i2 := i2) (by assumption) hb)
  all_goals go_ret
  all_goals exact ⟨rfl, hL.bel⟩

set_option maxHeartbeats 1600000 in
set_option maxRecDepth 100000 in
theorem ap_diff4_opsame (x y o a b c i o2 a2 b2 c2 i2 f g : Int) (n m : ByteArray) (w : World) (ht : Tab w) (HE1 : ∀ w, Tab w → Calls Tryd.prog 10 #[.agg #[.int .i64 o, .int .i64 a, .int .i64 b, .int .i64 c, .int .i64 i]] w fun e w' => e = .returned (.tuple #[.int .u32 x, .int .i64 0]) ∧ Below w.heap.size w w') (HE2 : ∀ w, Tab w → Calls Tryd.prog 10 #[.agg #[.int .i64 o, .int .i64 a, .int .i64 b, .int .i64 c, .int .i64 i2]] w fun e w' => e = .returned (.tuple #[.int .u32 y, .int .i64 0]) ∧ Below w.heap.size w w') (HF1 : ∀ w, Tab w → Calls Tryd.prog 15 #[.int .i64 o] w fun e w' => e = .returned (.int .i64 f) ∧ Below w.heap.size w w') (HN1 : ∀ w, Tab w → Calls Tryd.prog 16 #[.int .i64 o] w fun e w' => e = .returned (.string n) ∧ Below w.heap.size w w') (hf1 : (f == 0) = false) (hf2 : (f != 0) = true) (hxy : (x == y) = false) (hij : (i == i2) = false) :
    Calls Tryd.prog 7 #[.agg #[.int .i64 o, .int .i64 a, .int .i64 b, .int .i64 c, .int .i64 i], .agg #[.int .i64 o, .int .i64 a, .int .i64 b, .int .i64 c, .int .i64 i2]] w fun e w' => e = .returned (.bool true) ∧ Below w.heap.size w w' := by
  have hu23 := Tryd.underlying23
  have hE0 := TwoW.start (o := o) (a := a) (b := b) (c := c) (i := i) (o2 := o) (a2 := a) (b2 := b) (c2 := c) (i2 := i2) ht
  have HE1 := Aside0.mk HE1
  have HE2 := Aside0.mk HE2
  have HF1 := Aside0.mk HF1
  have HN1 := Aside0.mk HN1
  clear ht
  go_enter Tryd.func7, Tryd.ntmps7
  go_wp2_with (first | (go_at_call 10; (with_reducible refine (HE1.out _ ?_).mono ?_); (refine TwoW.tab (w := w) (o := o) (a := a) (b := b) (c := c) (i := i) (o2 := o) (a2 := a) (b2 := b) (c2 := c) (i2 := i2) ?_; assumption); rintro e w9 ⟨rfl, hb9⟩; have hE := TwoW.next (w := w) (o := o) (a := a) (b := b) (c := c) (i := i) (o2 := o) (a2 := a) (b2 := b) (c2 := c) (i2 := i2) (by assumption) hb9; clear hb9; have kc0 := hE.p0; have kd0 := hE.q0; have kc1 := hE.p1; have kd1 := hE.q1; have kc2 := hE.p2; have kd2 := hE.q2; have kc3 := hE.p3; have kd3 := hE.q3; have kc4 := hE.p4; have kd4 := hE.q4) | (go_at_call 10; (with_reducible refine (HE2.out _ ?_).mono ?_); (refine TwoW.tab (w := w) (o := o) (a := a) (b := b) (c := c) (i := i) (o2 := o) (a2 := a) (b2 := b) (c2 := c) (i2 := i2) ?_; assumption); rintro e w9 ⟨rfl, hb9⟩; have hE := TwoW.next (w := w) (o := o) (a := a) (b := b) (c := c) (i := i) (o2 := o) (a2 := a) (b2 := b) (c2 := c) (i2 := i2) (by assumption) hb9; clear hb9; have kc0 := hE.p0; have kd0 := hE.q0; have kc1 := hE.p1; have kd1 := hE.q1; have kc2 := hE.p2; have kd2 := hE.q2; have kc3 := hE.p3; have kd3 := hE.q3; have kc4 := hE.p4; have kd4 := hE.q4))
  go_region_held3 (fun w' => w'.cell? ⟨w.heap.size, 0, none⟩ = some (.int .i64 o) ∧ w'.cell? ⟨w.heap.size + 1, 0, none⟩ = some (.int .i64 o) ∧ TwoW w w' o a b c i o a b c i2) (first | exact TwoW.all (by assumption) | exact TwoW.all (TwoW.drw (by assumption))) (first | (go_at_call 15; (with_reducible refine (HF1.out _ ?_).mono ?_); refine TwoW.tab (TwoW.of (w := w) (o := o) (a := a) (b := b) (c := c) (i := i) (o2 := o) (a2 := a) (b2 := b) (c2 := c) (i2 := i2) ?_); assumption; rintro e w9 ⟨rfl, hb9⟩; have hE9 := TwoW.next (TwoW.of (w := w) (o := o) (a := a) (b := b) (c := c) (i := i) (o2 := o) (a2 := a) (b2 := b) (c2 := c) (i2 := i2) (by assumption)) hb9; clear hb9) | (go_at_call 16; (with_reducible refine (HN1.out _ ?_).mono ?_); refine TwoW.tab (TwoW.of (w := w) (o := o) (a := a) (b := b) (c := c) (i := i) (o2 := o) (a2 := a) (b2 := b) (c2 := c) (i2 := i2) ?_); assumption; rintro e w9 ⟨rfl, hb9⟩; have hE9 := TwoW.next (TwoW.of (w := w) (o := o) (a := a) (b := b) (c := c) (i := i) (o2 := o) (a2 := a) (b2 := b) (c2 := c) (i2 := i2) (by assumption)) hb9; clear hb9))
  all_goals have hM := TwoW.of (w := w) (o := o) (a := a) (b := b) (c := c) (i := i) (o2 := o) (a2 := a) (b2 := b) (c2 := c) (i2 := i2) (by assumption)
  all_goals go_wp2_with (go_at_call 12; (with_reducible refine (awake_any _ ?_).mono ?_); refine TwoW.tab (w := w) (o := o) (a := a) (b := b) (c := c) (i := i) (o2 := o) (a2 := a) (b2 := b) (c2 := c) (i2 := i2) ?_; assumption; rintro e w10 ⟨rfl, hb⟩; have hL := TwoW.next (w := w) (o := o) (a := a) (b := b) (c := c) (i := i) (o2 := o) (a2 := a) (b2 := b) (c2 := c) (i2 := i2) (by assumption) hb)
  all_goals go_ret
  all_goals exact ⟨rfl, hL.bel⟩

set_option maxHeartbeats 1600000 in
set_option maxRecDepth 100000 in
theorem ap_diff_opdiff (x y o a b c i o2 a2 b2 c2 i2 f g : Int) (n m : ByteArray) (w : World) (ht : Tab w) (HE1 : ∀ w, Tab w → Calls Tryd.prog 10 #[.agg #[.int .i64 o, .int .i64 a, .int .i64 b, .int .i64 c, .int .i64 i]] w fun e w' => e = .returned (.tuple #[.int .u32 x, .int .i64 0]) ∧ Below w.heap.size w w') (HE2 : ∀ w, Tab w → Calls Tryd.prog 10 #[.agg #[.int .i64 o2, .int .i64 a2, .int .i64 b2, .int .i64 c2, .int .i64 i2]] w fun e w' => e = .returned (.tuple #[.int .u32 y, .int .i64 0]) ∧ Below w.heap.size w w') (HF1 : ∀ w, Tab w → Calls Tryd.prog 15 #[.int .i64 o] w fun e w' => e = .returned (.int .i64 f) ∧ Below w.heap.size w w') (HF2 : ∀ w, Tab w → Calls Tryd.prog 15 #[.int .i64 o2] w fun e w' => e = .returned (.int .i64 g) ∧ Below w.heap.size w w') (HN1 : ∀ w, Tab w → Calls Tryd.prog 16 #[.int .i64 o] w fun e w' => e = .returned (.string n) ∧ Below w.heap.size w w') (HN2 : ∀ w, Tab w → Calls Tryd.prog 16 #[.int .i64 o2] w fun e w' => e = .returned (.string m) ∧ Below w.heap.size w w') (hf1 : (f == 0) = false) (hf2 : (f != 0) = true) (hg1 : (g == 0) = false) (hg2 : (g != 0) = true) (ho : (o == o2) = false) (hn : (n.toList == m.toList) = false) (hxy : (x == y) = false) (hij : (o == o2 && (a == a2 && (b == b2 && (c == c2 && i == i2)))) = false) :
    Calls Tryd.prog 7 #[.agg #[.int .i64 o, .int .i64 a, .int .i64 b, .int .i64 c, .int .i64 i], .agg #[.int .i64 o2, .int .i64 a2, .int .i64 b2, .int .i64 c2, .int .i64 i2]] w fun e w' => e = .returned (.bool true) ∧ Below w.heap.size w w' := by
  have hu23 := Tryd.underlying23
  have hE0 := TwoW.start (o := o) (a := a) (b := b) (c := c) (i := i) (o2 := o2) (a2 := a2) (b2 := b2) (c2 := c2) (i2 := i2) ht
  have HE1 := Aside0.mk HE1
  have HE2 := Aside0.mk HE2
  have HF1 := Aside0.mk HF1
  have HF2 := Aside0.mk HF2
  have HN1 := Aside0.mk HN1
  have HN2 := Aside0.mk HN2
  clear ht
  go_enter Tryd.func7, Tryd.ntmps7
  go_wp2_with (first | (go_at_call 10; (with_reducible refine (HE1.out _ ?_).mono ?_); (refine TwoW.tab (w := w) (o := o) (a := a) (b := b) (c := c) (i := i) (o2 := o2) (a2 := a2) (b2 := b2) (c2 := c2) (i2 := i2) ?_; assumption); rintro e w9 ⟨rfl, hb9⟩; have hE := TwoW.next (w := w) (o := o) (a := a) (b := b) (c := c) (i := i) (o2 := o2) (a2 := a2) (b2 := b2) (c2 := c2) (i2 := i2) (by assumption) hb9; clear hb9; have kc0 := hE.p0; have kd0 := hE.q0; have kc1 := hE.p1; have kd1 := hE.q1; have kc2 := hE.p2; have kd2 := hE.q2; have kc3 := hE.p3; have kd3 := hE.q3; have kc4 := hE.p4; have kd4 := hE.q4) | (go_at_call 10; (with_reducible refine (HE2.out _ ?_).mono ?_); (refine TwoW.tab (w := w) (o := o) (a := a) (b := b) (c := c) (i := i) (o2 := o2) (a2 := a2) (b2 := b2) (c2 := c2) (i2 := i2) ?_; assumption); rintro e w9 ⟨rfl, hb9⟩; have hE := TwoW.next (w := w) (o := o) (a := a) (b := b) (c := c) (i := i) (o2 := o2) (a2 := a2) (b2 := b2) (c2 := c2) (i2 := i2) (by assumption) hb9; clear hb9; have kc0 := hE.p0; have kd0 := hE.q0; have kc1 := hE.p1; have kd1 := hE.q1; have kc2 := hE.p2; have kd2 := hE.q2; have kc3 := hE.p3; have kd3 := hE.q3; have kc4 := hE.p4; have kd4 := hE.q4))
  go_region_held3 (fun w' => w'.cell? ⟨w.heap.size, 0, none⟩ = some (.int .i64 o) ∧ w'.cell? ⟨w.heap.size + 1, 0, none⟩ = some (.int .i64 o2) ∧ TwoW w w' o a b c i o2 a2 b2 c2 i2) (first | exact TwoW.all (by assumption) | exact TwoW.all (TwoW.drw (by assumption))) (first | (go_at_call 15; (with_reducible refine (HF1.out _ ?_).mono ?_); refine TwoW.tab (TwoW.of (w := w) (o := o) (a := a) (b := b) (c := c) (i := i) (o2 := o2) (a2 := a2) (b2 := b2) (c2 := c2) (i2 := i2) ?_); assumption; rintro e w9 ⟨rfl, hb9⟩; have hE9 := TwoW.next (TwoW.of (w := w) (o := o) (a := a) (b := b) (c := c) (i := i) (o2 := o2) (a2 := a2) (b2 := b2) (c2 := c2) (i2 := i2) (by assumption)) hb9; clear hb9) | (go_at_call 15; (with_reducible refine (HF2.out _ ?_).mono ?_); refine TwoW.tab (TwoW.of (w := w) (o := o) (a := a) (b := b) (c := c) (i := i) (o2 := o2) (a2 := a2) (b2 := b2) (c2 := c2) (i2 := i2) ?_); assumption; rintro e w9 ⟨rfl, hb9⟩; have hE9 := TwoW.next (TwoW.of (w := w) (o := o) (a := a) (b := b) (c := c) (i := i) (o2 := o2) (a2 := a2) (b2 := b2) (c2 := c2) (i2 := i2) (by assumption)) hb9; clear hb9) | (go_at_call 16; (with_reducible refine (HN1.out _ ?_).mono ?_); refine TwoW.tab (TwoW.of (w := w) (o := o) (a := a) (b := b) (c := c) (i := i) (o2 := o2) (a2 := a2) (b2 := b2) (c2 := c2) (i2 := i2) ?_); assumption; rintro e w9 ⟨rfl, hb9⟩; have hE9 := TwoW.next (TwoW.of (w := w) (o := o) (a := a) (b := b) (c := c) (i := i) (o2 := o2) (a2 := a2) (b2 := b2) (c2 := c2) (i2 := i2) (by assumption)) hb9; clear hb9) | (go_at_call 16; (with_reducible refine (HN2.out _ ?_).mono ?_); refine TwoW.tab (TwoW.of (w := w) (o := o) (a := a) (b := b) (c := c) (i := i) (o2 := o2) (a2 := a2) (b2 := b2) (c2 := c2) (i2 := i2) ?_); assumption; rintro e w9 ⟨rfl, hb9⟩; have hE9 := TwoW.next (TwoW.of (w := w) (o := o) (a := a) (b := b) (c := c) (i := i) (o2 := o2) (a2 := a2) (b2 := b2) (c2 := c2) (i2 := i2) (by assumption)) hb9; clear hb9))
  all_goals have hM := TwoW.of (w := w) (o := o) (a := a) (b := b) (c := c) (i := i) (o2 := o2) (a2 := a2) (b2 := b2) (c2 := c2) (i2 := i2) (by assumption)
  all_goals go_wp2_with (go_at_call 12; (with_reducible refine (awake_any _ ?_).mono ?_); refine TwoW.tab (w := w) (o := o) (a := a) (b := b) (c := c) (i := i) (o2 := o2) (a2 := a2) (b2 := b2) (c2 := c2) (i2 := i2) ?_; assumption; rintro e w10 ⟨rfl, hb⟩; have hL := TwoW.next (w := w) (o := o) (a := a) (b := b) (c := c) (i := i) (o2 := o2) (a2 := a2) (b2 := b2) (c2 := c2) (i2 := i2) (by assumption) hb)
  all_goals go_ret
  all_goals exact ⟨rfl, hL.bel⟩

set_option maxHeartbeats 1600000 in
set_option maxRecDepth 100000 in
theorem ap_tf_f0 (x y o a b c i o2 a2 b2 c2 i2 f g : Int) (n m : ByteArray) (w : World) (ht : Tab w) (HE1 : ∀ w, Tab w → Calls Tryd.prog 10 #[.agg #[.int .i64 o, .int .i64 a, .int .i64 b, .int .i64 c, .int .i64 i]] w fun e w' => e = .returned (.tuple #[.int .u32 x, .int .i64 0]) ∧ Below w.heap.size w w') (HE2 : ∀ w, Tab w → Calls Tryd.prog 10 #[.agg #[.int .i64 o2, .int .i64 a2, .int .i64 b2, .int .i64 c2, .int .i64 i2]] w fun e w' => e = .returned (.tuple #[.int .u32 0, .int .i64 21]) ∧ Below w.heap.size w w') (HF1 : ∀ w, Tab w → Calls Tryd.prog 15 #[.int .i64 o] w fun e w' => e = .returned (.int .i64 0) ∧ Below w.heap.size w w')  :
    Calls Tryd.prog 7 #[.agg #[.int .i64 o, .int .i64 a, .int .i64 b, .int .i64 c, .int .i64 i], .agg #[.int .i64 o2, .int .i64 a2, .int .i64 b2, .int .i64 c2, .int .i64 i2]] w fun e w' => e = .returned (.bool true) ∧ Below w.heap.size w w' := by
  have hu23 := Tryd.underlying23
  have hE0 := TwoW.start (o := o) (a := a) (b := b) (c := c) (i := i) (o2 := o2) (a2 := a2) (b2 := b2) (c2 := c2) (i2 := i2) ht
  have HE1 := Aside0.mk HE1
  have HE2 := Aside0.mk HE2
  have HF1 := Aside0.mk HF1
  clear ht
  go_enter Tryd.func7, Tryd.ntmps7
  go_wp2_with (first | (go_at_call 10; (with_reducible refine (HE1.out _ ?_).mono ?_); (refine TwoW.tab (w := w) (o := o) (a := a) (b := b) (c := c) (i := i) (o2 := o2) (a2 := a2) (b2 := b2) (c2 := c2) (i2 := i2) ?_; assumption); rintro e w9 ⟨rfl, hb9⟩; have hE := TwoW.next (w := w) (o := o) (a := a) (b := b) (c := c) (i := i) (o2 := o2) (a2 := a2) (b2 := b2) (c2 := c2) (i2 := i2) (by assumption) hb9; clear hb9; have kc0 := hE.p0; have kd0 := hE.q0; have kc1 := hE.p1; have kd1 := hE.q1; have kc2 := hE.p2; have kd2 := hE.q2; have kc3 := hE.p3; have kd3 := hE.q3; have kc4 := hE.p4; have kd4 := hE.q4) | (go_at_call 10; (with_reducible refine (HE2.out _ ?_).mono ?_); (refine TwoW.tab (w := w) (o := o) (a := a) (b := b) (c := c) (i := i) (o2 := o2) (a2 := a2) (b2 := b2) (c2 := c2) (i2 := i2) ?_; assumption); rintro e w9 ⟨rfl, hb9⟩; have hE := TwoW.next (w := w) (o := o) (a := a) (b := b) (c := c) (i := i) (o2 := o2) (a2 := a2) (b2 := b2) (c2 := c2) (i2 := i2) (by assumption) hb9; clear hb9; have kc0 := hE.p0; have kd0 := hE.q0; have kc1 := hE.p1; have kd1 := hE.q1; have kc2 := hE.p2; have kd2 := hE.q2; have kc3 := hE.p3; have kd3 := hE.q3; have kc4 := hE.p4; have kd4 := hE.q4))
  have hD := TwoW.drw hE
  have k0 := hD.p0
  have k1 := hD.q0
  refine wp_region_noPanic ?_
  refine wp_region_any (by kernel_rfl) ?_
  change wpAny _ _ _ _ _ _ _ (World.drew _)
  refine wpAny_ready (rs := [0]) (by kernel_rfl) (by simp) ?_
  refine AllReady.cons rfl (fun K hK => ?_) AllReady.nil
  go_simp
  refine hK _ _ ?_
  clear hK K
  refine wpAny_ready (rs := [1]) (by kernel_rfl) (by simp) ?_
  refine AllReady.cons rfl (fun K hK => ?_) AllReady.nil
  go_simp
  refine hK _ _ ?_
  clear hK K
  refine wpAny_ready (rs := [2]) (by kernel_rfl) (by simp) ?_
  refine AllReady.cons rfl (fun K hK => ?_) AllReady.nil
  go_simp
  refine (HF1.out _ ?_).mono ?_; exact hD.tab; rintro e w11 ⟨rfl, hb11⟩; have hG := TwoW.next hD hb11; clear hb11; have k2 := hG.q0
  go_simp
  refine hK _ _ ?_
  clear hK K
  refine wpAny_ready (rs := [3]) (by kernel_rfl) (by simp) ?_
  refine AllReady.cons rfl (fun K hK => ?_) AllReady.nil
  go_simp
  refine hK _ _ ?_
  clear hK K
  refine wpAny_ready (rs := [4]) (by kernel_rfl) (by simp) ?_
  refine AllReady.cons rfl (fun K hK => ?_) AllReady.nil
  go_simp
  refine hK _ _ ?_
  clear hK K
  refine wpAny_take (i := 5) (v := undef) rfl (by kernel_rfl) (by kernel_rfl) (by kernel_rfl) (fun _ _ _ h => h) (Or.inr ⟨by kernel_rfl, by kernel_rfl⟩) ?_
  refine wpAny_take (i := 6) (v := undef) rfl (by kernel_rfl) (by kernel_rfl) (by kernel_rfl) (fun _ _ _ h => h) (Or.inr ⟨by kernel_rfl, by kernel_rfl⟩) ?_
  refine wpAny_take (i := 7) (v := undef) rfl (by kernel_rfl) (by kernel_rfl) (by kernel_rfl) (fun _ _ _ h => h) (Or.inr ⟨by kernel_rfl, by kernel_rfl⟩) ?_
  refine wpAny_take (i := 8) (v := undef) rfl (by kernel_rfl) (by kernel_rfl) (by kernel_rfl) (fun _ _ _ h => h) (Or.inr ⟨by kernel_rfl, by kernel_rfl⟩) ?_
  refine wpAny_ready (rs := [9]) (by kernel_rfl) (by simp) ?_
  refine AllReady.cons rfl (fun K hK => ?_) AllReady.nil
  go_simp
  refine hK _ _ ?_
  clear hK K
  refine wpAny_ready (rs := [10]) (by kernel_rfl) (by simp) ?_
  refine AllReady.cons rfl (fun K hK => ?_) AllReady.nil
  go_simp
  refine hK _ _ ?_
  clear hK K
  refine wpAny_take (i := 11) (v := undef) rfl (by kernel_rfl) (by kernel_rfl) (by kernel_rfl) (fun _ _ _ h => h) (Or.inr ⟨by kernel_rfl, by kernel_rfl⟩) ?_
  refine wpAny_take (i := 12) (v := undef) rfl (by kernel_rfl) (by kernel_rfl) (by kernel_rfl) (fun _ _ _ h => h) (Or.inr ⟨by kernel_rfl, by kernel_rfl⟩) ?_
  refine wpAny_take (i := 13) (v := undef) rfl (by kernel_rfl) (by kernel_rfl) (by kernel_rfl) (fun _ _ _ h => h) (Or.inr ⟨by kernel_rfl, by kernel_rfl⟩) ?_
  refine wpAny_take (i := 14) (v := undef) rfl (by kernel_rfl) (by kernel_rfl) (by kernel_rfl) (fun _ _ _ h => h) (Or.inr ⟨by kernel_rfl, by kernel_rfl⟩) ?_
  refine wpAny_take (i := 15) (v := undef) rfl (by kernel_rfl) (by kernel_rfl) (by kernel_rfl) (fun _ _ _ h => h) (Or.inr ⟨by kernel_rfl, by kernel_rfl⟩) ?_
  refine wpAny_take (i := 16) (v := undef) rfl (by kernel_rfl) (by kernel_rfl) (by kernel_rfl) (fun _ _ _ h => h) (Or.inr ⟨by kernel_rfl, by kernel_rfl⟩) ?_
  refine wpAny_take (i := 17) (v := undef) rfl (by kernel_rfl) (by kernel_rfl) (by kernel_rfl) (fun _ _ _ h => h) (Or.inr ⟨by kernel_rfl, by kernel_rfl⟩) ?_
  refine wpAny_take (i := 18) (v := undef) rfl (by kernel_rfl) (by kernel_rfl) (by kernel_rfl) (fun _ _ _ h => h) (Or.inr ⟨by kernel_rfl, by kernel_rfl⟩) ?_
  refine wpAny_take (i := 19) (v := undef) rfl (by kernel_rfl) (by kernel_rfl) (by kernel_rfl) (fun _ _ _ h => h) (Or.inr ⟨by kernel_rfl, by kernel_rfl⟩) ?_
  refine wpAny_take (i := 20) (v := undef) rfl (by kernel_rfl) (by kernel_rfl) (by kernel_rfl) (fun _ _ _ h => h) (Or.inr ⟨by kernel_rfl, by kernel_rfl⟩) ?_
  refine wpAny_take (i := 21) (v := undef) rfl (by kernel_rfl) (by kernel_rfl) (by kernel_rfl) (fun _ _ _ h => h) (Or.inr ⟨by kernel_rfl, by kernel_rfl⟩) ?_
  refine wpAny_take (i := 22) (v := undef) rfl (by kernel_rfl) (by kernel_rfl) (by kernel_rfl) (fun _ _ _ h => h) (Or.inr ⟨by kernel_rfl, by kernel_rfl⟩) ?_
  refine wpAny_take (i := 23) (v := undef) rfl (by kernel_rfl) (by kernel_rfl) (by kernel_rfl) (fun _ _ _ h => h) (Or.inr ⟨by kernel_rfl, by kernel_rfl⟩) ?_
  refine wpAny_ready (rs := [24]) (by kernel_rfl) (by simp) ?_
  refine AllReady.cons rfl (fun K hK => ?_) AllReady.nil
  go_simp
  refine hK _ _ ?_
  clear hK K
  refine wpAny_done (by kernel_rfl) ?_ _
  refine NoPanic.normal ?_
  go_wp2_with (go_at_call 12; (with_reducible refine (awake_any _ ?_).mono ?_); refine TwoW.tab (w := w) (o := o) (a := a) (b := b) (c := c) (i := i) (o2 := o2) (a2 := a2) (b2 := b2) (c2 := c2) (i2 := i2) ?_; assumption; rintro e w10 ⟨rfl, hb⟩; have hL := TwoW.next (w := w) (o := o) (a := a) (b := b) (c := c) (i := i) (o2 := o2) (a2 := a2) (b2 := b2) (c2 := c2) (i2 := i2) (by assumption) hb)
  go_ret
  exact ⟨rfl, hL.bel⟩

set_option maxHeartbeats 1600000 in
set_option maxRecDepth 100000 in
theorem ap_tf_g0 (x y o a b c i o2 a2 b2 c2 i2 f g : Int) (n m : ByteArray) (w : World) (ht : Tab w) (HE1 : ∀ w, Tab w → Calls Tryd.prog 10 #[.agg #[.int .i64 o, .int .i64 a, .int .i64 b, .int .i64 c, .int .i64 i]] w fun e w' => e = .returned (.tuple #[.int .u32 x, .int .i64 0]) ∧ Below w.heap.size w w') (HE2 : ∀ w, Tab w → Calls Tryd.prog 10 #[.agg #[.int .i64 o2, .int .i64 a2, .int .i64 b2, .int .i64 c2, .int .i64 i2]] w fun e w' => e = .returned (.tuple #[.int .u32 0, .int .i64 21]) ∧ Below w.heap.size w w') (HF1 : ∀ w, Tab w → Calls Tryd.prog 15 #[.int .i64 o] w fun e w' => e = .returned (.int .i64 f) ∧ Below w.heap.size w w') (HF2 : ∀ w, Tab w → Calls Tryd.prog 15 #[.int .i64 o2] w fun e w' => e = .returned (.int .i64 0) ∧ Below w.heap.size w w') (hf1 : (f == 0) = false) (hf2 : (f != 0) = true) :
    Calls Tryd.prog 7 #[.agg #[.int .i64 o, .int .i64 a, .int .i64 b, .int .i64 c, .int .i64 i], .agg #[.int .i64 o2, .int .i64 a2, .int .i64 b2, .int .i64 c2, .int .i64 i2]] w fun e w' => e = .returned (.bool true) ∧ Below w.heap.size w w' := by
  have hu23 := Tryd.underlying23
  have hE0 := TwoW.start (o := o) (a := a) (b := b) (c := c) (i := i) (o2 := o2) (a2 := a2) (b2 := b2) (c2 := c2) (i2 := i2) ht
  have HE1 := Aside0.mk HE1
  have HE2 := Aside0.mk HE2
  have HF1 := Aside0.mk HF1
  have HF2 := Aside0.mk HF2
  clear ht
  go_enter Tryd.func7, Tryd.ntmps7
  go_wp2_with (first | (go_at_call 10; (with_reducible refine (HE1.out _ ?_).mono ?_); (refine TwoW.tab (w := w) (o := o) (a := a) (b := b) (c := c) (i := i) (o2 := o2) (a2 := a2) (b2 := b2) (c2 := c2) (i2 := i2) ?_; assumption); rintro e w9 ⟨rfl, hb9⟩; have hE := TwoW.next (w := w) (o := o) (a := a) (b := b) (c := c) (i := i) (o2 := o2) (a2 := a2) (b2 := b2) (c2 := c2) (i2 := i2) (by assumption) hb9; clear hb9; have kc0 := hE.p0; have kd0 := hE.q0; have kc1 := hE.p1; have kd1 := hE.q1; have kc2 := hE.p2; have kd2 := hE.q2; have kc3 := hE.p3; have kd3 := hE.q3; have kc4 := hE.p4; have kd4 := hE.q4) | (go_at_call 10; (with_reducible refine (HE2.out _ ?_).mono ?_); (refine TwoW.tab (w := w) (o := o) (a := a) (b := b) (c := c) (i := i) (o2 := o2) (a2 := a2) (b2 := b2) (c2 := c2) (i2 := i2) ?_; assumption); rintro e w9 ⟨rfl, hb9⟩; have hE := TwoW.next (w := w) (o := o) (a := a) (b := b) (c := c) (i := i) (o2 := o2) (a2 := a2) (b2 := b2) (c2 := c2) (i2 := i2) (by assumption) hb9; clear hb9; have kc0 := hE.p0; have kd0 := hE.q0; have kc1 := hE.p1; have kd1 := hE.q1; have kc2 := hE.p2; have kd2 := hE.q2; have kc3 := hE.p3; have kd3 := hE.q3; have kc4 := hE.p4; have kd4 := hE.q4))
  have hD := TwoW.drw hE
  have k0 := hD.p0
  have k1 := hD.q0
  refine wp_region_noPanic ?_
  refine wp_region_any (by kernel_rfl) ?_
  change wpAny _ _ _ _ _ _ _ (World.drew _)
  refine wpAny_ready (rs := [0]) (by kernel_rfl) (by simp) ?_
  refine AllReady.cons rfl (fun K hK => ?_) AllReady.nil
  go_simp
  refine hK _ _ ?_
  clear hK K
  refine wpAny_ready (rs := [1]) (by kernel_rfl) (by simp) ?_
  refine AllReady.cons rfl (fun K hK => ?_) AllReady.nil
  go_simp
  refine hK _ _ ?_
  clear hK K
  refine wpAny_ready (rs := [2]) (by kernel_rfl) (by simp) ?_
  refine AllReady.cons rfl (fun K hK => ?_) AllReady.nil
  go_simp
  refine (HF1.out _ ?_).mono ?_; exact hD.tab; rintro e w11 ⟨rfl, hb11⟩; have hG := TwoW.next hD hb11; clear hb11; have k2 := hG.q0
  go_simp
  refine hK _ _ ?_
  clear hK K
  refine wpAny_ready (rs := [3]) (by kernel_rfl) (by simp) ?_
  refine AllReady.cons rfl (fun K hK => ?_) AllReady.nil
  go_simp
  refine hK _ _ ?_
  clear hK K
  refine wpAny_ready (rs := [4]) (by kernel_rfl) (by simp) ?_
  refine AllReady.cons rfl (fun K hK => ?_) AllReady.nil
  go_simp
  refine hK _ _ ?_
  clear hK K
  refine wpAny_ready (rs := [5]) (by kernel_rfl) (by simp) ?_
  refine AllReady.cons rfl (fun K hK => ?_) AllReady.nil
  go_simp
  refine hK _ _ ?_
  clear hK K
  refine wpAny_ready (rs := [6]) (by kernel_rfl) (by simp) ?_
  refine AllReady.cons rfl (fun K hK => ?_) AllReady.nil
  go_simp
  refine hK _ _ ?_
  clear hK K
  refine wpAny_ready (rs := [7]) (by kernel_rfl) (by simp) ?_
  refine AllReady.cons rfl (fun K hK => ?_) AllReady.nil
  go_simp
  refine (HF2.out _ ?_).mono ?_; exact hG.tab; rintro e w12 ⟨rfl, hb12⟩; have hI := TwoW.next hG hb12; clear hb12
  go_simp
  refine hK _ _ ?_
  clear hK K
  refine wpAny_ready (rs := [8]) (by kernel_rfl) (by simp) ?_
  refine AllReady.cons rfl (fun K hK => ?_) AllReady.nil
  go_simp
  refine hK _ _ ?_
  clear hK K
  refine wpAny_ready (rs := [9]) (by kernel_rfl) (by simp) ?_
  refine AllReady.cons rfl (fun K hK => ?_) AllReady.nil
  go_simp
  refine hK _ _ ?_
  clear hK K
  refine wpAny_ready (rs := [10]) (by kernel_rfl) (by simp) ?_
  refine AllReady.cons rfl (fun K hK => ?_) AllReady.nil
  go_simp
  refine hK _ _ ?_
  clear hK K
  refine wpAny_take (i := 11) (v := undef) rfl (by kernel_rfl) (by kernel_rfl) (by kernel_rfl) (fun _ _ _ h => h) (Or.inr ⟨by kernel_rfl, by kernel_rfl⟩) ?_
  refine wpAny_take (i := 12) (v := undef) rfl (by kernel_rfl) (by kernel_rfl) (by kernel_rfl) (fun _ _ _ h => h) (Or.inr ⟨by kernel_rfl, by kernel_rfl⟩) ?_
  refine wpAny_take (i := 13) (v := undef) rfl (by kernel_rfl) (by kernel_rfl) (by kernel_rfl) (fun _ _ _ h => h) (Or.inr ⟨by kernel_rfl, by kernel_rfl⟩) ?_
  refine wpAny_take (i := 14) (v := undef) rfl (by kernel_rfl) (by kernel_rfl) (by kernel_rfl) (fun _ _ _ h => h) (Or.inr ⟨by kernel_rfl, by kernel_rfl⟩) ?_
  refine wpAny_take (i := 15) (v := undef) rfl (by kernel_rfl) (by kernel_rfl) (by kernel_rfl) (fun _ _ _ h => h) (Or.inr ⟨by kernel_rfl, by kernel_rfl⟩) ?_
  refine wpAny_take (i := 16) (v := undef) rfl (by kernel_rfl) (by kernel_rfl) (by kernel_rfl) (fun _ _ _ h => h) (Or.inr ⟨by kernel_rfl, by kernel_rfl⟩) ?_
  refine wpAny_take (i := 17) (v := undef) rfl (by kernel_rfl) (by kernel_rfl) (by kernel_rfl) (fun _ _ _ h => h) (Or.inr ⟨by kernel_rfl, by kernel_rfl⟩) ?_
  refine wpAny_take (i := 18) (v := undef) rfl (by kernel_rfl) (by kernel_rfl) (by kernel_rfl) (fun _ _ _ h => h) (Or.inr ⟨by kernel_rfl, by kernel_rfl⟩) ?_
  refine wpAny_take (i := 19) (v := undef) rfl (by kernel_rfl) (by kernel_rfl) (by kernel_rfl) (fun _ _ _ h => h) (Or.inr ⟨by kernel_rfl, by kernel_rfl⟩) ?_
  refine wpAny_take (i := 20) (v := undef) rfl (by kernel_rfl) (by kernel_rfl) (by kernel_rfl) (fun _ _ _ h => h) (Or.inr ⟨by kernel_rfl, by kernel_rfl⟩) ?_
  refine wpAny_take (i := 21) (v := undef) rfl (by kernel_rfl) (by kernel_rfl) (by kernel_rfl) (fun _ _ _ h => h) (Or.inr ⟨by kernel_rfl, by kernel_rfl⟩) ?_
  refine wpAny_take (i := 22) (v := undef) rfl (by kernel_rfl) (by kernel_rfl) (by kernel_rfl) (fun _ _ _ h => h) (Or.inr ⟨by kernel_rfl, by kernel_rfl⟩) ?_
  refine wpAny_take (i := 23) (v := undef) rfl (by kernel_rfl) (by kernel_rfl) (by kernel_rfl) (fun _ _ _ h => h) (Or.inr ⟨by kernel_rfl, by kernel_rfl⟩) ?_
  refine wpAny_ready (rs := [24]) (by kernel_rfl) (by simp) ?_
  refine AllReady.cons rfl (fun K hK => ?_) AllReady.nil
  go_simp
  refine hK _ _ ?_
  clear hK K
  refine wpAny_done (by kernel_rfl) ?_ _
  refine NoPanic.normal ?_
  go_wp2_with (go_at_call 12; (with_reducible refine (awake_any _ ?_).mono ?_); refine TwoW.tab (w := w) (o := o) (a := a) (b := b) (c := c) (i := i) (o2 := o2) (a2 := a2) (b2 := b2) (c2 := c2) (i2 := i2) ?_; assumption; rintro e w10 ⟨rfl, hb⟩; have hL := TwoW.next (w := w) (o := o) (a := a) (b := b) (c := c) (i := i) (o2 := o2) (a2 := a2) (b2 := b2) (c2 := c2) (i2 := i2) (by assumption) hb)
  go_ret
  exact ⟨rfl, hL.bel⟩

set_option maxHeartbeats 1600000 in
set_option maxRecDepth 100000 in
theorem ap_tf_opsame (x y o a b c i o2 a2 b2 c2 i2 f g : Int) (n m : ByteArray) (w : World) (ht : Tab w) (HE1 : ∀ w, Tab w → Calls Tryd.prog 10 #[.agg #[.int .i64 o, .int .i64 a, .int .i64 b, .int .i64 c, .int .i64 i]] w fun e w' => e = .returned (.tuple #[.int .u32 x, .int .i64 0]) ∧ Below w.heap.size w w') (HE2 : ∀ w, Tab w → Calls Tryd.prog 10 #[.agg #[.int .i64 o, .int .i64 a2, .int .i64 b2, .int .i64 c2, .int .i64 i2]] w fun e w' => e = .returned (.tuple #[.int .u32 0, .int .i64 21]) ∧ Below w.heap.size w w') (HF1 : ∀ w, Tab w → Calls Tryd.prog 15 #[.int .i64 o] w fun e w' => e = .returned (.int .i64 f) ∧ Below w.heap.size w w') (HN1 : ∀ w, Tab w → Calls Tryd.prog 16 #[.int .i64 o] w fun e w' => e = .returned (.string n) ∧ Below w.heap.size w w') (hf1 : (f == 0) = false) (hf2 : (f != 0) = true) :
    Calls Tryd.prog 7 #[.agg #[.int .i64 o, .int .i64 a, .int .i64 b, .int .i64 c, .int .i64 i], .agg #[.int .i64 o, .int .i64 a2, .int .i64 b2, .int .i64 c2, .int .i64 i2]] w fun e w' => e = .returned (.bool true) ∧ Below w.heap.size w w' := by
  have hu23 := Tryd.underlying23
  have hE0 := TwoW.start (o := o) (a := a) (b := b) (c := c) (i := i) (o2 := o) (a2 := a2) (b2 := b2) (c2 := c2) (i2 := i2) ht
  have HE1 := Aside0.mk HE1
  have HE2 := Aside0.mk HE2
  have HF1 := Aside0.mk HF1
  have HN1 := Aside0.mk HN1
  clear ht
  go_enter Tryd.func7, Tryd.ntmps7
  go_wp2_with (first | (go_at_call 10; (with_reducible refine (HE1.out _ ?_).mono ?_); (refine TwoW.tab (w := w) (o := o) (a := a) (b := b) (c := c) (i := i) (o2 := o) (a2 := a2) (b2 := b2) (c2 := c2) (i2 := i2) ?_; assumption); rintro e w9 ⟨rfl, hb9⟩; have hE := TwoW.next (w := w) (o := o) (a := a) (b := b) (c := c) (i := i) (o2 := o) (a2 := a2) (b2 := b2) (c2 := c2) (i2 := i2) (by assumption) hb9; clear hb9; have kc0 := hE.p0; have kd0 := hE.q0; have kc1 := hE.p1; have kd1 := hE.q1; have kc2 := hE.p2; have kd2 := hE.q2; have kc3 := hE.p3; have kd3 := hE.q3; have kc4 := hE.p4; have kd4 := hE.q4) | (go_at_call 10; (with_reducible refine (HE2.out _ ?_).mono ?_); (refine TwoW.tab (w := w) (o := o) (a := a) (b := b) (c := c) (i := i) (o2 := o) (a2 := a2) (b2 := b2) (c2 := c2) (i2 := i2) ?_; assumption); rintro e w9 ⟨rfl, hb9⟩; have hE := TwoW.next (w := w) (o := o) (a := a) (b := b) (c := c) (i := i) (o2 := o) (a2 := a2) (b2 := b2) (c2 := c2) (i2 := i2) (by assumption) hb9; clear hb9; have kc0 := hE.p0; have kd0 := hE.q0; have kc1 := hE.p1; have kd1 := hE.q1; have kc2 := hE.p2; have kd2 := hE.q2; have kc3 := hE.p3; have kd3 := hE.q3; have kc4 := hE.p4; have kd4 := hE.q4))
  go_region_held3 (fun w' => w'.cell? ⟨w.heap.size, 0, none⟩ = some (.int .i64 o) ∧ w'.cell? ⟨w.heap.size + 1, 0, none⟩ = some (.int .i64 o) ∧ TwoW w w' o a b c i o a2 b2 c2 i2) (first | exact TwoW.all (by assumption) | exact TwoW.all (TwoW.drw (by assumption))) (first | (go_at_call 15; (with_reducible refine (HF1.out _ ?_).mono ?_); refine TwoW.tab (TwoW.of (w := w) (o := o) (a := a) (b := b) (c := c) (i := i) (o2 := o) (a2 := a2) (b2 := b2) (c2 := c2) (i2 := i2) ?_); assumption; rintro e w9 ⟨rfl, hb9⟩; have hE9 := TwoW.next (TwoW.of (w := w) (o := o) (a := a) (b := b) (c := c) (i := i) (o2 := o) (a2 := a2) (b2 := b2) (c2 := c2) (i2 := i2) (by assumption)) hb9; clear hb9) | (go_at_call 16; (with_reducible refine (HN1.out _ ?_).mono ?_); refine TwoW.tab (TwoW.of (w := w) (o := o) (a := a) (b := b) (c := c) (i := i) (o2 := o) (a2 := a2) (b2 := b2) (c2 := c2) (i2 := i2) ?_); assumption; rintro e w9 ⟨rfl, hb9⟩; have hE9 := TwoW.next (TwoW.of (w := w) (o := o) (a := a) (b := b) (c := c) (i := i) (o2 := o) (a2 := a2) (b2 := b2) (c2 := c2) (i2 := i2) (by assumption)) hb9; clear hb9))
  all_goals have hM := TwoW.of (w := w) (o := o) (a := a) (b := b) (c := c) (i := i) (o2 := o) (a2 := a2) (b2 := b2) (c2 := c2) (i2 := i2) (by assumption)
  all_goals go_wp2_with (go_at_call 12; (with_reducible refine (awake_any _ ?_).mono ?_); refine TwoW.tab (w := w) (o := o) (a := a) (b := b) (c := c) (i := i) (o2 := o) (a2 := a2) (b2 := b2) (c2 := c2) (i2 := i2) ?_; assumption; rintro e w10 ⟨rfl, hb⟩; have hL := TwoW.next (w := w) (o := o) (a := a) (b := b) (c := c) (i := i) (o2 := o) (a2 := a2) (b2 := b2) (c2 := c2) (i2 := i2) (by assumption) hb)
  all_goals go_ret
  all_goals exact ⟨rfl, hL.bel⟩

set_option maxHeartbeats 1600000 in
set_option maxRecDepth 100000 in
theorem ap_tf_opdiff (x y o a b c i o2 a2 b2 c2 i2 f g : Int) (n m : ByteArray) (w : World) (ht : Tab w) (HE1 : ∀ w, Tab w → Calls Tryd.prog 10 #[.agg #[.int .i64 o, .int .i64 a, .int .i64 b, .int .i64 c, .int .i64 i]] w fun e w' => e = .returned (.tuple #[.int .u32 x, .int .i64 0]) ∧ Below w.heap.size w w') (HE2 : ∀ w, Tab w → Calls Tryd.prog 10 #[.agg #[.int .i64 o2, .int .i64 a2, .int .i64 b2, .int .i64 c2, .int .i64 i2]] w fun e w' => e = .returned (.tuple #[.int .u32 0, .int .i64 21]) ∧ Below w.heap.size w w') (HF1 : ∀ w, Tab w → Calls Tryd.prog 15 #[.int .i64 o] w fun e w' => e = .returned (.int .i64 f) ∧ Below w.heap.size w w') (HF2 : ∀ w, Tab w → Calls Tryd.prog 15 #[.int .i64 o2] w fun e w' => e = .returned (.int .i64 g) ∧ Below w.heap.size w w') (HN1 : ∀ w, Tab w → Calls Tryd.prog 16 #[.int .i64 o] w fun e w' => e = .returned (.string n) ∧ Below w.heap.size w w') (HN2 : ∀ w, Tab w → Calls Tryd.prog 16 #[.int .i64 o2] w fun e w' => e = .returned (.string m) ∧ Below w.heap.size w w') (hf1 : (f == 0) = false) (hf2 : (f != 0) = true) (hg1 : (g == 0) = false) (hg2 : (g != 0) = true) (ho : (o == o2) = false) (hn : (n.toList == m.toList) = false) :
    Calls Tryd.prog 7 #[.agg #[.int .i64 o, .int .i64 a, .int .i64 b, .int .i64 c, .int .i64 i], .agg #[.int .i64 o2, .int .i64 a2, .int .i64 b2, .int .i64 c2, .int .i64 i2]] w fun e w' => e = .returned (.bool true) ∧ Below w.heap.size w w' := by
  have hu23 := Tryd.underlying23
  have hE0 := TwoW.start (o := o) (a := a) (b := b) (c := c) (i := i) (o2 := o2) (a2 := a2) (b2 := b2) (c2 := c2) (i2 := i2) ht
  have HE1 := Aside0.mk HE1
  have HE2 := Aside0.mk HE2
  have HF1 := Aside0.mk HF1
  have HF2 := Aside0.mk HF2
  have HN1 := Aside0.mk HN1
  have HN2 := Aside0.mk HN2
  clear ht
  go_enter Tryd.func7, Tryd.ntmps7
  go_wp2_with (first | (go_at_call 10; (with_reducible refine (HE1.out _ ?_).mono ?_); (refine TwoW.tab (w := w) (o := o) (a := a) (b := b) (c := c) (i := i) (o2 := o2) (a2 := a2) (b2 := b2) (c2 := c2) (i2 := i2) ?_; assumption); rintro e w9 ⟨rfl, hb9⟩; have hE := TwoW.next (w := w) (o := o) (a := a) (b := b) (c := c) (i := i) (o2 := o2) (a2 := a2) (b2 := b2) (c2 := c2) (i2 := i2) (by assumption) hb9; clear hb9; have kc0 := hE.p0; have kd0 := hE.q0; have kc1 := hE.p1; have kd1 := hE.q1; have kc2 := hE.p2; have kd2 := hE.q2; have kc3 := hE.p3; have kd3 := hE.q3; have kc4 := hE.p4; have kd4 := hE.q4) | (go_at_call 10; (with_reducible refine (HE2.out _ ?_).mono ?_); (refine TwoW.tab (w := w) (o := o) (a := a) (b := b) (c := c) (i := i) (o2 := o2) (a2 := a2) (b2 := b2) (c2 := c2) (i2 := i2) ?_; assumption); rintro e w9 ⟨rfl, hb9⟩; have hE := TwoW.next (w := w) (o := o) (a := a) (b := b) (c := c) (i := i) (o2 := o2) (a2 := a2) (b2 := b2) (c2 := c2) (i2 := i2) (by assumption) hb9; clear hb9; have kc0 := hE.p0; have kd0 := hE.q0; have kc1 := hE.p1; have kd1 := hE.q1; have kc2 := hE.p2; have kd2 := hE.q2; have kc3 := hE.p3; have kd3 := hE.q3; have kc4 := hE.p4; have kd4 := hE.q4))
  go_region_held3 (fun w' => w'.cell? ⟨w.heap.size, 0, none⟩ = some (.int .i64 o) ∧ w'.cell? ⟨w.heap.size + 1, 0, none⟩ = some (.int .i64 o2) ∧ TwoW w w' o a b c i o2 a2 b2 c2 i2) (first | exact TwoW.all (by assumption) | exact TwoW.all (TwoW.drw (by assumption))) (first | (go_at_call 15; (with_reducible refine (HF1.out _ ?_).mono ?_); refine TwoW.tab (TwoW.of (w := w) (o := o) (a := a) (b := b) (c := c) (i := i) (o2 := o2) (a2 := a2) (b2 := b2) (c2 := c2) (i2 := i2) ?_); assumption; rintro e w9 ⟨rfl, hb9⟩; have hE9 := TwoW.next (TwoW.of (w := w) (o := o) (a := a) (b := b) (c := c) (i := i) (o2 := o2) (a2 := a2) (b2 := b2) (c2 := c2) (i2 := i2) (by assumption)) hb9; clear hb9) | (go_at_call 15; (with_reducible refine (HF2.out _ ?_).mono ?_); refine TwoW.tab (TwoW.of (w := w) (o := o) (a := a) (b := b) (c := c) (i := i) (o2 := o2) (a2 := a2) (b2 := b2) (c2 := c2) (i2 := i2) ?_); assumption; rintro e w9 ⟨rfl, hb9⟩; have hE9 := TwoW.next (TwoW.of (w := w) (o := o) (a := a) (b := b) (c := c) (i := i) (o2 := o2) (a2 := a2) (b2 := b2) (c2 := c2) (i2 := i2) (by assumption)) hb9; clear hb9) | (go_at_call 16; (with_reducible refine (HN1.out _ ?_).mono ?_); refine TwoW.tab (TwoW.of (w := w) (o := o) (a := a) (b := b) (c := c) (i := i) (o2 := o2) (a2 := a2) (b2 := b2) (c2 := c2) (i2 := i2) ?_); assumption; rintro e w9 ⟨rfl, hb9⟩; have hE9 := TwoW.next (TwoW.of (w := w) (o := o) (a := a) (b := b) (c := c) (i := i) (o2 := o2) (a2 := a2) (b2 := b2) (c2 := c2) (i2 := i2) (by assumption)) hb9; clear hb9) | (go_at_call 16; (with_reducible refine (HN2.out _ ?_).mono ?_); refine TwoW.tab (TwoW.of (w := w) (o := o) (a := a) (b := b) (c := c) (i := i) (o2 := o2) (a2 := a2) (b2 := b2) (c2 := c2) (i2 := i2) ?_); assumption; rintro e w9 ⟨rfl, hb9⟩; have hE9 := TwoW.next (TwoW.of (w := w) (o := o) (a := a) (b := b) (c := c) (i := i) (o2 := o2) (a2 := a2) (b2 := b2) (c2 := c2) (i2 := i2) (by assumption)) hb9; clear hb9))
  all_goals have hM := TwoW.of (w := w) (o := o) (a := a) (b := b) (c := c) (i := i) (o2 := o2) (a2 := a2) (b2 := b2) (c2 := c2) (i2 := i2) (by assumption)
  all_goals go_wp2_with (go_at_call 12; (with_reducible refine (awake_any _ ?_).mono ?_); refine TwoW.tab (w := w) (o := o) (a := a) (b := b) (c := c) (i := i) (o2 := o2) (a2 := a2) (b2 := b2) (c2 := c2) (i2 := i2) ?_; assumption; rintro e w10 ⟨rfl, hb⟩; have hL := TwoW.next (w := w) (o := o) (a := a) (b := b) (c := c) (i := i) (o2 := o2) (a2 := a2) (b2 := b2) (c2 := c2) (i2 := i2) (by assumption) hb)
  all_goals go_ret
  all_goals exact ⟨rfl, hL.bel⟩

set_option maxHeartbeats 1600000 in
set_option maxRecDepth 100000 in
theorem ap_ft_f0 (x y o a b c i o2 a2 b2 c2 i2 f g : Int) (n m : ByteArray) (w : World) (ht : Tab w) (HE1 : ∀ w, Tab w → Calls Tryd.prog 10 #[.agg #[.int .i64 o, .int .i64 a, .int .i64 b, .int .i64 c, .int .i64 i]] w fun e w' => e = .returned (.tuple #[.int .u32 0, .int .i64 21]) ∧ Below w.heap.size w w') (HE2 : ∀ w, Tab w → Calls Tryd.prog 10 #[.agg #[.int .i64 o2, .int .i64 a2, .int .i64 b2, .int .i64 c2, .int .i64 i2]] w fun e w' => e = .returned (.tuple #[.int .u32 y, .int .i64 0]) ∧ Below w.heap.size w w') (HF1 : ∀ w, Tab w → Calls Tryd.prog 15 #[.int .i64 o] w fun e w' => e = .returned (.int .i64 0) ∧ Below w.heap.size w w')  :
    Calls Tryd.prog 7 #[.agg #[.int .i64 o, .int .i64 a, .int .i64 b, .int .i64 c, .int .i64 i], .agg #[.int .i64 o2, .int .i64 a2, .int .i64 b2, .int .i64 c2, .int .i64 i2]] w fun e w' => e = .returned (.bool true) ∧ Below w.heap.size w w' := by
  have hu23 := Tryd.underlying23
  have hE0 := TwoW.start (o := o) (a := a) (b := b) (c := c) (i := i) (o2 := o2) (a2 := a2) (b2 := b2) (c2 := c2) (i2 := i2) ht
  have HE1 := Aside0.mk HE1
  have HE2 := Aside0.mk HE2
  have HF1 := Aside0.mk HF1
  clear ht
  go_enter Tryd.func7, Tryd.ntmps7
  go_wp2_with (first | (go_at_call 10; (with_reducible refine (HE1.out _ ?_).mono ?_); (refine TwoW.tab (w := w) (o := o) (a := a) (b := b) (c := c) (i := i) (o2 := o2) (a2 := a2) (b2 := b2) (c2 := c2) (i2 := i2) ?_; assumption); rintro e w9 ⟨rfl, hb9⟩; have hE := TwoW.next (w := w) (o := o) (a := a) (b := b) (c := c) (i := i) (o2 := o2) (a2 := a2) (b2 := b2) (c2 := c2) (i2 := i2) (by assumption) hb9; clear hb9; have kc0 := hE.p0; have kd0 := hE.q0; have kc1 := hE.p1; have kd1 := hE.q1; have kc2 := hE.p2; have kd2 := hE.q2; have kc3 := hE.p3; have kd3 := hE.q3; have kc4 := hE.p4; have kd4 := hE.q4) | (go_at_call 10; (with_reducible refine (HE2.out _ ?_).mono ?_); (refine TwoW.tab (w := w) (o := o) (a := a) (b := b) (c := c) (i := i) (o2 := o2) (a2 := a2) (b2 := b2) (c2 := c2) (i2 := i2) ?_; assumption); rintro e w9 ⟨rfl, hb9⟩; have hE := TwoW.next (w := w) (o := o) (a := a) (b := b) (c := c) (i := i) (o2 := o2) (a2 := a2) (b2 := b2) (c2 := c2) (i2 := i2) (by assumption) hb9; clear hb9; have kc0 := hE.p0; have kd0 := hE.q0; have kc1 := hE.p1; have kd1 := hE.q1; have kc2 := hE.p2; have kd2 := hE.q2; have kc3 := hE.p3; have kd3 := hE.q3; have kc4 := hE.p4; have kd4 := hE.q4))
  have hD := TwoW.drw hE
  have k0 := hD.p0
  have k1 := hD.q0
  refine wp_region_noPanic ?_
  refine wp_region_any (by kernel_rfl) ?_
  change wpAny _ _ _ _ _ _ _ (World.drew _)
  refine wpAny_ready (rs := [0]) (by kernel_rfl) (by simp) ?_
  refine AllReady.cons rfl (fun K hK => ?_) AllReady.nil
  go_simp
  refine hK _ _ ?_
  clear hK K
  refine wpAny_ready (rs := [1]) (by kernel_rfl) (by simp) ?_
  refine AllReady.cons rfl (fun K hK => ?_) AllReady.nil
  go_simp
  refine hK _ _ ?_
  clear hK K
  refine wpAny_ready (rs := [2]) (by kernel_rfl) (by simp) ?_
  refine AllReady.cons rfl (fun K hK => ?_) AllReady.nil
  go_simp
  refine (HF1.out _ ?_).mono ?_; exact hD.tab; rintro e w11 ⟨rfl, hb11⟩; have hG := TwoW.next hD hb11; clear hb11; have k2 := hG.q0
  go_simp
  refine hK _ _ ?_
  clear hK K
  refine wpAny_ready (rs := [3]) (by kernel_rfl) (by simp) ?_
  refine AllReady.cons rfl (fun K hK => ?_) AllReady.nil
  go_simp
  refine hK _ _ ?_
  clear hK K
  refine wpAny_ready (rs := [4]) (by kernel_rfl) (by simp) ?_
  refine AllReady.cons rfl (fun K hK => ?_) AllReady.nil
  go_simp
  refine hK _ _ ?_
  clear hK K
  refine wpAny_take (i := 5) (v := undef) rfl (by kernel_rfl) (by kernel_rfl) (by kernel_rfl) (fun _ _ _ h => h) (Or.inr ⟨by kernel_rfl, by kernel_rfl⟩) ?_
  refine wpAny_take (i := 6) (v := undef) rfl (by kernel_rfl) (by kernel_rfl) (by kernel_rfl) (fun _ _ _ h => h) (Or.inr ⟨by kernel_rfl, by kernel_rfl⟩) ?_
  refine wpAny_take (i := 7) (v := undef) rfl (by kernel_rfl) (by kernel_rfl) (by kernel_rfl) (fun _ _ _ h => h) (Or.inr ⟨by kernel_rfl, by kernel_rfl⟩) ?_
  refine wpAny_take (i := 8) (v := undef) rfl (by kernel_rfl) (by kernel_rfl) (by kernel_rfl) (fun _ _ _ h => h) (Or.inr ⟨by kernel_rfl, by kernel_rfl⟩) ?_
  refine wpAny_ready (rs := [9]) (by kernel_rfl) (by simp) ?_
  refine AllReady.cons rfl (fun K hK => ?_) AllReady.nil
  go_simp
  refine hK _ _ ?_
  clear hK K
  refine wpAny_ready (rs := [10]) (by kernel_rfl) (by simp) ?_
  refine AllReady.cons rfl (fun K hK => ?_) AllReady.nil
  go_simp
  refine hK _ _ ?_
  clear hK K
  refine wpAny_take (i := 11) (v := undef) rfl (by kernel_rfl) (by kernel_rfl) (by kernel_rfl) (fun _ _ _ h => h) (Or.inr ⟨by kernel_rfl, by kernel_rfl⟩) ?_
  refine wpAny_take (i := 12) (v := undef) rfl (by kernel_rfl) (by kernel_rfl) (by kernel_rfl) (fun _ _ _ h => h) (Or.inr ⟨by kernel_rfl, by kernel_rfl⟩) ?_
  refine wpAny_take (i := 13) (v := undef) rfl (by kernel_rfl) (by kernel_rfl) (by kernel_rfl) (fun _ _ _ h => h) (Or.inr ⟨by kernel_rfl, by kernel_rfl⟩) ?_
  refine wpAny_take (i := 14) (v := undef) rfl (by kernel_rfl) (by kernel_rfl) (by kernel_rfl) (fun _ _ _ h => h) (Or.inr ⟨by kernel_rfl, by kernel_rfl⟩) ?_
  refine wpAny_take (i := 15) (v := undef) rfl (by kernel_rfl) (by kernel_rfl) (by kernel_rfl) (fun _ _ _ h => h) (Or.inr ⟨by kernel_rfl, by kernel_rfl⟩) ?_
  refine wpAny_take (i := 16) (v := undef) rfl (by kernel_rfl) (by kernel_rfl) (by kernel_rfl) (fun _ _ _ h => h) (Or.inr ⟨by kernel_rfl, by kernel_rfl⟩) ?_
  refine wpAny_take (i := 17) (v := undef) rfl (by kernel_rfl) (by kernel_rfl) (by kernel_rfl) (fun _ _ _ h => h) (Or.inr ⟨by kernel_rfl, by kernel_rfl⟩) ?_
  refine wpAny_take (i := 18) (v := undef) rfl (by kernel_rfl) (by kernel_rfl) (by kernel_rfl) (fun _ _ _ h => h) (Or.inr ⟨by kernel_rfl, by kernel_rfl⟩) ?_
  refine wpAny_take (i := 19) (v := undef) rfl (by kernel_rfl) (by kernel_rfl) (by kernel_rfl) (fun _ _ _ h => h) (Or.inr ⟨by kernel_rfl, by kernel_rfl⟩) ?_
  refine wpAny_take (i := 20) (v := undef) rfl (by kernel_rfl) (by kernel_rfl) (by kernel_rfl) (fun _ _ _ h => h) (Or.inr ⟨by kernel_rfl, by kernel_rfl⟩) ?_
  refine wpAny_take (i := 21) (v := undef) rfl (by kernel_rfl) (by kernel_rfl) (by kernel_rfl) (fun _ _ _ h => h) (Or.inr ⟨by kernel_rfl, by kernel_rfl⟩) ?_
  refine wpAny_take (i := 22) (v := undef) rfl (by kernel_rfl) (by kernel_rfl) (by kernel_rfl) (fun _ _ _ h => h) (Or.inr ⟨by kernel_rfl, by kernel_rfl⟩) ?_
  refine wpAny_take (i := 23) (v := undef) rfl (by kernel_rfl) (by kernel_rfl) (by kernel_rfl) (fun _ _ _ h => h) (Or.inr ⟨by kernel_rfl, by kernel_rfl⟩) ?_
  refine wpAny_ready (rs := [24]) (by kernel_rfl) (by simp) ?_
  refine AllReady.cons rfl (fun K hK => ?_) AllReady.nil
  go_simp
  refine hK _ _ ?_
  clear hK K
  refine wpAny_done (by kernel_rfl) ?_ _
  refine NoPanic.normal ?_
  go_wp2_with (go_at_call 12; (with_reducible refine (awake_any _ ?_).mono ?_); refine TwoW.tab (w := w) (o := o) (a := a) (b := b) (c := c) (i := i) (o2 := o2) (a2 := a2) (b2 := b2) (c2 := c2) (i2 := i2) ?_; assumption; rintro e w10 ⟨rfl, hb⟩; have hL := TwoW.next (w := w) (o := o) (a := a) (b := b) (c := c) (i := i) (o2 := o2) (a2 := a2) (b2 := b2) (c2 := c2) (i2 := i2) (by assumption) hb)
  go_ret
  exact ⟨rfl, hL.bel⟩

set_option maxHeartbeats 1600000 in
set_option maxRecDepth 100000 in
theorem ap_ft_g0 (x y o a b c i o2 a2 b2 c2 i2 f g : Int) (n m : ByteArray) (w : World) (ht : Tab w) (HE1 : ∀ w, Tab w → Calls Tryd.prog 10 #[.agg #[.int .i64 o, .int .i64 a, .int .i64 b, .int .i64 c, .int .i64 i]] w fun e w' => e = .returned (.tuple #[.int .u32 0, .int .i64 21]) ∧ Below w.heap.size w w') (HE2 : ∀ w, Tab w → Calls Tryd.prog 10 #[.agg #[.int .i64 o2, .int .i64 a2, .int .i64 b2, .int .i64 c2, .int .i64 i2]] w fun e w' => e = .returned (.tuple #[.int .u32 y, .int .i64 0]) ∧ Below w.heap.size w w') (HF1 : ∀ w, Tab w → Calls Tryd.prog 15 #[.int .i64 o] w fun e w' => e = .returned (.int .i64 f) ∧ Below w.heap.size w w') (HF2 : ∀ w, Tab w → Calls Tryd.prog 15 #[.int .i64 o2] w fun e w' => e = .returned (.int .i64 0) ∧ Below w.heap.size w w') (hf1 : (f == 0) = false) (hf2 : (f != 0) = true) :
    Calls Tryd.prog 7 #[.agg #[.int .i64 o, .int .i64 a, .int .i64 b, .int .i64 c, .int .i64 i], .agg #[.int .i64 o2, .int .i64 a2, .int .i64 b2, .int .i64 c2, .int .i64 i2]] w fun e w' => e = .returned (.bool true) ∧ Below w.heap.size w w' := by
  have hu23 := Tryd.underlying23
  have hE0 := TwoW.start (o := o) (a := a) (b := b) (c := c) (i := i) (o2 := o2) (a2 := a2) (b2 := b2) (c2 := c2) (i2 := i2) ht
  have HE1 := Aside0.mk HE1
  have HE2 := Aside0.mk HE2
  have HF1 := Aside0.mk HF1
  have HF2 := Aside0.mk HF2
  clear ht
  go_enter Tryd.func7, Tryd.ntmps7
  go_wp2_with (first | (go_at_call 10; (with_reducible refine (HE1.out _ ?_).mono ?_); (refine TwoW.tab (w := w) (o := o) (a := a) (b := b) (c := c) (i := i) (o2 := o2) (a2 := a2) (b2 := b2) (c2 := c2) (i2 := i2) ?_; assumption); rintro e w9 ⟨rfl, hb9⟩; have hE := TwoW.next (w := w) (o := o) (a := a) (b := b) (c := c) (i := i) (o2 := o2) (a2 := a2) (b2 := b2) (c2 := c2) (i2 := i2) (by assumption) hb9; clear hb9; have kc0 := hE.p0; have kd0 := hE.q0; have kc1 := hE.p1; have kd1 := hE.q1; have kc2 := hE.p2; have kd2 := hE.q2; have kc3 := hE.p3; have kd3 := hE.q3; have kc4 := hE.p4; have kd4 := hE.q4) | (go_at_call 10; (with_reducible refine (HE2.out _ ?_).mono ?_); (refine TwoW.tab (w := w) (o := o) (a := a) (b := b) (c := c) (i := i) (o2 := o2) (a2 := a2) (b2 := b2) (c2 := c2) (i2 := i2) ?_; assumption); rintro e w9 ⟨rfl, hb9⟩; have hE := TwoW.next (w := w) (o := o) (a := a) (b := b) (c := c) (i := i) (o2 := o2) (a2 := a2) (b2 := b2) (c2 := c2) (i2 := i2) (by assumption) hb9; clear hb9; have kc0 := hE.p0; have kd0 := hE.q0; have kc1 := hE.p1; have kd1 := hE.q1; have kc2 := hE.p2; have kd2 := hE.q2; have kc3 := hE.p3; have kd3 := hE.q3; have kc4 := hE.p4; have kd4 := hE.q4))
  have hD := TwoW.drw hE
  have k0 := hD.p0
  have k1 := hD.q0
  refine wp_region_noPanic ?_
  refine wp_region_any (by kernel_rfl) ?_
  change wpAny _ _ _ _ _ _ _ (World.drew _)
  refine wpAny_ready (rs := [0]) (by kernel_rfl) (by simp) ?_
  refine AllReady.cons rfl (fun K hK => ?_) AllReady.nil
  go_simp
  refine hK _ _ ?_
  clear hK K
  refine wpAny_ready (rs := [1]) (by kernel_rfl) (by simp) ?_
  refine AllReady.cons rfl (fun K hK => ?_) AllReady.nil
  go_simp
  refine hK _ _ ?_
  clear hK K
  refine wpAny_ready (rs := [2]) (by kernel_rfl) (by simp) ?_
  refine AllReady.cons rfl (fun K hK => ?_) AllReady.nil
  go_simp
  refine (HF1.out _ ?_).mono ?_; exact hD.tab; rintro e w11 ⟨rfl, hb11⟩; have hG := TwoW.next hD hb11; clear hb11; have k2 := hG.q0
  go_simp
  refine hK _ _ ?_
  clear hK K
  refine wpAny_ready (rs := [3]) (by kernel_rfl) (by simp) ?_
  refine AllReady.cons rfl (fun K hK => ?_) AllReady.nil
  go_simp
  refine hK _ _ ?_
  clear hK K
  refine wpAny_ready (rs := [4]) (by kernel_rfl) (by simp) ?_
  refine AllReady.cons rfl (fun K hK => ?_) AllReady.nil
  go_simp
  refine hK _ _ ?_
  clear hK K
  refine wpAny_ready (rs := [5]) (by kernel_rfl) (by simp) ?_
  refine AllReady.cons rfl (fun K hK => ?_) AllReady.nil
  go_simp
  refine hK _ _ ?_
  clear hK K
  refine wpAny_ready (rs := [6]) (by kernel_rfl) (by simp) ?_
  refine AllReady.cons rfl (fun K hK => ?_) AllReady.nil
  go_simp
  refine hK _ _ ?_
  clear hK K
  refine wpAny_ready (rs := [7]) (by kernel_rfl) (by simp) ?_
  refine AllReady.cons rfl (fun K hK => ?_) AllReady.nil
  go_simp
  refine (HF2.out _ ?_).mono ?_; exact hG.tab; rintro e w12 ⟨rfl, hb12⟩; have hI := TwoW.next hG hb12; clear hb12
  go_simp
  refine hK _ _ ?_
  clear hK K
  refine wpAny_ready (rs := [8]) (by kernel_rfl) (by simp) ?_
  refine AllReady.cons rfl (fun K hK => ?_) AllReady.nil
  go_simp
  refine hK _ _ ?_
  clear hK K
  refine wpAny_ready (rs := [9]) (by kernel_rfl) (by simp) ?_
  refine AllReady.cons rfl (fun K hK => ?_) AllReady.nil
  go_simp
  refine hK _ _ ?_
  clear hK K
  refine wpAny_ready (rs := [10]) (by kernel_rfl) (by simp) ?_
  refine AllReady.cons rfl (fun K hK => ?_) AllReady.nil
  go_simp
  refine hK _ _ ?_
  clear hK K
  refine wpAny_take (i := 11) (v := undef) rfl (by kernel_rfl) (by kernel_rfl) (by kernel_rfl) (fun _ _ _ h => h) (Or.inr ⟨by kernel_rfl, by kernel_rfl⟩) ?_
  refine wpAny_take (i := 12) (v := undef) rfl (by kernel_rfl) (by kernel_rfl) (by kernel_rfl) (fun _ _ _ h => h) (Or.inr ⟨by kernel_rfl, by kernel_rfl⟩) ?_
  refine wpAny_take (i := 13) (v := undef) rfl (by kernel_rfl) (by kernel_rfl) (by kernel_rfl) (fun _ _ _ h => h) (Or.inr ⟨by kernel_rfl, by kernel_rfl⟩) ?_
  refine wpAny_take (i := 14) (v := undef) rfl (by kernel_rfl) (by kernel_rfl) (by kernel_rfl) (fun _ _ _ h => h) (Or.inr ⟨by kernel_rfl, by kernel_rfl⟩) ?_
  refine wpAny_take (i := 15) (v := undef) rfl (by kernel_rfl) (by kernel_rfl) (by kernel_rfl) (fun _ _ _ h => h) (Or.inr ⟨by kernel_rfl, by kernel_rfl⟩) ?_
  refine wpAny_take (i := 16) (v := undef) rfl (by kernel_rfl) (by kernel_rfl) (by kernel_rfl) (fun _ _ _ h => h) (Or.inr ⟨by kernel_rfl, by kernel_rfl⟩) ?_
  refine wpAny_take (i := 17) (v := undef) rfl (by kernel_rfl) (by kernel_rfl) (by kernel_rfl) (fun _ _ _ h => h) (Or.inr ⟨by kernel_rfl, by kernel_rfl⟩) ?_
  refine wpAny_take (i := 18) (v := undef) rfl (by kernel_rfl) (by kernel_rfl) (by kernel_rfl) (fun _ _ _ h => h) (Or.inr ⟨by kernel_rfl, by kernel_rfl⟩) ?_
  refine wpAny_take (i := 19) (v := undef) rfl (by kernel_rfl) (by kernel_rfl) (by kernel_rfl) (fun _ _ _ h => h) (Or.inr ⟨by kernel_rfl, by kernel_rfl⟩) ?_
  refine wpAny_take (i := 20) (v := undef) rfl (by kernel_rfl) (by kernel_rfl) (by kernel_rfl) (fun _ _ _ h => h) (Or.inr ⟨by kernel_rfl, by kernel_rfl⟩) ?_
  refine wpAny_take (i := 21) (v := undef) rfl (by kernel_rfl) (by kernel_rfl) (by kernel_rfl) (fun _ _ _ h => h) (Or.inr ⟨by kernel_rfl, by kernel_rfl⟩) ?_
  refine wpAny_take (i := 22) (v := undef) rfl (by kernel_rfl) (by kernel_rfl) (by kernel_rfl) (fun _ _ _ h => h) (Or.inr ⟨by kernel_rfl, by kernel_rfl⟩) ?_
  refine wpAny_take (i := 23) (v := undef) rfl (by kernel_rfl) (by kernel_rfl) (by kernel_rfl) (fun _ _ _ h => h) (Or.inr ⟨by kernel_rfl, by kernel_rfl⟩) ?_
  refine wpAny_ready (rs := [24]) (by kernel_rfl) (by simp) ?_
  refine AllReady.cons rfl (fun K hK => ?_) AllReady.nil
  go_simp
  refine hK _ _ ?_
  clear hK K
  refine wpAny_done (by kernel_rfl) ?_ _
  refine NoPanic.normal ?_
  go_wp2_with (go_at_call 12; (with_reducible refine (awake_any _ ?_).mono ?_); refine TwoW.tab (w := w) (o := o) (a := a) (b := b) (c := c) (i := i) (o2 := o2) (a2 := a2) (b2 := b2) (c2 := c2) (i2 := i2) ?_; assumption; rintro e w10 ⟨rfl, hb⟩; have hL := TwoW.next (w := w) (o := o) (a := a) (b := b) (c := c) (i := i) (o2 := o2) (a2 := a2) (b2 := b2) (c2 := c2) (i2 := i2) (by assumption) hb)
  go_ret
  exact ⟨rfl, hL.bel⟩

set_option maxHeartbeats 1600000 in
set_option maxRecDepth 100000 in
theorem ap_ft_opsame (x y o a b c i o2 a2 b2 c2 i2 f g : Int) (n m : ByteArray) (w : World) (ht : Tab w) (HE1 : ∀ w, Tab w → Calls Tryd.prog 10 #[.agg #[.int .i64 o, .int .i64 a, .int .i64 b, .int .i64 c, .int .i64 i]] w fun e w' => e = .returned (.tuple #[.int .u32 0, .int .i64 21]) ∧ Below w.heap.size w w') (HE2 : ∀ w, Tab w → Calls Tryd.prog 10 #[.agg #[.int .i64 o, .int .i64 a2, .int .i64 b2, .int .i64 c2, .int .i64 i2]] w fun e w' => e = .returned (.tuple #[.int .u32 y, .int .i64 0]) ∧ Below w.heap.size w w') (HF1 : ∀ w, Tab w → Calls Tryd.prog 15 #[.int .i64 o] w fun e w' => e = .returned (.int .i64 f) ∧ Below w.heap.size w w') (HN1 : ∀ w, Tab w → Calls Tryd.prog 16 #[.int .i64 o] w fun e w' => e = .returned (.string n) ∧ Below w.heap.size w w') (hf1 : (f == 0) = false) (hf2 : (f != 0) = true) :
    Calls Tryd.prog 7 #[.agg #[.int .i64 o, .int .i64 a, .int .i64 b, .int .i64 c, .int .i64 i], .agg #[.int .i64 o, .int .i64 a2, .int .i64 b2, .int .i64 c2, .int .i64 i2]] w fun e w' => e = .returned (.bool true) ∧ Below w.heap.size w w' := by
  have hu23 := Tryd.underlying23
  have hE0 := TwoW.start (o := o) (a := a) (b := b) (c := c) (i := i) (o2 := o) (a2 := a2) (b2 := b2) (c2 := c2) (i2 := i2) ht
  have HE1 := Aside0.mk HE1
  have HE2 := Aside0.mk HE2
  have HF1 := Aside0.mk HF1
  have HN1 := Aside0.mk HN1
  clear ht
  go_enter Tryd.func7, Tryd.ntmps7
  go_wp2_with (first | (go_at_call 10; (with_reducible refine (HE1.out _ ?_).mono ?_); (refine TwoW.tab (w := w) (o := o) (a := a) (b := b) (c := c) (i := i) (o2 := o) (a2 := a2) (b2 := b2) (c2 := c2) (i2 := i2) ?_; assumption); rintro e w9 ⟨rfl, hb9⟩; have hE := TwoW.next (w := w) (o := o) (a := a) (b := b) (c := c) (i := i) (o2 := o) (a2 := a2) (b2 := b2) (c2 := c2) (i2 := i2) (by assumption) hb9; clear hb9; have kc0 := hE.p0; have kd0 := hE.q0; have kc1 := hE.p1; have kd1 := hE.q1; have kc2 := hE.p2; have kd2 := hE.q2; have kc3 := hE.p3; have kd3 := hE.q3; have kc4 := hE.p4; have kd4 := hE.q4) | (go_at_call 10; (with_reducible refine (HE2.out _ ?_).mono ?_); (refine TwoW.tab (w := w) (o := o) (a := a) (b := b) (c := c) (i := i) (o2 := o) (a2 := a2) (b2 := b2) (c2 := c2) (i2 := i2) ?_; assumption); rintro e w9 ⟨rfl, hb9⟩; have hE := TwoW.next (w := w) (o := o) (a := a) (b := b) (c := c) (i := i) (o2 := o) (a2 := a2) (b2 := b2) (c2 := c2) (i2 := i2) (by assumption) hb9; clear hb9; have kc0 := hE.p0; have kd0 := hE.q0; have kc1 := hE.p1; have kd1 := hE.q1; have kc2 := hE.p2; have kd2 := hE.q2; have kc3 := hE.p3; have kd3 := hE.q3; have kc4 := hE.p4; have kd4 := hE.q4))
  go_region_held3 (fun w' => w'.cell? ⟨w.heap.size, 0, none⟩ = some (.int .i64 o) ∧ w'.cell? ⟨w.heap.size + 1, 0, none⟩ = some (.int .i64 o) ∧ TwoW w w' o a b c i o a2 b2 c2 i2) (first | exact TwoW.all (by assumption) | exact TwoW.all (TwoW.drw (by assumption))) (first | (go_at_call 15; (with_reducible refine (HF1.out _ ?_).mono ?_); refine TwoW.tab (TwoW.of (w := w) (o := o) (a := a) (b := b) (c := c) (i := i) (o2 := o) (a2 := a2) (b2 := b2) (c2 := c2) (i2 := i2) ?_); assumption; rintro e w9 ⟨rfl, hb9⟩; have hE9 := TwoW.next (TwoW.of (w := w) (o := o) (a := a) (b := b) (c := c) (i := i) (o2 := o) (a2 := a2) (b2 := b2) (c2 := c2) (i2 := i2) (by assumption)) hb9; clear hb9) | (go_at_call 16; (with_reducible refine (HN1.out _ ?_).mono ?_); refine TwoW.tab (TwoW.of (w := w) (o := o) (a := a) (b := b) (c := c) (i := i) (o2 := o) (a2 := a2) (b2 := b2) (c2 := c2) (i2 := i2) ?_); assumption; rintro e w9 ⟨rfl, hb9⟩; have hE9 := TwoW.next (TwoW.of (w := w) (o := o) (a := a) (b := b) (c := c) (i := i) (o2 := o) (a2 := a2) (b2 := b2) (c2 := c2) (i2 := i2) (by assumption)) hb9; clear hb9))
  all_goals have hM := TwoW.of (w := w) (o := o) (a := a) (b := b) (c := c) (i := i) (o2 := o) (a2 := a2) (b2 := b2) (c2 := c2) (i2 := i2) (by assumption)
  all_goals go_wp2_with (go_at_call 12; (with_reducible refine (awake_any _ ?_).mono ?_); refine TwoW.tab (w := w) (o := o) (a := a) (b := b) (c := c) (i := i) (o2 := o) (a2 := a2) (b2 := b2) (c2 := c2) (i2 := i2) ?_; assumption; rintro e w10 ⟨rfl, hb⟩; have hL := TwoW.next (w := w) (o := o) (a := a) (b := b) (c := c) (i := i) (o2 := o) (a2 := a2) (b2 := b2) (c2 := c2) (i2 := i2) (by assumption) hb)
  all_goals go_ret
  all_goals exact ⟨rfl, hL.bel⟩

set_option maxHeartbeats 1600000 in
set_option maxRecDepth 100000 in
theorem ap_ft_opdiff (x y o a b c i o2 a2 b2 c2 i2 f g : Int) (n m : ByteArray) (w : World) (ht : Tab w) (HE1 : ∀ w, Tab w → Calls Tryd.prog 10 #[.agg #[.int .i64 o, .int .i64 a, .int .i64 b, .int .i64 c, .int .i64 i]] w fun e w' => e = .returned (.tuple #[.int .u32 0, .int .i64 21]) ∧ Below w.heap.size w w') (HE2 : ∀ w, Tab w → Calls Tryd.prog 10 #[.agg #[.int .i64 o2, .int .i64 a2, .int .i64 b2, .int .i64 c2, .int .i64 i2]] w fun e w' => e = .returned (.tuple #[.int .u32 y, .int .i64 0]) ∧ Below w.heap.size w w') (HF1 : ∀ w, Tab w → Calls Tryd.prog 15 #[.int .i64 o] w fun e w' => e = .returned (.int .i64 f) ∧ Below w.heap.size w w') (HF2 : ∀ w, Tab w → Calls Tryd.prog 15 #[.int .i64 o2] w fun e w' => e = .returned (.int .i64 g) ∧ Below w.heap.size w w') (HN1 : ∀ w, Tab w → Calls Tryd.prog 16 #[.int .i64 o] w fun e w' => e = .returned (.string n) ∧ Below w.heap.size w w') (HN2 : ∀ w, Tab w → Calls Tryd.prog 16 #[.int .i64 o2] w fun e w' => e = .returned (.string m) ∧ Below w.heap.size w w') (hf1 : (f == 0) = false) (hf2 : (f != 0) = true) (hg1 : (g == 0) = false) (hg2 : (g != 0) = true) (ho : (o == o2) = false) (hn : (n.toList == m.toList) = false) :
    Calls Tryd.prog 7 #[.agg #[.int .i64 o, .int .i64 a, .int .i64 b, .int .i64 c, .int .i64 i], .agg #[.int .i64 o2, .int .i64 a2, .int .i64 b2, .int .i64 c2, .int .i64 i2]] w fun e w' => e = .returned (.bool true) ∧ Below w.heap.size w w' := by
  have hu23 := Tryd.underlying23
  have hE0 := TwoW.start (o := o) (a := a) (b := b) (c := c) (i := i) (o2 := o2) (a2 := a2) (b2 := b2) (c2 := c2) (i2 := i2) ht
  have HE1 := Aside0.mk HE1
  have HE2 := Aside0.mk HE2
  have HF1 := Aside0.mk HF1
  have HF2 := Aside0.mk HF2
  have HN1 := Aside0.mk HN1
  have HN2 := Aside0.mk HN2
  clear ht
  go_enter Tryd.func7, Tryd.ntmps7
  go_wp2_with (first | (go_at_call 10; (with_reducible refine (HE1.out _ ?_).mono ?_); (refine TwoW.tab (w := w) (o := o) (a := a) (b := b) (c := c) (i := i) (o2 := o2) (a2 := a2) (b2 := b2) (c2 := c2) (i2 := i2) ?_; assumption); rintro e w9 ⟨rfl, hb9⟩; have hE := TwoW.next (w := w) (o := o) (a := a) (b := b) (c := c) (i := i) (o2 := o2) (a2 := a2) (b2 := b2) (c2 := c2) (i2 := i2) (by assumption) hb9; clear hb9; have kc0 := hE.p0; have kd0 := hE.q0; have kc1 := hE.p1; have kd1 := hE.q1; have kc2 := hE.p2; have kd2 := hE.q2; have kc3 := hE.p3; have kd3 := hE.q3; have kc4 := hE.p4; have kd4 := hE.q4) | (go_at_call 10; (with_reducible refine (HE2.out _ ?_).mono ?_); (refine TwoW.tab (w := w) (o := o) (a := a) (b := b) (c := c) (i := i) (o2 := o2) (a2 := a2) (b2 := b2) (c2 := c2) (i2 := i2) ?_; assumption); rintro e w9 ⟨rfl, hb9⟩; have hE := TwoW.next (w := w) (o := o) (a := a) (b := b) (c := c) (i := i) (o2 := o2) (a2 := a2) (b2 := b2) (c2 := c2) (i2 := i2) (by assumption) hb9; clear hb9; have kc0 := hE.p0; have kd0 := hE.q0; have kc1 := hE.p1; have kd1 := hE.q1; have kc2 := hE.p2; have kd2 := hE.q2; have kc3 := hE.p3; have kd3 := hE.q3; have kc4 := hE.p4; have kd4 := hE.q4))
  go_region_held3 (fun w' => w'.cell? ⟨w.heap.size, 0, none⟩ = some (.int .i64 o) ∧ w'.cell? ⟨w.heap.size + 1, 0, none⟩ = some (.int .i64 o2) ∧ TwoW w w' o a b c i o2 a2 b2 c2 i2) (first | exact TwoW.all (by assumption) | exact TwoW.all (TwoW.drw (by assumption))) (first | (go_at_call 15; (with_reducible refine (HF1.out _ ?_).mono ?_); refine TwoW.tab (TwoW.of (w := w) (o := o) (a := a) (b := b) (c := c) (i := i) (o2 := o2) (a2 := a2) (b2 := b2) (c2 := c2) (i2 := i2) ?_); assumption; rintro e w9 ⟨rfl, hb9⟩; have hE9 := TwoW.next (TwoW.of (w := w) (o := o) (a := a) (b := b) (c := c) (i := i) (o2 := o2) (a2 := a2) (b2 := b2) (c2 := c2) (i2 := i2) (by assumption)) hb9; clear hb9) | (go_at_call 15; (with_reducible refine (HF2.out _ ?_).mono ?_); refine TwoW.tab (TwoW.of (w := w) (o := o) (a := a) (b := b) (c := c) (i := i) (o2 := o2) (a2 := a2) (b2 := b2) (c2 := c2) (i2 := i2) ?_); assumption; rintro e w9 ⟨rfl, hb9⟩; have hE9 := TwoW.next (TwoW.of (w := w) (o := o) (a := a) (b := b) (c := c) (i := i) (o2 := o2) (a2 := a2) (b2 := b2) (c2 := c2) (i2 := i2) (by assumption)) hb9; clear hb9) | (go_at_call 16; (with_reducible refine (HN1.out _ ?_).mono ?_); refine TwoW.tab (TwoW.of (w := w) (o := o) (a := a) (b := b) (c := c) (i := i) (o2 := o2) (a2 := a2) (b2 := b2) (c2 := c2) (i2 := i2) ?_); assumption; rintro e w9 ⟨rfl, hb9⟩; have hE9 := TwoW.next (TwoW.of (w := w) (o := o) (a := a) (b := b) (c := c) (i := i) (o2 := o2) (a2 := a2) (b2 := b2) (c2 := c2) (i2 := i2) (by assumption)) hb9; clear hb9) | (go_at_call 16; (with_reducible refine (HN2.out _ ?_).mono ?_); refine TwoW.tab (TwoW.of (w := w) (o := o) (a := a) (b := b) (c := c) (i := i) (o2 := o2) (a2 := a2) (b2 := b2) (c2 := c2) (i2 := i2) ?_); assumption; rintro e w9 ⟨rfl, hb9⟩; have hE9 := TwoW.next (TwoW.of (w := w) (o := o) (a := a) (b := b) (c := c) (i := i) (o2 := o2) (a2 := a2) (b2 := b2) (c2 := c2) (i2 := i2) (by assumption)) hb9; clear hb9))
  all_goals have hM := TwoW.of (w := w) (o := o) (a := a) (b := b) (c := c) (i := i) (o2 := o2) (a2 := a2) (b2 := b2) (c2 := c2) (i2 := i2) (by assumption)
  all_goals go_wp2_with (go_at_call 12; (with_reducible refine (awake_any _ ?_).mono ?_); refine TwoW.tab (w := w) (o := o) (a := a) (b := b) (c := c) (i := i) (o2 := o2) (a2 := a2) (b2 := b2) (c2 := c2) (i2 := i2) ?_; assumption; rintro e w10 ⟨rfl, hb⟩; have hL := TwoW.next (w := w) (o := o) (a := a) (b := b) (c := c) (i := i) (o2 := o2) (a2 := a2) (b2 := b2) (c2 := c2) (i2 := i2) (by assumption) hb)
  all_goals go_ret
  all_goals exact ⟨rfl, hL.bel⟩

set_option maxHeartbeats 1600000 in
set_option maxRecDepth 100000 in
theorem ap_ff_f0 (x y o a b c i o2 a2 b2 c2 i2 f g : Int) (n m : ByteArray) (w : World) (ht : Tab w) (HE1 : ∀ w, Tab w → Calls Tryd.prog 10 #[.agg #[.int .i64 o, .int .i64 a, .int .i64 b, .int .i64 c, .int .i64 i]] w fun e w' => e = .returned (.tuple #[.int .u32 0, .int .i64 21]) ∧ Below w.heap.size w w') (HE2 : ∀ w, Tab w → Calls Tryd.prog 10 #[.agg #[.int .i64 o2, .int .i64 a2, .int .i64 b2, .int .i64 c2, .int .i64 i2]] w fun e w' => e = .returned (.tuple #[.int .u32 0, .int .i64 21]) ∧ Below w.heap.size w w') (HF1 : ∀ w, Tab w → Calls Tryd.prog 15 #[.int .i64 o] w fun e w' => e = .returned (.int .i64 0) ∧ Below w.heap.size w w')  :
    Calls Tryd.prog 7 #[.agg #[.int .i64 o, .int .i64 a, .int .i64 b, .int .i64 c, .int .i64 i], .agg #[.int .i64 o2, .int .i64 a2, .int .i64 b2, .int .i64 c2, .int .i64 i2]] w fun e w' => e = .returned (.bool true) ∧ Below w.heap.size w w' := by
  have hu23 := Tryd.underlying23
  have hE0 := TwoW.start (o := o) (a := a) (b := b) (c := c) (i := i) (o2 := o2) (a2 := a2) (b2 := b2) (c2 := c2) (i2 := i2) ht
  have HE1 := Aside0.mk HE1
  have HE2 := Aside0.mk HE2
  have HF1 := Aside0.mk HF1
  clear ht
  go_enter Tryd.func7, Tryd.ntmps7
  go_wp2_with (first | (go_at_call 10; (with_reducible refine (HE1.out _ ?_).mono ?_); (refine TwoW.tab (w := w) (o := o) (a := a) (b := b) (c := c) (i := i) (o2 := o2) (a2 := a2) (b2 := b2) (c2 := c2) (i2 := i2) ?_; assumption); rintro e w9 ⟨rfl, hb9⟩; have hE := TwoW.next (w := w) (o := o) (a := a) (b := b) (c := c) (i := i) (o2 := o2) (a2 := a2) (b2 := b2) (c2 := c2) (i2 := i2) (by assumption) hb9; clear hb9; have kc0 := hE.p0; have kd0 := hE.q0; have kc1 := hE.p1; have kd1 := hE.q1; have kc2 := hE.p2; have kd2 := hE.q2; have kc3 := hE.p3; have kd3 := hE.q3; have kc4 := hE.p4; have kd4 := hE.q4) | (go_at_call 10; (with_reducible refine (HE2.out _ ?_).mono ?_); (refine TwoW.tab (w := w) (o := o) (a := a) (b := b) (c := c) (i := i) (o2 := o2) (a2 := a2) (b2 := b2) (c2 := c2) (i2 := i2) ?_; assumption); rintro e w9 ⟨rfl, hb9⟩; have hE := TwoW.next (w := w) (o := o) (a := a) (b := b) (c := c) (i := i) (o2 := o2) (a2 := a2) (b2 := b2) (c2 := c2) (i2 := i2) (by assumption) hb9; clear hb9; have kc0 := hE.p0; have kd0 := hE.q0; have kc1 := hE.p1; have kd1 := hE.q1; have kc2 := hE.p2; have kd2 := hE.q2; have kc3 := hE.p3; have kd3 := hE.q3; have kc4 := hE.p4; have kd4 := hE.q4))
  have hD := TwoW.drw hE
  have k0 := hD.p0
  have k1 := hD.q0
  refine wp_region_noPanic ?_
  refine wp_region_any (by kernel_rfl) ?_
  change wpAny _ _ _ _ _ _ _ (World.drew _)
  refine wpAny_ready (rs := [0]) (by kernel_rfl) (by simp) ?_
  refine AllReady.cons rfl (fun K hK => ?_) AllReady.nil
  go_simp
  refine hK _ _ ?_
  clear hK K
  refine wpAny_ready (rs := [1]) (by kernel_rfl) (by simp) ?_
  refine AllReady.cons rfl (fun K hK => ?_) AllReady.nil
  go_simp
  refine hK _ _ ?_
  clear hK K
  refine wpAny_ready (rs := [2]) (by kernel_rfl) (by simp) ?_
  refine AllReady.cons rfl (fun K hK => ?_) AllReady.nil
  go_simp
  refine (HF1.out _ ?_).mono ?_; exact hD.tab; rintro e w11 ⟨rfl, hb11⟩; have hG := TwoW.next hD hb11; clear hb11; have k2 := hG.q0
  go_simp
  refine hK _ _ ?_
  clear hK K
  refine wpAny_ready (rs := [3]) (by kernel_rfl) (by simp) ?_
  refine AllReady.cons rfl (fun K hK => ?_) AllReady.nil
  go_simp
  refine hK _ _ ?_
  clear hK K
  refine wpAny_ready (rs := [4]) (by kernel_rfl) (by simp) ?_
  refine AllReady.cons rfl (fun K hK => ?_) AllReady.nil
  go_simp
  refine hK _ _ ?_
  clear hK K
  refine wpAny_take (i := 5) (v := undef) rfl (by kernel_rfl) (by kernel_rfl) (by kernel_rfl) (fun _ _ _ h => h) (Or.inr ⟨by kernel_rfl, by kernel_rfl⟩) ?_
  refine wpAny_take (i := 6) (v := undef) rfl (by kernel_rfl) (by kernel_rfl) (by kernel_rfl) (fun _ _ _ h => h) (Or.inr ⟨by kernel_rfl, by kernel_rfl⟩) ?_
  refine wpAny_take (i := 7) (v := undef) rfl (by kernel_rfl) (by kernel_rfl) (by kernel_rfl) (fun _ _ _ h => h) (Or.inr ⟨by kernel_rfl, by kernel_rfl⟩) ?_
  refine wpAny_take (i := 8) (v := undef) rfl (by kernel_rfl) (by kernel_rfl) (by kernel_rfl) (fun _ _ _ h => h) (Or.inr ⟨by kernel_rfl, by kernel_rfl⟩) ?_
  refine wpAny_ready (rs := [9]) (by kernel_rfl) (by simp) ?_
  refine AllReady.cons rfl (fun K hK => ?_) AllReady.nil
  go_simp
  refine hK _ _ ?_
  clear hK K
  refine wpAny_ready (rs := [10]) (by kernel_rfl) (by simp) ?_
  refine AllReady.cons rfl (fun K hK => ?_) AllReady.nil
  go_simp
  refine hK _ _ ?_
  clear hK K
  refine wpAny_take (i := 11) (v := undef) rfl (by kernel_rfl) (by kernel_rfl) (by kernel_rfl) (fun _ _ _ h => h) (Or.inr ⟨by kernel_rfl, by kernel_rfl⟩) ?_
  refine wpAny_take (i := 12) (v := undef) rfl (by kernel_rfl) (by kernel_rfl) (by kernel_rfl) (fun _ _ _ h => h) (Or.inr ⟨by kernel_rfl, by kernel_rfl⟩) ?_
  refine wpAny_take (i := 13) (v := undef) rfl (by kernel_rfl) (by kernel_rfl) (by kernel_rfl) (fun _ _ _ h => h) (Or.inr ⟨by kernel_rfl, by kernel_rfl⟩) ?_
  refine wpAny_take (i := 14) (v := undef) rfl (by kernel_rfl) (by kernel_rfl) (by kernel_rfl) (fun _ _ _ h => h) (Or.inr ⟨by kernel_rfl, by kernel_rfl⟩) ?_
  refine wpAny_take (i := 15) (v := undef) rfl (by kernel_rfl) (by kernel_rfl) (by kernel_rfl) (fun _ _ _ h => h) (Or.inr ⟨by kernel_rfl, by kernel_rfl⟩) ?_
  refine wpAny_take (i := 16) (v := undef) rfl (by kernel_rfl) (by kernel_rfl) (by kernel_rfl) (fun _ _ _ h => h) (Or.inr ⟨by kernel_rfl, by kernel_rfl⟩) ?_
  refine wpAny_take (i := 17) (v := undef) rfl (by kernel_rfl) (by kernel_rfl) (by kernel_rfl) (fun _ _ _ h => h) (Or.inr ⟨by kernel_rfl, by kernel_rfl⟩) ?_
  refine wpAny_take (i := 18) (v := undef) rfl (by kernel_rfl) (by kernel_rfl) (by kernel_rfl) (fun _ _ _ h => h) (Or.inr ⟨by kernel_rfl, by kernel_rfl⟩) ?_
  refine wpAny_take (i := 19) (v := undef) rfl (by kernel_rfl) (by kernel_rfl) (by kernel_rfl) (fun _ _ _ h => h) (Or.inr ⟨by kernel_rfl, by kernel_rfl⟩) ?_
  refine wpAny_take (i := 20) (v := undef) rfl (by kernel_rfl) (by kernel_rfl) (by kernel_rfl) (fun _ _ _ h => h) (Or.inr ⟨by kernel_rfl, by kernel_rfl⟩) ?_
  refine wpAny_take (i := 21) (v := undef) rfl (by kernel_rfl) (by kernel_rfl) (by kernel_rfl) (fun _ _ _ h => h) (Or.inr ⟨by kernel_rfl, by kernel_rfl⟩) ?_
  refine wpAny_take (i := 22) (v := undef) rfl (by kernel_rfl) (by kernel_rfl) (by kernel_rfl) (fun _ _ _ h => h) (Or.inr ⟨by kernel_rfl, by kernel_rfl⟩) ?_
  refine wpAny_take (i := 23) (v := undef) rfl (by kernel_rfl) (by kernel_rfl) (by kernel_rfl) (fun _ _ _ h => h) (Or.inr ⟨by kernel_rfl, by kernel_rfl⟩) ?_
  refine wpAny_ready (rs := [24]) (by kernel_rfl) (by simp) ?_
  refine AllReady.cons rfl (fun K hK => ?_) AllReady.nil
  go_simp
  refine hK _ _ ?_
  clear hK K
  refine wpAny_done (by kernel_rfl) ?_ _
  refine NoPanic.normal ?_
  go_wp2_with (go_at_call 12; (with_reducible refine (awake_any _ ?_).mono ?_); refine TwoW.tab (w := w) (o := o) (a := a) (b := b) (c := c) (i := i) (o2 := o2) (a2 := a2) (b2 := b2) (c2 := c2) (i2 := i2) ?_; assumption; rintro e w10 ⟨rfl, hb⟩; have hL := TwoW.next (w := w) (o := o) (a := a) (b := b) (c := c) (i := i) (o2 := o2) (a2 := a2) (b2 := b2) (c2 := c2) (i2 := i2) (by assumption) hb)
  go_ret
  exact ⟨rfl, hL.bel⟩

set_option maxHeartbeats 1600000 in
set_option maxRecDepth 100000 in
theorem ap_ff_g0 (x y o a b c i o2 a2 b2 c2 i2 f g : Int) (n m : ByteArray) (w : World) (ht : Tab w) (HE1 : ∀ w, Tab w → Calls Tryd.prog 10 #[.agg #[.int .i64 o, .int .i64 a, .int .i64 b, .int .i64 c, .int .i64 i]] w fun e w' => e = .returned (.tuple #[.int .u32 0, .int .i64 21]) ∧ Below w.heap.size w w') (HE2 : ∀ w, Tab w → Calls Tryd.prog 10 #[.agg #[.int .i64 o2, .int .i64 a2, .int .i64 b2, .int .i64 c2, .int .i64 i2]] w fun e w' => e = .returned (.tuple #[.int .u32 0, .int .i64 21]) ∧ Below w.heap.size w w') (HF1 : ∀ w, Tab w → Calls Tryd.prog 15 #[.int .i64 o] w fun e w' => e = .returned (.int .i64 f) ∧ Below w.heap.size w w') (HF2 : ∀ w, Tab w → Calls Tryd.prog 15 #[.int .i64 o2] w fun e w' => e = .returned (.int .i64 0) ∧ Below w.heap.size w w') (hf1 : (f == 0) = false) (hf2 : (f != 0) = true) :
    Calls Tryd.prog 7 #[.agg #[.int .i64 o, .int .i64 a, .int .i64 b, .int .i64 c, .int .i64 i], .agg #[.int .i64 o2, .int .i64 a2, .int .i64 b2, .int .i64 c2, .int .i64 i2]] w fun e w' => e = .returned (.bool true) ∧ Below w.heap.size w w' := by
  have hu23 := Tryd.underlying23
  have hE0 := TwoW.start (o := o) (a := a) (b := b) (c := c) (i := i) (o2 := o2) (a2 := a2) (b2 := b2) (c2 := c2) (i2 := i2) ht
  have HE1 := Aside0.mk HE1
  have HE2 := Aside0.mk HE2
  have HF1 := Aside0.mk HF1
  have HF2 := Aside0.mk HF2
  clear ht
  go_enter Tryd.func7, Tryd.ntmps7
  go_wp2_with (first | (go_at_call 10; (with_reducible refine (HE1.out _ ?_).mono ?_); (refine TwoW.tab (w := w) (o := o) (a := a) (b := b) (c := c) (i := i) (o2 := o2) (a2 := a2) (b2 := b2) (c2 := c2) (i2 := i2) ?_; assumption); rintro e w9 ⟨rfl, hb9⟩; have hE := TwoW.next (w := w) (o := o) (a := a) (b := b) (c := c) (i := i) (o2 := o2) (a2 := a2) (b2 := b2) (c2 := c2) (i2 := i2) (by assumption) hb9; clear hb9; have kc0 := hE.p0; have kd0 := hE.q0; have kc1 := hE.p1; have kd1 := hE.q1; have kc2 := hE.p2; have kd2 := hE.q2; have kc3 := hE.p3; have kd3 := hE.q3; have kc4 := hE.p4; have kd4 := hE.q4) | (go_at_call 10; (with_reducible refine (HE2.out _ ?_).mono ?_); (refine TwoW.tab (w := w) (o := o) (a := a) (b := b) (c := c) (i := i) (o2 := o2) (a2 := a2) (b2 := b2) (c2 := c2) (i2 := i2) ?_; assumption); rintro e w9 ⟨rfl, hb9⟩; have hE := TwoW.next (w := w) (o := o) (a := a) (b := b) (c := c) (i := i) (o2 := o2) (a2 := a2) (b2 := b2) (c2 := c2) (i2 := i2) (by assumption) hb9; clear hb9; have kc0 := hE.p0; have kd0 := hE.q0; have kc1 := hE.p1; have kd1 := hE.q1; have kc2 := hE.p2; have kd2 := hE.q2; have kc3 := hE.p3; have kd3 := hE.q3; have kc4 := hE.p4; have kd4 := hE.q4))
  have hD := TwoW.drw hE
  have k0 := hD.p0
  have k1 := hD.q0
  refine wp_region_noPanic ?_
  refine wp_region_any (by kernel_rfl) ?_
  change wpAny _ _ _ _ _ _ _ (World.drew _)
  refine wpAny_ready (rs := [0]) (by kernel_rfl) (by simp) ?_
  refine AllReady.cons rfl (fun K hK => ?_) AllReady.nil
  go_simp
  refine hK _ _ ?_
  clear hK K
  refine wpAny_ready (rs := [1]) (by kernel_rfl) (by simp) ?_
  refine AllReady.cons rfl (fun K hK => ?_) AllReady.nil
  go_simp
  refine hK _ _ ?_
  clear hK K
  refine wpAny_ready (rs := [2]) (by kernel_rfl) (by simp) ?_
  refine AllReady.cons rfl (fun K hK => ?_) AllReady.nil
  go_simp
  refine (HF1.out _ ?_).mono ?_; exact hD.tab; rintro e w11 ⟨rfl, hb11⟩; have hG := TwoW.next hD hb11; clear hb11; have k2 := hG.q0
  go_simp
  refine hK _ _ ?_
  clear hK K
  refine wpAny_ready (rs := [3]) (by kernel_rfl) (by simp) ?_
  refine AllReady.cons rfl (fun K hK => ?_) AllReady.nil
  go_simp
  refine hK _ _ ?_
  clear hK K
  refine wpAny_ready (rs := [4]) (by kernel_rfl) (by simp) ?_
  refine AllReady.cons rfl (fun K hK => ?_) AllReady.nil
  go_simp
  refine hK _ _ ?_
  clear hK K
  refine wpAny_ready (rs := [5]) (by kernel_rfl) (by simp) ?_
  refine AllReady.cons rfl (fun K hK => ?_) AllReady.nil
  go_simp
  refine hK _ _ ?_
  clear hK K
  refine wpAny_ready (rs := [6]) (by kernel_rfl) (by simp) ?_
  refine AllReady.cons rfl (fun K hK => ?_) AllReady.nil
  go_simp
  refine hK _ _ ?_
  clear hK K
  refine wpAny_ready (rs := [7]) (by kernel_rfl) (by simp) ?_
  refine AllReady.cons rfl (fun K hK => ?_) AllReady.nil
  go_simp
  refine (HF2.out _ ?_).mono ?_; exact hG.tab; rintro e w12 ⟨rfl, hb12⟩; have hI := TwoW.next hG hb12; clear hb12
  go_simp
  refine hK _ _ ?_
  clear hK K
  refine wpAny_ready (rs := [8]) (by kernel_rfl) (by simp) ?_
  refine AllReady.cons rfl (fun K hK => ?_) AllReady.nil
  go_simp
  refine hK _ _ ?_
  clear hK K
  refine wpAny_ready (rs := [9]) (by kernel_rfl) (by simp) ?_
  refine AllReady.cons rfl (fun K hK => ?_) AllReady.nil
  go_simp
  refine hK _ _ ?_
  clear hK K
  refine wpAny_ready (rs := [10]) (by kernel_rfl) (by simp) ?_
  refine AllReady.cons rfl (fun K hK => ?_) AllReady.nil
  go_simp
  refine hK _ _ ?_
  clear hK K
  refine wpAny_take (i := 11) (v := undef) rfl (by kernel_rfl) (by kernel_rfl) (by kernel_rfl) (fun _ _ _ h => h) (Or.inr ⟨by kernel_rfl, by kernel_rfl⟩) ?_
  refine wpAny_take (i := 12) (v := undef) rfl (by kernel_rfl) (by kernel_rfl) (by kernel_rfl) (fun _ _ _ h => h) (Or.inr ⟨by kernel_rfl, by kernel_rfl⟩) ?_
  refine wpAny_take (i := 13) (v := undef) rfl (by kernel_rfl) (by kernel_rfl) (by kernel_rfl) (fun _ _ _ h => h) (Or.inr ⟨by kernel_rfl, by kernel_rfl⟩) ?_
  refine wpAny_take (i := 14) (v := undef) rfl (by kernel_rfl) (by kernel_rfl) (by kernel_rfl) (fun _ _ _ h => h) (Or.inr ⟨by kernel_rfl, by kernel_rfl⟩) ?_
  refine wpAny_take (i := 15) (v := undef) rfl (by kernel_rfl) (by kernel_rfl) (by kernel_rfl) (fun _ _ _ h => h) (Or.inr ⟨by kernel_rfl, by kernel_rfl⟩) ?_
  refine wpAny_take (i := 16) (v := undef) rfl (by kernel_rfl) (by kernel_rfl) (by kernel_rfl) (fun _ _ _ h => h) (Or.inr ⟨by kernel_rfl, by kernel_rfl⟩) ?_
  refine wpAny_take (i := 17) (v := undef) rfl (by kernel_rfl) (by kernel_rfl) (by kernel_rfl) (fun _ _ _ h => h) (Or.inr ⟨by kernel_rfl, by kernel_rfl⟩) ?_
  refine wpAny_take (i := 18) (v := undef) rfl (by kernel_rfl) (by kernel_rfl) (by kernel_rfl) (fun _ _ _ h => h) (Or.inr ⟨by kernel_rfl, by kernel_rfl⟩) ?_
  refine wpAny_take (i := 19) (v := undef) rfl (by kernel_rfl) (by kernel_rfl) (by kernel_rfl) (fun _ _ _ h => h) (Or.inr ⟨by kernel_rfl, by kernel_rfl⟩) ?_
  refine wpAny_take (i := 20) (v := undef) rfl (by kernel_rfl) (by kernel_rfl) (by kernel_rfl) (fun _ _ _ h => h) (Or.inr ⟨by kernel_rfl, by kernel_rfl⟩) ?_
  refine wpAny_take (i := 21) (v := undef) rfl (by kernel_rfl) (by kernel_rfl) (by kernel_rfl) (fun _ _ _ h => h) (Or.inr ⟨by kernel_rfl, by kernel_rfl⟩) ?_
  refine wpAny_take (i := 22) (v := undef) rfl (by kernel_rfl) (by kernel_rfl) (by kernel_rfl) (fun _ _ _ h => h) (Or.inr ⟨by kernel_rfl, by kernel_rfl⟩) ?_
  refine wpAny_take (i := 23) (v := undef) rfl (by kernel_rfl) (by kernel_rfl) (by kernel_rfl) (fun _ _ _ h => h) (Or.inr ⟨by kernel_rfl, by kernel_rfl⟩) ?_
  refine wpAny_ready (rs := [24]) (by kernel_rfl) (by simp) ?_
  refine AllReady.cons rfl (fun K hK => ?_) AllReady.nil
  go_simp
  refine hK _ _ ?_
  clear hK K
  refine wpAny_done (by kernel_rfl) ?_ _
  refine NoPanic.normal ?_
  go_wp2_with (go_at_call 12; (with_reducible refine (awake_any _ ?_).mono ?_); refine TwoW.tab (w := w) (o := o) (a := a) (b := b) (c := c) (i := i) (o2 := o2) (a2 := a2) (b2 := b2) (c2 := c2) (i2 := i2) ?_; assumption; rintro e w10 ⟨rfl, hb⟩; have hL := TwoW.next (w := w) (o := o) (a := a) (b := b) (c := c) (i := i) (o2 := o2) (a2 := a2) (b2 := b2) (c2 := c2) (i2 := i2) (by assumption) hb)
  go_ret
  exact ⟨rfl, hL.bel⟩

set_option maxHeartbeats 1600000 in
set_option maxRecDepth 100000 in
theorem ap_ff_opsame (x y o a b c i o2 a2 b2 c2 i2 f g : Int) (n m : ByteArray) (w : World) (ht : Tab w) (HE1 : ∀ w, Tab w → Calls Tryd.prog 10 #[.agg #[.int .i64 o, .int .i64 a, .int .i64 b, .int .i64 c, .int .i64 i]] w fun e w' => e = .returned (.tuple #[.int .u32 0, .int .i64 21]) ∧ Below w.heap.size w w') (HE2 : ∀ w, Tab w → Calls Tryd.prog 10 #[.agg #[.int .i64 o, .int .i64 a2, .int .i64 b2, .int .i64 c2, .int .i64 i2]] w fun e w' => e = .returned (.tuple #[.int .u32 0, .int .i64 21]) ∧ Below w.heap.size w w') (HF1 : ∀ w, Tab w → Calls Tryd.prog 15 #[.int .i64 o] w fun e w' => e = .returned (.int .i64 f) ∧ Below w.heap.size w w') (HN1 : ∀ w, Tab w → Calls Tryd.prog 16 #[.int .i64 o] w fun e w' => e = .returned (.string n) ∧ Below w.heap.size w w') (hf1 : (f == 0) = false) (hf2 : (f != 0) = true) :
    Calls Tryd.prog 7 #[.agg #[.int .i64 o, .int .i64 a, .int .i64 b, .int .i64 c, .int .i64 i], .agg #[.int .i64 o, .int .i64 a2, .int .i64 b2, .int .i64 c2, .int .i64 i2]] w fun e w' => e = .returned (.bool true) ∧ Below w.heap.size w w' := by
  have hu23 := Tryd.underlying23
  have hE0 := TwoW.start (o := o) (a := a) (b := b) (c := c) (i := i) (o2 := o) (a2 := a2) (b2 := b2) (c2 := c2) (i2 := i2) ht
  have HE1 := Aside0.mk HE1
  have HE2 := Aside0.mk HE2
  have HF1 := Aside0.mk HF1
  have HN1 := Aside0.mk HN1
  clear ht
  go_enter Tryd.func7, Tryd.ntmps7
  go_wp2_with (first | (go_at_call 10; (with_reducible refine (HE1.out _ ?_).mono ?_); (refine TwoW.tab (w := w) (o := o) (a := a) (b := b) (c := c) (i := i) (o2 := o) (a2 := a2) (b2 := b2) (c2 := c2) (i2 := i2) ?_; assumption); rintro e w9 ⟨rfl, hb9⟩; have hE := TwoW.next (w := w) (o := o) (a := a) (b := b) (c := c) (i := i) (o2 := o) (a2 := a2) (b2 := b2) (c2 := c2) (i2 := i2) (by assumption) hb9; clear hb9; have kc0 := hE.p0; have kd0 := hE.q0; have kc1 := hE.p1; have kd1 := hE.q1; have kc2 := hE.p2; have kd2 := hE.q2; have kc3 := hE.p3; have kd3 := hE.q3; have kc4 := hE.p4; have kd4 := hE.q4) | (go_at_call 10; (with_reducible refine (HE2.out _ ?_).mono ?_); (refine TwoW.tab (w := w) (o := o) (a := a) (b := b) (c := c) (i := i) (o2 := o) (a2 := a2) (b2 := b2) (c2 := c2) (i2 := i2) ?_; assumption); rintro e w9 ⟨rfl, hb9⟩; have hE := TwoW.next (w := w) (o := o) (a := a) (b := b) (c := c) (i := i) (o2 := o) (a2 := a2) (b2 := b2) (c2 := c2) (i2 := i2) (by assumption) hb9; clear hb9; have kc0 := hE.p0; have kd0 := hE.q0; have kc1 := hE.p1; have kd1 := hE.q1; have kc2 := hE.p2; have kd2 := hE.q2; have kc3 := hE.p3; have kd3 := hE.q3; have kc4 := hE.p4; have kd4 := hE.q4))
  go_region_held3 (fun w' => w'.cell? ⟨w.heap.size, 0, none⟩ = some (.int .i64 o) ∧ w'.cell? ⟨w.heap.size + 1, 0, none⟩ = some (.int .i64 o) ∧ TwoW w w' o a b c i o a2 b2 c2 i2) (first | exact TwoW.all (by assumption) | exact TwoW.all (TwoW.drw (by assumption))) (first | (go_at_call 15; (with_reducible refine (HF1.out _ ?_).mono ?_); refine TwoW.tab (TwoW.of (w := w) (o := o) (a := a) (b := b) (c := c) (i := i) (o2 := o) (a2 := a2) (b2 := b2) (c2 := c2) (i2 := i2) ?_); assumption; rintro e w9 ⟨rfl, hb9⟩; have hE9 := TwoW.next (TwoW.of (w := w) (o := o) (a := a) (b := b) (c := c) (i := i) (o2 := o) (a2 := a2) (b2 := b2) (c2 := c2) (i2 := i2) (by assumption)) hb9; clear hb9) | (go_at_call 16; (with_reducible refine (HN1.out _ ?_).mono ?_); refine TwoW.tab (TwoW.of (w := w) (o := o) (a := a) (b := b) (c := c) (i := i) (o2 := o) (a2 := a2) (b2 := b2) (c2 := c2) (i2 := i2) ?_); assumption; rintro e w9 ⟨rfl, hb9⟩; have hE9 := TwoW.next (TwoW.of (w := w) (o := o) (a := a) (b := b) (c := c) (i := i) (o2 := o) (a2 := a2) (b2 := b2) (c2 := c2) (i2 := i2) (by assumption)) hb9; clear hb9))
  all_goals have hM := TwoW.of (w := w) (o := o) (a := a) (b := b) (c := c) (i := i) (o2 := o) (a2 := a2) (b2 := b2) (c2 := c2) (i2 := i2) (by assumption)
  all_goals go_wp2_with (go_at_call 12; (with_reducible refine (awake_any _ ?_).mono ?_); refine TwoW.tab (w := w) (o := o) (a := a) (b := b) (c := c) (i := i) (o2 := o) (a2 := a2) (b2 := b2) (c2 := c2) (i2 := i2) ?_; assumption; rintro e w10 ⟨rfl, hb⟩; have hL := TwoW.next (w := w) (o := o) (a := a) (b := b) (c := c) (i := i) (o2 := o) (a2 := a2) (b2 := b2) (c2 := c2) (i2 := i2) (by assumption) hb)
  all_goals go_ret
  all_goals exact ⟨rfl, hL.bel⟩

set_option maxHeartbeats 1600000 in
set_option maxRecDepth 100000 in
theorem ap_ff_opdiff (x y o a b c i o2 a2 b2 c2 i2 f g : Int) (n m : ByteArray) (w : World) (ht : Tab w) (HE1 : ∀ w, Tab w → Calls Tryd.prog 10 #[.agg #[.int .i64 o, .int .i64 a, .int .i64 b, .int .i64 c, .int .i64 i]] w fun e w' => e = .returned (.tuple #[.int .u32 0, .int .i64 21]) ∧ Below w.heap.size w w') (HE2 : ∀ w, Tab w → Calls Tryd.prog 10 #[.agg #[.int .i64 o2, .int .i64 a2, .int .i64 b2, .int .i64 c2, .int .i64 i2]] w fun e w' => e = .returned (.tuple #[.int .u32 0, .int .i64 21]) ∧ Below w.heap.size w w') (HF1 : ∀ w, Tab w → Calls Tryd.prog 15 #[.int .i64 o] w fun e w' => e = .returned (.int .i64 f) ∧ Below w.heap.size w w') (HF2 : ∀ w, Tab w → Calls Tryd.prog 15 #[.int .i64 o2] w fun e w' => e = .returned (.int .i64 g) ∧ Below w.heap.size w w') (HN1 : ∀ w, Tab w → Calls Tryd.prog 16 #[.int .i64 o] w fun e w' => e = .returned (.string n) ∧ Below w.heap.size w w') (HN2 : ∀ w, Tab w → Calls Tryd.prog 16 #[.int .i64 o2] w fun e w' => e = .returned (.string m) ∧ Below w.heap.size w w') (hf1 : (f == 0) = false) (hf2 : (f != 0) = true) (hg1 : (g == 0) = false) (hg2 : (g != 0) = true) (ho : (o == o2) = false) (hn : (n.toList == m.toList) = false) :
    Calls Tryd.prog 7 #[.agg #[.int .i64 o, .int .i64 a, .int .i64 b, .int .i64 c, .int .i64 i], .agg #[.int .i64 o2, .int .i64 a2, .int .i64 b2, .int .i64 c2, .int .i64 i2]] w fun e w' => e = .returned (.bool true) ∧ Below w.heap.size w w' := by
  have hu23 := Tryd.underlying23
  have hE0 := TwoW.start (o := o) (a := a) (b := b) (c := c) (i := i) (o2 := o2) (a2 := a2) (b2 := b2) (c2 := c2) (i2 := i2) ht
  have HE1 := Aside0.mk HE1
  have HE2 := Aside0.mk HE2
  have HF1 := Aside0.mk HF1
  have HF2 := Aside0.mk HF2
  have HN1 := Aside0.mk HN1
  have HN2 := Aside0.mk HN2
  clear ht
  go_enter Tryd.func7, Tryd.ntmps7
  go_wp2_with (first | (go_at_call 10; (with_reducible refine (HE1.out _ ?_).mono ?_); (refine TwoW.tab (w := w) (o := o) (a := a) (b := b) (c := c) (i := i) (o2 := o2) (a2 := a2) (b2 := b2) (c2 := c2) (i2 := i2) ?_; assumption); rintro e w9 ⟨rfl, hb9⟩; have hE := TwoW.next (w := w) (o := o) (a := a) (b := b) (c := c) (i := i) (o2 := o2) (a2 := a2) (b2 := b2) (c2 := c2) (i2 := i2) (by assumption) hb9; clear hb9; have kc0 := hE.p0; have kd0 := hE.q0; have kc1 := hE.p1; have kd1 := hE.q1; have kc2 := hE.p2; have kd2 := hE.q2; have kc3 := hE.p3; have kd3 := hE.q3; have kc4 := hE.p4; have kd4 := hE.q4) | (go_at_call 10; (with_reducible refine (HE2.out _ ?_).mono ?_); (refine TwoW.tab (w := w) (o := o) (a := a) (b := b) (c := c) (i := i) (o2 := o2) (a2 := a2) (b2 := b2) (c2 := c2) (i2 := i2) ?_; assumption); rintro e w9 ⟨rfl, hb9⟩; have hE := TwoW.next (w := w) (o := o) (a := a) (b := b) (c := c) (i := i) (o2 := o2) (a2 := a2) (b2 := b2) (c2 := c2) (i2 := i2) (by assumption) hb9; clear hb9; have kc0 := hE.p0; have kd0 := hE.q0; have kc1 := hE.p1; have kd1 := hE.q1; have kc2 := hE.p2; have kd2 := hE.q2; have kc3 := hE.p3; have kd3 := hE.q3; have kc4 := hE.p4; have kd4 := hE.q4))
  go_region_held3 (fun w' => w'.cell? ⟨w.heap.size, 0, none⟩ = some (.int .i64 o) ∧ w'.cell? ⟨w.heap.size + 1, 0, none⟩ = some (.int .i64 o2) ∧ TwoW w w' o a b c i o2 a2 b2 c2 i2) (first | exact TwoW.all (by assumption) | exact TwoW.all (TwoW.drw (by assumption))) (first | (go_at_call 15; (with_reducible refine (HF1.out _ ?_).mono ?_); refine TwoW.tab (TwoW.of (w := w) (o := o) (a := a) (b := b) (c := c) (i := i) (o2 := o2) (a2 := a2) (b2 := b2) (c2 := c2) (i2 := i2) ?_); assumption; rintro e w9 ⟨rfl, hb9⟩; have hE9 := TwoW.next (TwoW.of (w := w) (o := o) (a := a) (b := b) (c := c) (i := i) (o2 := o2) (a2 := a2) (b2 := b2) (c2 := c2) (i2 := i2) (by assumption)) hb9; clear hb9) | (go_at_call 15; (with_reducible refine (HF2.out _ ?_).mono ?_); refine TwoW.tab (TwoW.of (w := w) (o := o) (a := a) (b := b) (c := c) (i := i) (o2 := o2) (a2 := a2) (b2 := b2) (c2 := c2) (i2 := i2) ?_); assumption; rintro e w9 ⟨rfl, hb9⟩; have hE9 := TwoW.next (TwoW.of (w := w) (o := o) (a := a) (b := b) (c := c) (i := i) (o2 := o2) (a2 := a2) (b2 := b2) (c2 := c2) (i2 := i2) (by assumption)) hb9; clear hb9) | (go_at_call 16; (with_reducible refine (HN1.out _ ?_).mono ?_); refine TwoW.tab (TwoW.of (w := w) (o := o) (a := a) (b := b) (c := c) (i := i) (o2 := o2) (a2 := a2) (b2 := b2) (c2 := c2) (i2 := i2) ?_); assumption; rintro e w9 ⟨rfl, hb9⟩; have hE9 := TwoW.next (TwoW.of (w := w) (o := o) (a := a) (b := b) (c := c) (i := i) (o2 := o2) (a2 := a2) (b2 := b2) (c2 := c2) (i2 := i2) (by assumption)) hb9; clear hb9) | (go_at_call 16; (with_reducible refine (HN2.out _ ?_).mono ?_); refine TwoW.tab (TwoW.of (w := w) (o := o) (a := a) (b := b) (c := c) (i := i) (o2 := o2) (a2 := a2) (b2 := b2) (c2 := c2) (i2 := i2) ?_); assumption; rintro e w9 ⟨rfl, hb9⟩; have hE9 := TwoW.next (TwoW.of (w := w) (o := o) (a := a) (b := b) (c := c) (i := i) (o2 := o2) (a2 := a2) (b2 := b2) (c2 := c2) (i2 := i2) (by assumption)) hb9; clear hb9))
  all_goals have hM := TwoW.of (w := w) (o := o) (a := a) (b := b) (c := c) (i := i) (o2 := o2) (a2 := a2) (b2 := b2) (c2 := c2) (i2 := i2) (by assumption)
  all_goals go_wp2_with (go_at_call 12; (with_reducible refine (awake_any _ ?_).mono ?_); refine TwoW.tab (w := w) (o := o) (a := a) (b := b) (c := c) (i := i) (o2 := o2) (a2 := a2) (b2 := b2) (c2 := c2) (i2 := i2) ?_; assumption; rintro e w10 ⟨rfl, hb⟩; have hL := TwoW.next (w := w) (o := o) (a := a) (b := b) (c := c) (i := i) (o2 := o2) (a2 := a2) (b2 := b2) (c2 := c2) (i2 := i2) (by assumption) hb)
  all_goals go_ret
  all_goals exact ⟨rfl, hL.bel⟩

end Go.Proofs.YtdoighcgfbnigaaDoor.Isa
