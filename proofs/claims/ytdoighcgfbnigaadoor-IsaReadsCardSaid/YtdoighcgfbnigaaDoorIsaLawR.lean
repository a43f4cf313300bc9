/- Isa: the law IsaReads, its walk. -/
import Derived.Test.YtdoighcgfbnigaaDoorIsaAwake
namespace Go.Proofs.YtdoighcgfbnigaaDoor.Isa
set_option linter.unusedVariables false
set_option linter.unusedSimpArgs false
open Go.RowKit Go.Proofs.YtdoighcgfbnigaaDoorW.PrintWords Go.Proofs.YtdoighcgfbnigaaDoorW.PrintLast Go.Proofs.YtdoighcgfbnigaaDoorW.PrintMore

set_option maxHeartbeats 1600000 in
set_option maxRecDepth 100000 in
theorem reads_w (x o a b c i r : Int) (w : World) (ht : Tab w) (HD : ∀ w, Tab w → Calls Tryd.prog 13 #[.int .u32 x] w fun e w' => e = .returned (.tuple #[.agg #[.int .i64 o, .int .i64 a, .int .i64 b, .int .i64 c, .int .i64 i], .int .i64 r]) ∧ Below w.heap.size w w') (HR : ∀ w, Calls Tryd.prog 14 #[.int .u32 x] w fun e w' => e = .returned (.tuple #[.agg #[.int .i64 o, .int .i64 a, .int .i64 b, .int .i64 c, .int .i64 i], .int .i64 r]) ∧ Below w.heap.size w w') :
    Calls Tryd.prog 4 #[.int .u32 x] w fun e w' => e = .returned (.bool true) ∧ Below w.heap.size w w' := by
  have hu23 := Tryd.underlying23
  have HT := Aside0.mk ht
  have HD := Aside0.mk HD
  have HR := Aside0.mk HR
  clear ht
  go_enter Tryd.func4, Tryd.ntmps4
  go_wp2_with (first | (go_at_call 13; (with_reducible refine (HD.out _ (by repeat (first | exact HT.out | apply Tab.drew | apply Tab.alloc | (refine Tab.set ?_ _ _ _ (by omega))))).mono ?_); rintro e w1 ⟨rfl, hb⟩; have HT1 := Aside0.mk (Tab.below (by repeat (first | exact HT.out | apply Tab.drew | apply Tab.alloc | (refine Tab.set ?_ _ _ _ (by omega)))) hb); obtain ⟨hc1, hf1⟩ := bcell hb; have hq1 := hb.size; (try simp at hq1); have hz1 : w.heap.size ≤ w1.heap.size := (by have := hb.size; (try simp at this); omega); (try have hl01 : w.heap.size < w1.heap.size := (by omega)); have HB1 := Aside0.mk hb; clear hb) | (go_at_call 14; (with_reducible refine (HR.out _).mono ?_); rintro e w2 ⟨rfl, hb⟩; have HT2 := Aside0.mk (Tab.below (by repeat (first | exact HT1.out | apply Tab.drew | apply Tab.alloc | (refine Tab.set ?_ _ _ _ (by omega)))) hb); obtain ⟨hc2, hf2⟩ := bcell hb; have hq2 := hb.size; (try simp at hq2); have hz2 : w.heap.size ≤ w2.heap.size := (by have := hb.size; (try simp at this); omega); (try have hl02 : w.heap.size < w2.heap.size := (by omega)); (try have hl12 : w1.heap.size < w2.heap.size := (by omega)); have HB2 := Aside0.mk hb; clear hb) | (go_at_call 12; (with_reducible refine (awake_any _ (by repeat (first | exact HT2.out | apply Tab.drew | apply Tab.alloc | (refine Tab.set ?_ _ _ _ (by omega))))).mono ?_); rintro e w3 ⟨rfl, hb⟩; have HT3 := Aside0.mk (Tab.below (by repeat (first | exact HT2.out | apply Tab.drew | apply Tab.alloc | (refine Tab.set ?_ _ _ _ (by omega)))) hb); have hq3 := hb.size; (try simp at hq3); have hz3 : w.heap.size ≤ w3.heap.size := (by have := hb.size; (try simp at this); omega); (try have hl03 : w.heap.size < w3.heap.size := (by omega)); (try have hl13 : w1.heap.size < w3.heap.size := (by omega)); (try have hl23 : w2.heap.size < w3.heap.size := (by omega)); have HB3 := Aside0.mk hb; clear hb))
  go_ret
  refine ⟨rfl, ?_⟩
  repeat (first | (with_reducible exact Below.refl _ _) | (with_reducible refine Below.trans ?_ (HB3.out.mono (by first | omega | (simp; done) | (simp; omega)))) | (with_reducible refine Below.trans ?_ (HB2.out.mono (by first | omega | (simp; done) | (simp; omega)))) | (with_reducible refine Below.trans ?_ (HB1.out.mono (by first | omega | (simp; done) | (simp; omega)))) | (with_reducible apply pw_below_drewN) | (with_reducible refine below_set ?_ (by omega)) | (with_reducible refine Below.alloc ?_ (by first | omega | (simp; done) | (simp; omega)) _))

theorem reads_any (x : Int) (w : World) (ht : Tab w) (x0 : 0 ≤ x) (x1 : x < 4294967296) :
    Calls Tryd.prog 4 #[.int .u32 x] w fun e w' => e = .returned (.bool true) ∧ Below w.heap.size w w' := by
  have hd := fun w ht => dec_any x w ht x0 x1
  have hr : ∀ w, Calls Tryd.prog 14 #[.int .u32 x] w fun e w' => e = .returned (if okWord x then .tuple #[.agg #[.int .i64 (dop x), .int .i64 (da x), .int .i64 (db x), .int .i64 (dc x), .int .i64 (di x)], .int .i64 0] else .tuple #[.agg #[.int .i64 0, .int .i64 0, .int .i64 0, .int .i64 0, .int .i64 0], .int .i64 20]) ∧ Below w.heap.size w w' := by
    intro w
    have h := decode_ref x x0 x1
    by_cases ho : okWord x = true
    · rw [if_pos ho] at h ⊢
      exact PDecode.bulkheadref02_Decode.calls 6 x _ _ _ _ _ _ w h
    · rw [if_neg ho] at h ⊢
      exact PDecode.bulkheadref02_Decode.calls 6 x _ _ _ _ _ _ w h
  by_cases ho : okWord x = true
  · simp only [if_pos ho] at hd hr
    exact reads_w x _ _ _ _ _ _ w ht hd hr
  · simp only [if_neg ho] at hd hr
    exact reads_w x _ _ _ _ _ _ w ht hd hr
end Go.Proofs.YtdoighcgfbnigaaDoor.Isa
