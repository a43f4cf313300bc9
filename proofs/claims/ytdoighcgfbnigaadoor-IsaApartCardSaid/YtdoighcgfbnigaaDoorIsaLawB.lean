/- Isa: the law IsaBack, its walk; an instruction that has a word is that word's. -/
import Derived.Test.YtdoighcgfbnigaaDoorIsaAwake
namespace Go.Proofs.YtdoighcgfbnigaaDoor.Isa
set_option linter.unusedVariables false
set_option linter.unusedSimpArgs false
open Go.RowKit Go.Proofs.YtdoighcgfbnigaaDoorW.PrintWords Go.Proofs.YtdoighcgfbnigaaDoorW.PrintLast Go.Proofs.YtdoighcgfbnigaaDoorW.PrintMore

set_option maxHeartbeats 1600000 in
set_option maxRecDepth 100000 in
theorem back_tt (x y o a b c i o' a' b' c' i' : Int) (w : World) (ht : Tab w) (HD : ∀ w, Tab w → Calls Tryd.prog 13 #[.int .u32 x] w fun e w' => e = .returned (.tuple #[.agg #[.int .i64 o', .int .i64 a', .int .i64 b', .int .i64 c', .int .i64 i'], .int .i64 0]) ∧ Below w.heap.size w w') (HE1 : ∀ w, Tab w → Calls Tryd.prog 10 #[.agg #[.int .i64 o', .int .i64 a', .int .i64 b', .int .i64 c', .int .i64 i']] w fun e w' => e = .returned (.tuple #[.int .u32 x, .int .i64 0]) ∧ Below w.heap.size w w') (HE : ∀ w, Tab w → Calls Tryd.prog 10 #[.agg #[.int .i64 o, .int .i64 a, .int .i64 b, .int .i64 c, .int .i64 i]] w fun e w' => e = .returned (.tuple #[.int .u32 y, .int .i64 0]) ∧ Below w.heap.size w w') (HD1 : ∀ w, Tab w → Calls Tryd.prog 13 #[.int .u32 y] w fun e w' => e = .returned (.tuple #[.agg #[.int .i64 o, .int .i64 a, .int .i64 b, .int .i64 c, .int .i64 i], .int .i64 0]) ∧ Below w.heap.size w w') :
    Calls Tryd.prog 5 #[.int .u32 x, .agg #[.int .i64 o, .int .i64 a, .int .i64 b, .int .i64 c, .int .i64 i]] w fun e w' => e = .returned (.bool true) ∧ Below w.heap.size w w' := by
  have hu23 := Tryd.underlying23
  have HT := Aside0.mk ht
  have HD := Aside0.mk HD
  have HE1 := Aside0.mk HE1
  have HE := Aside0.mk HE
  have HD1 := Aside0.mk HD1
  clear ht
  go_enter Tryd.func5, Tryd.ntmps5
  go_wp2_with (first | (go_at_call 13; (with_reducible refine (HD.out _ (by repeat (first | exact HT.out | apply Tab.drew | apply Tab.alloc | (refine Tab.set ?_ _ _ _ (by omega))))).mono ?_); rintro e w1 ⟨rfl, hb⟩; have HT1 := Aside0.mk (Tab.below (by repeat (first | exact HT.out | apply Tab.drew | apply Tab.alloc | (refine Tab.set ?_ _ _ _ (by omega)))) hb); obtain ⟨hc1, hf1⟩ := bcell hb; have hq1 := hb.size; (try simp at hq1); have hz1 : w.heap.size ≤ w1.heap.size := (by have := hb.size; (try simp at this); omega); (try have hl01 : w.heap.size < w1.heap.size := (by omega)); have HB1 := Aside0.mk hb; clear hb) | (go_at_call 10; (with_reducible refine (HE1.out _ (by repeat (first | exact HT1.out | apply Tab.drew | apply Tab.alloc | (refine Tab.set ?_ _ _ _ (by omega))))).mono ?_); rintro e w2 ⟨rfl, hb⟩; have HT2 := Aside0.mk (Tab.below (by repeat (first | exact HT1.out | apply Tab.drew | apply Tab.alloc | (refine Tab.set ?_ _ _ _ (by omega)))) hb); obtain ⟨hc2, hf2⟩ := bcell hb; have hq2 := hb.size; (try simp at hq2); have hz2 : w.heap.size ≤ w2.heap.size := (by have := hb.size; (try simp at this); omega); (try have hl02 : w.heap.size < w2.heap.size := (by omega)); (try have hl12 : w1.heap.size < w2.heap.size := (by omega)); have HB2 := Aside0.mk hb; clear hb) | (go_at_call 10; (with_reducible refine (HE.out _ (by repeat (first | exact HT2.out | apply Tab.drew | apply Tab.alloc | (refine Tab.set ?_ _ _ _ (by omega))))).mono ?_); rintro e w3 ⟨rfl, hb⟩; have HT3 := Aside0.mk (Tab.below (by repeat (first | exact HT2.out | apply Tab.drew | apply Tab.alloc | (refine Tab.set ?_ _ _ _ (by omega)))) hb); obtain ⟨hc3, hf3⟩ := bcell hb; have hq3 := hb.size; (try simp at hq3); have hz3 : w.heap.size ≤ w3.heap.size := (by have := hb.size; (try simp at this); omega); (try have hl03 : w.heap.size < w3.heap.size := (by omega)); (try have hl13 : w1.heap.size < w3.heap.size := (by omega)); (try have hl23 : w2.heap.size < w3.heap.size := (by omega)); have HB3 := Aside0.mk hb; clear hb) | (go_at_call 13; (with_reducible refine (HD1.out _ (by repeat (first | exact HT3.out | apply Tab.drew | apply Tab.alloc | (refine Tab.set ?_ _ _ _ (by omega))))).mono ?_); rintro e w4 ⟨rfl, hb⟩; have HT4 := Aside0.mk (Tab.below (by repeat (first | exact HT3.out | apply Tab.drew | apply Tab.alloc | (refine Tab.set ?_ _ _ _ (by omega)))) hb); obtain ⟨hc4, hf4⟩ := bcell hb; have hq4 := hb.size; (try simp at hq4); have hz4 : w.heap.size ≤ w4.heap.size := (by have := hb.size; (try simp at this); omega); (try have hl04 : w.heap.size < w4.heap.size := (by omega)); (try have hl14 : w1.heap.size < w4.heap.size := (by omega)); (try have hl24 : w2.heap.size < w4.heap.size := (by omega)); (try have hl34 : w3.heap.size < w4.heap.size := (by omega)); have HB4 := Aside0.mk hb; clear hb) | (go_at_call 12; (with_reducible refine (awake_any _ (by repeat (first | exact HT4.out | apply Tab.drew | apply Tab.alloc | (refine Tab.set ?_ _ _ _ (by omega))))).mono ?_); rintro e w5 ⟨rfl, hb⟩; have HT5 := Aside0.mk (Tab.below (by repeat (first | exact HT4.out | apply Tab.drew | apply Tab.alloc | (refine Tab.set ?_ _ _ _ (by omega)))) hb); have hq5 := hb.size; (try simp at hq5); have hz5 : w.heap.size ≤ w5.heap.size := (by have := hb.size; (try simp at this); omega); (try have hl05 : w.heap.size < w5.heap.size := (by omega)); (try have hl15 : w1.heap.size < w5.heap.size := (by omega)); (try have hl25 : w2.heap.size < w5.heap.size := (by omega)); (try have hl35 : w3.heap.size < w5.heap.size := (by omega)); (try have hl45 : w4.heap.size < w5.heap.size := (by omega)); have HB5 := Aside0.mk hb; clear hb))
  go_ret
  refine ⟨rfl, ?_⟩
  repeat (first | (with_reducible exact Below.refl _ _) | (with_reducible refine Below.trans ?_ (HB5.out.mono (by first | omega | (simp; done) | (simp; omega)))) | (with_reducible refine Below.trans ?_ (HB4.out.mono (by first | omega | (simp; done) | (simp; omega)))) | (with_reducible refine Below.trans ?_ (HB3.out.mono (by first | omega | (simp; done) | (simp; omega)))) | (with_reducible refine Below.trans ?_ (HB2.out.mono (by first | omega | (simp; done) | (simp; omega)))) | (with_reducible refine Below.trans ?_ (HB1.out.mono (by first | omega | (simp; done) | (simp; omega)))) | (with_reducible apply pw_below_drewN) | (with_reducible refine below_set ?_ (by omega)) | (with_reducible refine Below.alloc ?_ (by first | omega | (simp; done) | (simp; omega)) _))

set_option maxHeartbeats 1600000 in
set_option maxRecDepth 100000 in
theorem back_tf (x y o a b c i o' a' b' c' i' : Int) (w : World) (ht : Tab w) (HD : ∀ w, Tab w → Calls Tryd.prog 13 #[.int .u32 x] w fun e w' => e = .returned (.tuple #[.agg #[.int .i64 o', .int .i64 a', .int .i64 b', .int .i64 c', .int .i64 i'], .int .i64 0]) ∧ Below w.heap.size w w') (HE1 : ∀ w, Tab w → Calls Tryd.prog 10 #[.agg #[.int .i64 o', .int .i64 a', .int .i64 b', .int .i64 c', .int .i64 i']] w fun e w' => e = .returned (.tuple #[.int .u32 x, .int .i64 0]) ∧ Below w.heap.size w w') (HE : ∀ w, Tab w → Calls Tryd.prog 10 #[.agg #[.int .i64 o, .int .i64 a, .int .i64 b, .int .i64 c, .int .i64 i]] w fun e w' => e = .returned (.tuple #[.int .u32 0, .int .i64 21]) ∧ Below w.heap.size w w') :
    Calls Tryd.prog 5 #[.int .u32 x, .agg #[.int .i64 o, .int .i64 a, .int .i64 b, .int .i64 c, .int .i64 i]] w fun e w' => e = .returned (.bool true) ∧ Below w.heap.size w w' := by
  have hu23 := Tryd.underlying23
  have HT := Aside0.mk ht
  have HD := Aside0.mk HD
  have HE1 := Aside0.mk HE1
  have HE := Aside0.mk HE
  clear ht
  go_enter Tryd.func5, Tryd.ntmps5
  go_wp2_with (first | (go_at_call 13; (with_reducible refine (HD.out _ (by repeat (first | exact HT.out | apply Tab.drew | apply Tab.alloc | (refine Tab.set ?_ _ _ _ (by omega))))).mono ?_); rintro e w1 ⟨rfl, hb⟩; have HT1 := Aside0.mk (Tab.below (by repeat (first | exact HT.out | apply Tab.drew | apply Tab.alloc | (refine Tab.set ?_ _ _ _ (by omega)))) hb); obtain ⟨hc1, hf1⟩ := bcell hb; have hq1 := hb.size; (try simp at hq1); have hz1 : w.heap.size ≤ w1.heap.size := (by have := hb.size; (try simp at this); omega); (try have hl01 : w.heap.size < w1.heap.size := (by omega)); have HB1 := Aside0.mk hb; clear hb) | (go_at_call 10; (with_reducible refine (HE1.out _ (by repeat (first | exact HT1.out | apply Tab.drew | apply Tab.alloc | (refine Tab.set ?_ _ _ _ (by omega))))).mono ?_); rintro e w2 ⟨rfl, hb⟩; have HT2 := Aside0.mk (Tab.below (by repeat (first | exact HT1.out | apply Tab.drew | apply Tab.alloc | (refine Tab.set ?_ _ _ _ (by omega)))) hb); obtain ⟨hc2, hf2⟩ := bcell hb; have hq2 := hb.size; (try simp at hq2); have hz2 : w.heap.size ≤ w2.heap.size := (by have := hb.size; (try simp at this); omega); (try have hl02 : w.heap.size < w2.heap.size := (by omega)); (try have hl12 : w1.heap.size < w2.heap.size := (by omega)); have HB2 := Aside0.mk hb; clear hb) | (go_at_call 10; (with_reducible refine (HE.out _ (by repeat (first | exact HT2.out | apply Tab.drew | apply Tab.alloc | (refine Tab.set ?_ _ _ _ (by omega))))).mono ?_); rintro e w3 ⟨rfl, hb⟩; have HT3 := Aside0.mk (Tab.below (by repeat (first | exact HT2.out | apply Tab.drew | apply Tab.alloc | (refine Tab.set ?_ _ _ _ (by omega)))) hb); obtain ⟨hc3, hf3⟩ := bcell hb; have hq3 := hb.size; (try simp at hq3); have hz3 : w.heap.size ≤ w3.heap.size := (by have := hb.size; (try simp at this); omega); (try have hl03 : w.heap.size < w3.heap.size := (by omega)); (try have hl13 : w1.heap.size < w3.heap.size := (by omega)); (try have hl23 : w2.heap.size < w3.heap.size := (by omega)); have HB3 := Aside0.mk hb; clear hb) | (go_at_call 12; (with_reducible refine (awake_any _ (by repeat (first | exact HT3.out | apply Tab.drew | apply Tab.alloc | (refine Tab.set ?_ _ _ _ (by omega))))).mono ?_); rintro e w4 ⟨rfl, hb⟩; have HT4 := Aside0.mk (Tab.below (by repeat (first | exact HT3.out | apply Tab.drew | apply Tab.alloc | (refine Tab.set ?_ _ _ _ (by omega)))) hb); have hq4 := hb.size; (try simp at hq4); have hz4 : w.heap.size ≤ w4.heap.size := (by have := hb.size; (try simp at this); omega); (try have hl04 : w.heap.size < w4.heap.size := (by omega)); (try have hl14 : w1.heap.size < w4.heap.size := (by omega)); (try have hl24 : w2.heap.size < w4.heap.size := (by omega)); (try have hl34 : w3.heap.size < w4.heap.size := (by omega)); have HB4 := Aside0.mk hb; clear hb))
  go_ret
  refine ⟨rfl, ?_⟩
  repeat (first | (with_reducible exact Below.refl _ _) | (with_reducible refine Below.trans ?_ (HB4.out.mono (by first | omega | (simp; done) | (simp; omega)))) | (with_reducible refine Below.trans ?_ (HB3.out.mono (by first | omega | (simp; done) | (simp; omega)))) | (with_reducible refine Below.trans ?_ (HB2.out.mono (by first | omega | (simp; done) | (simp; omega)))) | (with_reducible refine Below.trans ?_ (HB1.out.mono (by first | omega | (simp; done) | (simp; omega)))) | (with_reducible apply pw_below_drewN) | (with_reducible refine below_set ?_ (by omega)) | (with_reducible refine Below.alloc ?_ (by first | omega | (simp; done) | (simp; omega)) _))

set_option maxHeartbeats 1600000 in
set_option maxRecDepth 100000 in
theorem back_ft (x y o a b c i o' a' b' c' i' : Int) (w : World) (ht : Tab w) (HD : ∀ w, Tab w → Calls Tryd.prog 13 #[.int .u32 x] w fun e w' => e = .returned (.tuple #[.agg #[.int .i64 0, .int .i64 0, .int .i64 0, .int .i64 0, .int .i64 0], .int .i64 20]) ∧ Below w.heap.size w w') (HE : ∀ w, Tab w → Calls Tryd.prog 10 #[.agg #[.int .i64 o, .int .i64 a, .int .i64 b, .int .i64 c, .int .i64 i]] w fun e w' => e = .returned (.tuple #[.int .u32 y, .int .i64 0]) ∧ Below w.heap.size w w') (HD1 : ∀ w, Tab w → Calls Tryd.prog 13 #[.int .u32 y] w fun e w' => e = .returned (.tuple #[.agg #[.int .i64 o, .int .i64 a, .int .i64 b, .int .i64 c, .int .i64 i], .int .i64 0]) ∧ Below w.heap.size w w') :
    Calls Tryd.prog 5 #[.int .u32 x, .agg #[.int .i64 o, .int .i64 a, .int .i64 b, .int .i64 c, .int .i64 i]] w fun e w' => e = .returned (.bool true) ∧ Below w.heap.size w w' := by
  have hu23 := Tryd.underlying23
  have HT := Aside0.mk ht
  have HD := Aside0.mk HD
  have HE := Aside0.mk HE
  have HD1 := Aside0.mk HD1
  clear ht
  go_enter Tryd.func5, Tryd.ntmps5
  go_wp2_with (first | (go_at_call 13; (with_reducible refine (HD.out _ (by repeat (first | exact HT.out | apply Tab.drew | apply Tab.alloc | (refine Tab.set ?_ _ _ _ (by omega))))).mono ?_); rintro e w1 ⟨rfl, hb⟩; have HT1 := Aside0.mk (Tab.below (by repeat (first | exact HT.out | apply Tab.drew | apply Tab.alloc | (refine Tab.set ?_ _ _ _ (by omega)))) hb); obtain ⟨hc1, hf1⟩ := bcell hb; have hq1 := hb.size; (try simp at hq1); have hz1 : w.heap.size ≤ w1.heap.size := (by have := hb.size; (try simp at this); omega); (try have hl01 : w.heap.size < w1.heap.size := (by omega)); have HB1 := Aside0.mk hb; clear hb) | (go_at_call 10; (with_reducible refine (HE.out _ (by repeat (first | exact HT1.out | apply Tab.drew | apply Tab.alloc | (refine Tab.set ?_ _ _ _ (by omega))))).mono ?_); rintro e w2 ⟨rfl, hb⟩; have HT2 := Aside0.mk (Tab.below (by repeat (first | exact HT1.out | apply Tab.drew | apply Tab.alloc | (refine Tab.set ?_ _ _ _ (by omega)))) hb); obtain ⟨hc2, hf2⟩ := bcell hb; have hq2 := hb.size; (try simp at hq2); have hz2 : w.heap.size ≤ w2.heap.size := (by have := hb.size; (try simp at this); omega); (try have hl02 : w.heap.size < w2.heap.size := (by omega)); (try have hl12 : w1.heap.size < w2.heap.size := (by omega)); have HB2 := Aside0.mk hb; clear hb) | (go_at_call 13; (with_reducible refine (HD1.out _ (by repeat (first | exact HT2.out | apply Tab.drew | apply Tab.alloc | (refine Tab.set ?_ _ _ _ (by omega))))).mono ?_); rintro e w3 ⟨rfl, hb⟩; have HT3 := Aside0.mk (Tab.below (by repeat (first | exact HT2.out | apply Tab.drew | apply Tab.alloc | (refine Tab.set ?_ _ _ _ (by omega)))) hb); obtain ⟨hc3, hf3⟩ := bcell hb; have hq3 := hb.size; (try simp at hq3); have hz3 : w.heap.size ≤ w3.heap.size := (by have := hb.size; (try simp at this); omega); (try have hl03 : w.heap.size < w3.heap.size := (by omega)); (try have hl13 : w1.heap.size < w3.heap.size := (by omega)); (try have hl23 : w2.heap.size < w3.heap.size := (by omega)); have HB3 := Aside0.mk hb; clear hb) | (go_at_call 12; (with_reducible refine (awake_any _ (by repeat (first | exact HT3.out | apply Tab.drew | apply Tab.alloc | (refine Tab.set ?_ _ _ _ (by omega))))).mono ?_); rintro e w4 ⟨rfl, hb⟩; have HT4 := Aside0.mk (Tab.below (by repeat (first | exact HT3.out | apply Tab.drew | apply Tab.alloc | (refine Tab.set ?_ _ _ _ (by omega)))) hb); have hq4 := hb.size; (try simp at hq4); have hz4 : w.heap.size ≤ w4.heap.size := (by have := hb.size; (try simp at this); omega); (try have hl04 : w.heap.size < w4.heap.size := (by omega)); (try have hl14 : w1.heap.size < w4.heap.size := (by omega)); (try have hl24 : w2.heap.size < w4.heap.size := (by omega)); (try have hl34 : w3.heap.size < w4.heap.size := (by omega)); have HB4 := Aside0.mk hb; clear hb))
  go_ret
  refine ⟨rfl, ?_⟩
  repeat (first | (with_reducible exact Below.refl _ _) | (with_reducible refine Below.trans ?_ (HB4.out.mono (by first | omega | (simp; done) | (simp; omega)))) | (with_reducible refine Below.trans ?_ (HB3.out.mono (by first | omega | (simp; done) | (simp; omega)))) | (with_reducible refine Below.trans ?_ (HB2.out.mono (by first | omega | (simp; done) | (simp; omega)))) | (with_reducible refine Below.trans ?_ (HB1.out.mono (by first | omega | (simp; done) | (simp; omega)))) | (with_reducible apply pw_below_drewN) | (with_reducible refine below_set ?_ (by omega)) | (with_reducible refine Below.alloc ?_ (by first | omega | (simp; done) | (simp; omega)) _))

set_option maxHeartbeats 1600000 in
set_option maxRecDepth 100000 in
theorem back_ff (x y o a b c i o' a' b' c' i' : Int) (w : World) (ht : Tab w) (HD : ∀ w, Tab w → Calls Tryd.prog 13 #[.int .u32 x] w fun e w' => e = .returned (.tuple #[.agg #[.int .i64 0, .int .i64 0, .int .i64 0, .int .i64 0, .int .i64 0], .int .i64 20]) ∧ Below w.heap.size w w') (HE : ∀ w, Tab w → Calls Tryd.prog 10 #[.agg #[.int .i64 o, .int .i64 a, .int .i64 b, .int .i64 c, .int .i64 i]] w fun e w' => e = .returned (.tuple #[.int .u32 0, .int .i64 21]) ∧ Below w.heap.size w w') :
    Calls Tryd.prog 5 #[.int .u32 x, .agg #[.int .i64 o, .int .i64 a, .int .i64 b, .int .i64 c, .int .i64 i]] w fun e w' => e = .returned (.bool true) ∧ Below w.heap.size w w' := by
  have hu23 := Tryd.underlying23
  have HT := Aside0.mk ht
  have HD := Aside0.mk HD
  have HE := Aside0.mk HE
  clear ht
  go_enter Tryd.func5, Tryd.ntmps5
  go_wp2_with (first | (go_at_call 13; (with_reducible refine (HD.out _ (by repeat (first | exact HT.out | apply Tab.drew | apply Tab.alloc | (refine Tab.set ?_ _ _ _ (by omega))))).mono ?_); rintro e w1 ⟨rfl, hb⟩; have HT1 := Aside0.mk (Tab.below (by repeat (first | exact HT.out | apply Tab.drew | apply Tab.alloc | (refine Tab.set ?_ _ _ _ (by omega)))) hb); obtain ⟨hc1, hf1⟩ := bcell hb; have hq1 := hb.size; (try simp at hq1); have hz1 : w.heap.size ≤ w1.heap.size := (by have := hb.size; (try simp at this); omega); (try have hl01 : w.heap.size < w1.heap.size := (by omega)); have HB1 := Aside0.mk hb; clear hb) | (go_at_call 10; (with_reducible refine (HE.out _ (by repeat (first | exact HT1.out | apply Tab.drew | apply Tab.alloc | (refine Tab.set ?_ _ _ _ (by omega))))).mono ?_); rintro e w2 ⟨rfl, hb⟩; have HT2 := Aside0.mk (Tab.below (by repeat (first | exact HT1.out | apply Tab.drew | apply Tab.alloc | (refine Tab.set ?_ _ _ _ (by omega)))) hb); obtain ⟨hc2, hf2⟩ := bcell hb; have hq2 := hb.size; (try simp at hq2); have hz2 : w.heap.size ≤ w2.heap.size := (by have := hb.size; (try simp at this); omega); (try have hl02 : w.heap.size < w2.heap.size := (by omega)); (try have hl12 : w1.heap.size < w2.heap.size := (by omega)); have HB2 := Aside0.mk hb; clear hb) | (go_at_call 12; (with_reducible refine (awake_any _ (by repeat (first | exact HT2.out | apply Tab.drew | apply Tab.alloc | (refine Tab.set ?_ _ _ _ (by omega))))).mono ?_); rintro e w3 ⟨rfl, hb⟩; have HT3 := Aside0.mk (Tab.below (by repeat (first | exact HT2.out | apply Tab.drew | apply Tab.alloc | (refine Tab.set ?_ _ _ _ (by omega)))) hb); have hq3 := hb.size; (try simp at hq3); have hz3 : w.heap.size ≤ w3.heap.size := (by have := hb.size; (try simp at this); omega); (try have hl03 : w.heap.size < w3.heap.size := (by omega)); (try have hl13 : w1.heap.size < w3.heap.size := (by omega)); (try have hl23 : w2.heap.size < w3.heap.size := (by omega)); have HB3 := Aside0.mk hb; clear hb))
  go_ret
  refine ⟨rfl, ?_⟩
  repeat (first | (with_reducible exact Below.refl _ _) | (with_reducible refine Below.trans ?_ (HB3.out.mono (by first | omega | (simp; done) | (simp; omega)))) | (with_reducible refine Below.trans ?_ (HB2.out.mono (by first | omega | (simp; done) | (simp; omega)))) | (with_reducible refine Below.trans ?_ (HB1.out.mono (by first | omega | (simp; done) | (simp; omega)))) | (with_reducible apply pw_below_drewN) | (with_reducible refine below_set ?_ (by omega)) | (with_reducible refine Below.alloc ?_ (by first | omega | (simp; done) | (simp; omega)) _))


/-- An instruction that has a word is that word's. -/
theorem word_back (op a b c i : Int) (h : okIns op a b c i = true) :
    dop (word op a b c i) = op ∧ da (word op a b c i) = a ∧ db (word op a b c i) = b ∧ dc (word op a b c i) = c ∧ di (word op a b c i) = i ∧ 0 ≤ word op a b c i ∧ word op a b c i < 4294967296 := by
  obtain ⟨h1, h2, h3, h4, h5⟩ := okIns_iff op a b c i h
  obtain ⟨⟨o0, o1⟩, ⟨a0, a1⟩, ⟨b0, b1⟩, ⟨c0, c1⟩, ⟨i0, i1⟩, hci⟩ := okIns_bounds op a b c i h
  have hd : dop (word op a b c i) = op := by unfold dop word; omega
  have none : ∀ (p : Bool) (n l m : Int), p = false → fits p n l m = true → n = 0 := by
    intro p n l m hp hf; subst hp; simpa [fits] using hf
  refine ⟨hd, ?_, ?_, ?_, ?_, ?_, ?_⟩
  · unfold da; rw [hd]
    cases hh : hasA (formOf op) with
    | false => exact (none _ _ _ _ hh h2).symm
    | true => rw [cond_true]; unfold word; omega
  · unfold db; rw [hd]
    cases hh : hasB (formOf op) with
    | false => exact (none _ _ _ _ hh h3).symm
    | true => rw [cond_true]; unfold word; omega
  · unfold dc; rw [hd]
    cases hh : hasC (formOf op) with
    | false => exact (none _ _ _ _ hh h4).symm
    | true =>
      have : hasI (formOf op) = false := by unfold hasC at hh; unfold hasI; simp at hh ⊢; omega
      have hi0 := none _ _ _ _ this h5
      rw [cond_true]; unfold word; omega
  · unfold di; rw [hd]
    cases hh : hasI (formOf op) with
    | false => exact (none _ _ _ _ hh h5).symm
    | true =>
      have : hasC (formOf op) = false := by unfold hasI at hh; unfold hasC; simp at hh ⊢; omega
      have hc0 := none _ _ _ _ this h4
      rw [cond_true]; unfold word imm; omega
  · unfold word; omega
  · unfold word; omega

theorem okWord_back (op a b c i : Int) (h : okIns op a b c i = true) : okWord (word op a b c i) = true := by
  obtain ⟨e1, e2, e3, e4, e5, _, _⟩ := word_back op a b c i h
  unfold okWord; rw [e1, e2, e3, e4, e5, h]; simp

theorem okWord_iff (x : Int) (h : okWord x = true) : okIns (dop x) (da x) (db x) (dc x) (di x) = true ∧ word (dop x) (da x) (db x) (dc x) (di x) = x := by
  unfold okWord at h; simpa using h

theorem enc_good (op a b c i : Int) (h : okIns op a b c i = true) (w : World) (ht : Tab w) :
    Calls Tryd.prog 10 #[.agg #[.int .i64 op, .int .i64 a, .int .i64 b, .int .i64 c, .int .i64 i]] w fun e w' => e = .returned (.tuple #[.int .u32 (word op a b c i), .int .i64 0]) ∧ Below w.heap.size w w' := by
  have := enc_any op a b c i w ht
  rwa [if_pos h, if_pos h] at this
theorem enc_bad (op a b c i : Int) (h : ¬ okIns op a b c i = true) (w : World) (ht : Tab w) :
    Calls Tryd.prog 10 #[.agg #[.int .i64 op, .int .i64 a, .int .i64 b, .int .i64 c, .int .i64 i]] w fun e w' => e = .returned (.tuple #[.int .u32 0, .int .i64 21]) ∧ Below w.heap.size w w' := by
  have := enc_any op a b c i w ht
  rwa [if_neg h, if_neg h] at this
theorem dec_good (x : Int) (h : okWord x = true) (x0 : 0 ≤ x) (x1 : x < 4294967296) (w : World) (ht : Tab w) :
    Calls Tryd.prog 13 #[.int .u32 x] w fun e w' => e = .returned (.tuple #[.agg #[.int .i64 (dop x), .int .i64 (da x), .int .i64 (db x), .int .i64 (dc x), .int .i64 (di x)], .int .i64 0]) ∧ Below w.heap.size w w' := by
  have := dec_any x w ht x0 x1
  rwa [if_pos h] at this
theorem dec_bad (x : Int) (h : ¬ okWord x = true) (x0 : 0 ≤ x) (x1 : x < 4294967296) (w : World) (ht : Tab w) :
    Calls Tryd.prog 13 #[.int .u32 x] w fun e w' => e = .returned (.tuple #[.agg #[.int .i64 0, .int .i64 0, .int .i64 0, .int .i64 0, .int .i64 0], .int .i64 20]) ∧ Below w.heap.size w w' := by
  have := dec_any x w ht x0 x1
  rwa [if_neg h] at this
theorem dec_word (op a b c i : Int) (h : okIns op a b c i = true) (w : World) (ht : Tab w) :
    Calls Tryd.prog 13 #[.int .u32 (word op a b c i)] w fun e w' => e = .returned (.tuple #[.agg #[.int .i64 op, .int .i64 a, .int .i64 b, .int .i64 c, .int .i64 i], .int .i64 0]) ∧ Below w.heap.size w w' := by
  obtain ⟨e1, e2, e3, e4, e5, x0, x1⟩ := word_back op a b c i h
  have := dec_good _ (okWord_back op a b c i h) x0 x1 w ht
  rwa [e1, e2, e3, e4, e5] at this
theorem enc_word (x : Int) (h : okWord x = true) (w : World) (ht : Tab w) :
    Calls Tryd.prog 10 #[.agg #[.int .i64 (dop x), .int .i64 (da x), .int .i64 (db x), .int .i64 (dc x), .int .i64 (di x)]] w fun e w' => e = .returned (.tuple #[.int .u32 x, .int .i64 0]) ∧ Below w.heap.size w w' := by
  obtain ⟨h1, h2⟩ := okWord_iff x h
  have := enc_good _ _ _ _ _ h1 w ht
  rwa [h2] at this

theorem back_any (x op a b c i : Int) (w : World) (ht : Tab w) (x0 : 0 ≤ x) (x1 : x < 4294967296) :
    Calls Tryd.prog 5 #[.int .u32 x, .agg #[.int .i64 op, .int .i64 a, .int .i64 b, .int .i64 c, .int .i64 i]] w fun e w' => e = .returned (.bool true) ∧ Below w.heap.size w w' := by
  by_cases hx : okWord x = true
  · by_cases ho : okIns op a b c i = true
    · exact back_tt x _ op a b c i _ _ _ _ _ w ht (dec_good x hx x0 x1) (enc_word x hx) (enc_good op a b c i ho) (dec_word op a b c i ho)
    · exact back_tf x 0 op a b c i _ _ _ _ _ w ht (dec_good x hx x0 x1) (enc_word x hx) (enc_bad op a b c i ho)
  · by_cases ho : okIns op a b c i = true
    · exact back_ft x _ op a b c i 0 0 0 0 0 w ht (dec_bad x hx x0 x1) (enc_good op a b c i ho) (dec_word op a b c i ho)
    · exact back_ff x 0 op a b c i 0 0 0 0 0 w ht (dec_bad x hx x0 x1) (enc_bad op a b c i ho)
end Go.Proofs.YtdoighcgfbnigaaDoor.Isa
