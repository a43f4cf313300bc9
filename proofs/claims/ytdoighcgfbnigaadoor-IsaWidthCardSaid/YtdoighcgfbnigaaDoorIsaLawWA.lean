/- Isa: the law IsaWidth, its walk: which operands fit; and words that are none. -/
import Derived.Test.YtdoighcgfbnigaaDoorIsaLawWd
namespace Go.Proofs.YtdoighcgfbnigaaDoor.Isa
set_option linter.unusedVariables false
set_option linter.unusedSimpArgs false
open Go.RowKit Go.Proofs.YtdoighcgfbnigaaDoorW.PrintWords Go.Proofs.YtdoighcgfbnigaaDoorW.PrintLast Go.Proofs.YtdoighcgfbnigaaDoorW.PrintMore


set_option maxHeartbeats 800000 in
theorem width_none (x a i : Int) (w : World) (ht : Tab w) (HD : ∀ w, Tab w → Calls Tryd.prog 13 #[.int .u32 x] w fun e w' => e = .returned (.tuple #[.agg #[.int .i64 0, .int .i64 0, .int .i64 0, .int .i64 0, .int .i64 0], .int .i64 20]) ∧ Below w.heap.size w w') :
    Calls Tryd.prog 6 #[.int .u32 x, .int .i64 a, .int .i64 i] w fun e w' => e = .returned (.bool true) ∧ Below w.heap.size w w' := by
  have hu23 := Tryd.underlying23
  have HT := Aside0.mk ht
  have HD := Aside0.mk HD
  clear ht
  go_enter Tryd.func6, Tryd.ntmps6
  go_wp2_with (first | (go_at_call 13; (with_reducible refine (HD.out _ (by repeat (first | exact HT.out | apply Tab.drew | apply Tab.alloc | (refine Tab.set ?_ _ _ _ (by omega))))).mono ?_); rintro e w1 ⟨rfl, hb⟩; have HT1 := Aside0.mk (Tab.below (by repeat (first | exact HT.out | apply Tab.drew | apply Tab.alloc | (refine Tab.set ?_ _ _ _ (by omega)))) hb); obtain ⟨hc1, hf1⟩ := bcell hb; have hq1 := hb.size; (try simp at hq1); have hz1 : w.heap.size ≤ w1.heap.size := (by have := hb.size; (try simp at this); omega); (try have hl01 : w.heap.size < w1.heap.size := (by omega)); have HB1 := Aside0.mk hb; clear hb) | (go_at_call 12; (with_reducible refine (awake_any _ (by repeat (first | exact HT1.out | apply Tab.drew | apply Tab.alloc | (refine Tab.set ?_ _ _ _ (by omega))))).mono ?_); rintro e w2 ⟨rfl, hb⟩; have HT2 := Aside0.mk (Tab.below (by repeat (first | exact HT1.out | apply Tab.drew | apply Tab.alloc | (refine Tab.set ?_ _ _ _ (by omega)))) hb); have hq2 := hb.size; (try simp at hq2); have hz2 : w.heap.size ≤ w2.heap.size := (by have := hb.size; (try simp at this); omega); (try have hl02 : w.heap.size < w2.heap.size := (by omega)); (try have hl12 : w1.heap.size < w2.heap.size := (by omega)); have HB2 := Aside0.mk hb; clear hb))
  go_ret
  refine ⟨rfl, ?_⟩
  repeat (first | (with_reducible exact Below.refl _ _) | (with_reducible refine Below.trans ?_ (HB2.out.mono (by first | omega | (simp; done) | (simp; omega)))) | (with_reducible refine Below.trans ?_ (HB1.out.mono (by first | omega | (simp; done) | (simp; omega)))) | (with_reducible apply pw_below_drewN) | (with_reducible refine below_set ?_ (by omega)) | (with_reducible refine Below.alloc ?_ (by first | omega | (simp; done) | (simp; omega)) _))

theorem okA (op a b c i : Int) (h : okIns op a b c i = true) (a' : Int) : okIns op a' b c i = fits (hasA (formOf op)) a' 0 15 := by
  obtain ⟨h1, h2, h3, h4, h5⟩ := okIns_iff op a b c i h
  unfold okIns; rw [h3, h4, h5]; simp [h1]
theorem okI (op a b c i : Int) (h : okIns op a b c i = true) (i' : Int) : okIns op a b c i' = fits (hasI (formOf op)) i' (-131072) 131071 := by
  obtain ⟨h1, h2, h3, h4, h5⟩ := okIns_iff op a b c i h
  unfold okIns; rw [h2, h3, h4]; simp [h1]

/-- What Encode answers, of an instruction one of whose operands was turned. -/
theorem enc_turned (op a b c i : Int) (f : Bool) (h : okIns op a b c i = f) : ∃ v : Int, ∀ w, Tab w →
    Calls Tryd.prog 10 #[.agg #[.int .i64 op, .int .i64 a, .int .i64 b, .int .i64 c, .int .i64 i]] w fun e w' => e = .returned (.tuple #[.int .u32 v, .int .i64 (if f then 0 else 21)]) ∧ Below w.heap.size w w' := by
  subst h
  by_cases h : okIns op a b c i = true
  · exact ⟨_, fun w ht => by rw [if_pos h]; exact enc_good op a b c i h w ht⟩
  · exact ⟨_, fun w ht => by rw [if_neg h]; exact enc_bad op a b c i h w ht⟩

theorem fz {n l m : Int} (h : (n == 0) = true) : (if fits false n l m then (0 : Int) else 21) = 0 := by
  have : n = 0 := by simpa using h
  simp [fits, this]
theorem fn {n l m : Int} (h : (n == 0) = false) : (if fits false n l m then (0 : Int) else 21) = 21 := by
  have : ¬ n = 0 := by simpa using h
  simp [fits, this]
theorem flo {n l m : Int} (h : decide (l ≤ n) = false) : (if fits true n l m then (0 : Int) else 21) = 21 := by
  have : ¬ l ≤ n := by simpa using h
  simp [fits, this]
theorem fin {n l m : Int} (h : decide (l ≤ n) = true) (g : decide (n ≤ m) = true) : (if fits true n l m then (0 : Int) else 21) = 0 := by
  have h : l ≤ n := by simpa using h
  have g : n ≤ m := by simpa using g
  simp [fits, h, g]
theorem fhi {n l m : Int} (h : decide (l ≤ n) = true) (g : decide (n ≤ m) = false) : (if fits true n l m then (0 : Int) else 21) = 21 := by
  have h : l ≤ n := by simpa using h
  have g : ¬ n ≤ m := by simpa using g
  simp [fits, h, g]

theorem width_any (x a i : Int) (w : World) (ht : Tab w) (x0 : 0 ≤ x) (x1 : x < 4294967296) :
    Calls Tryd.prog 6 #[.int .u32 x, .int .i64 a, .int .i64 i] w fun e w' => e = .returned (.bool true) ∧ Below w.heap.size w w' := by
  by_cases hx : okWord x = true
  · obtain ⟨h1, _⟩ := okWord_iff x hx
    have hf0 := (okIns_iff _ _ _ _ _ h1).1
    obtain ⟨b0, b7⟩ := formOf_bound (dop x)
    have D := dec_good x hx x0 x1
    have F : ∀ w, Tab w → _ := fun w ht => form_any (dop x) w ht
    obtain ⟨v1, E1⟩ := enc_turned (dop x) a (db x) (dc x) (di x) _ (okA _ _ _ _ _ h1 a)
    obtain ⟨v2, E2⟩ := enc_turned (dop x) (da x) (db x) (dc x) i _ (okI _ _ _ _ _ h1 i)
    generalize formOf (dop x) = f at *
    have az : (a == 0) = true ∨ (a == 0) = false := by cases (a == 0) <;> simp
    have iz : (i == 0) = true ∨ (i == 0) = false := by cases (i == 0) <;> simp
    have ar : decide (0 ≤ a) = false ∨ (decide (0 ≤ a) = true ∧ decide (a ≤ 15) = true) ∨ (decide (0 ≤ a) = true ∧ decide (a ≤ 15) = false) := by
      by_cases h : 0 ≤ a <;> by_cases g : a ≤ 15 <;> simp [h, g]
    have ir : decide ((-131072 : Int) ≤ i) = false ∨ (decide ((-131072 : Int) ≤ i) = true ∧ decide (i ≤ 131071) = true) ∨ (decide ((-131072 : Int) ≤ i) = true ∧ decide (i ≤ 131071) = false) := by
      by_cases h : (-131072 : Int) ≤ i <;> by_cases g : i ≤ 131071 <;> simp [h, g]
    have c : f = 1 ∨ f = 2 ∨ f = 3 ∨ f = 4 ∨ f = 5 ∨ f = 6 ∨ f = 7 := by omega
    rcases c with rfl | rfl | rfl | rfl | rfl | rfl | rfl
    · rw [show hasA 1 = false from rfl] at E1; rw [show hasI 1 = false from rfl] at E2
      rcases az with ha | ha <;> rcases iz with hi | hi
      · rw [fz ha] at E1; rw [fz hi] at E2; exact wd_1_z_z x a i _ _ _ _ _ 0 v1 v2 w ht D F E1 E2 ha hi
      · rw [fz ha] at E1; rw [fn hi] at E2; exact wd_1_z_n x a i _ _ _ _ _ 0 v1 v2 w ht D F E1 E2 ha hi
      · rw [fn ha] at E1; rw [fz hi] at E2; exact wd_1_n_z x a i _ _ _ _ _ 0 v1 v2 w ht D F E1 E2 ha hi
      · rw [fn ha] at E1; rw [fn hi] at E2; exact wd_1_n_n x a i _ _ _ _ _ 0 v1 v2 w ht D F E1 E2 ha hi
    · rw [show hasA 2 = true from rfl] at E1; rw [show hasI 2 = false from rfl] at E2
      rcases ar with ha | ⟨ha, ha2⟩ | ⟨ha, ha2⟩ <;> rcases iz with hi | hi
      · rw [flo ha] at E1; rw [fz hi] at E2; exact wd_2_lo_z x a i _ _ _ _ _ 2 v1 v2 w ht D F E1 E2 rfl rfl rfl ha hi
      · rw [flo ha] at E1; rw [fn hi] at E2; exact wd_2_lo_n x a i _ _ _ _ _ 2 v1 v2 w ht D F E1 E2 rfl rfl rfl ha hi
      · rw [fin ha ha2] at E1; rw [fz hi] at E2; exact wd_2_in_z x a i _ _ _ _ _ 2 v1 v2 w ht D F E1 E2 rfl rfl rfl ha ha2 hi
      · rw [fin ha ha2] at E1; rw [fn hi] at E2; exact wd_2_in_n x a i _ _ _ _ _ 2 v1 v2 w ht D F E1 E2 rfl rfl rfl ha ha2 hi
      · rw [fhi ha ha2] at E1; rw [fz hi] at E2; exact wd_2_hi_z x a i _ _ _ _ _ 2 v1 v2 w ht D F E1 E2 rfl rfl rfl ha ha2 hi
      · rw [fhi ha ha2] at E1; rw [fn hi] at E2; exact wd_2_hi_n x a i _ _ _ _ _ 2 v1 v2 w ht D F E1 E2 rfl rfl rfl ha ha2 hi
    · rw [show hasA 3 = true from rfl] at E1; rw [show hasI 3 = false from rfl] at E2
      rcases ar with ha | ⟨ha, ha2⟩ | ⟨ha, ha2⟩ <;> rcases iz with hi | hi
      · rw [flo ha] at E1; rw [fz hi] at E2; exact wd_2_lo_z x a i _ _ _ _ _ 3 v1 v2 w ht D F E1 E2 rfl rfl rfl ha hi
      · rw [flo ha] at E1; rw [fn hi] at E2; exact wd_2_lo_n x a i _ _ _ _ _ 3 v1 v2 w ht D F E1 E2 rfl rfl rfl ha hi
      · rw [fin ha ha2] at E1; rw [fz hi] at E2; exact wd_2_in_z x a i _ _ _ _ _ 3 v1 v2 w ht D F E1 E2 rfl rfl rfl ha ha2 hi
      · rw [fin ha ha2] at E1; rw [fn hi] at E2; exact wd_2_in_n x a i _ _ _ _ _ 3 v1 v2 w ht D F E1 E2 rfl rfl rfl ha ha2 hi
      · rw [fhi ha ha2] at E1; rw [fz hi] at E2; exact wd_2_hi_z x a i _ _ _ _ _ 3 v1 v2 w ht D F E1 E2 rfl rfl rfl ha ha2 hi
      · rw [fhi ha ha2] at E1; rw [fn hi] at E2; exact wd_2_hi_n x a i _ _ _ _ _ 3 v1 v2 w ht D F E1 E2 rfl rfl rfl ha ha2 hi
    · rw [show hasA 4 = true from rfl] at E1; rw [show hasI 4 = false from rfl] at E2
      rcases ar with ha | ⟨ha, ha2⟩ | ⟨ha, ha2⟩ <;> rcases iz with hi | hi
      · rw [flo ha] at E1; rw [fz hi] at E2; exact wd_2_lo_z x a i _ _ _ _ _ 4 v1 v2 w ht D F E1 E2 rfl rfl rfl ha hi
      · rw [flo ha] at E1; rw [fn hi] at E2; exact wd_2_lo_n x a i _ _ _ _ _ 4 v1 v2 w ht D F E1 E2 rfl rfl rfl ha hi
      · rw [fin ha ha2] at E1; rw [fz hi] at E2; exact wd_2_in_z x a i _ _ _ _ _ 4 v1 v2 w ht D F E1 E2 rfl rfl rfl ha ha2 hi
      · rw [fin ha ha2] at E1; rw [fn hi] at E2; exact wd_2_in_n x a i _ _ _ _ _ 4 v1 v2 w ht D F E1 E2 rfl rfl rfl ha ha2 hi
      · rw [fhi ha ha2] at E1; rw [fz hi] at E2; exact wd_2_hi_z x a i _ _ _ _ _ 4 v1 v2 w ht D F E1 E2 rfl rfl rfl ha ha2 hi
      · rw [fhi ha ha2] at E1; rw [fn hi] at E2; exact wd_2_hi_n x a i _ _ _ _ _ 4 v1 v2 w ht D F E1 E2 rfl rfl rfl ha ha2 hi
    · rw [show hasA 5 = true from rfl] at E1; rw [show hasI 5 = true from rfl] at E2
      rcases ar with ha | ⟨ha, ha2⟩ | ⟨ha, ha2⟩ <;> rcases ir with hi | ⟨hi, hi2⟩ | ⟨hi, hi2⟩
      · rw [flo ha] at E1; rw [flo hi] at E2; exact wd_3_lo_lo x a i _ _ _ _ _ 5 v1 v2 w ht D F E1 E2 rfl rfl rfl ha hi
      · rw [flo ha] at E1; rw [fin hi hi2] at E2; exact wd_3_lo_in x a i _ _ _ _ _ 5 v1 v2 w ht D F E1 E2 rfl rfl rfl ha hi hi2
      · rw [flo ha] at E1; rw [fhi hi hi2] at E2; exact wd_3_lo_hi x a i _ _ _ _ _ 5 v1 v2 w ht D F E1 E2 rfl rfl rfl ha hi hi2
      · rw [fin ha ha2] at E1; rw [flo hi] at E2; exact wd_3_in_lo x a i _ _ _ _ _ 5 v1 v2 w ht D F E1 E2 rfl rfl rfl ha ha2 hi
      · rw [fin ha ha2] at E1; rw [fin hi hi2] at E2; exact wd_3_in_in x a i _ _ _ _ _ 5 v1 v2 w ht D F E1 E2 rfl rfl rfl ha ha2 hi hi2
      · rw [fin ha ha2] at E1; rw [fhi hi hi2] at E2; exact wd_3_in_hi x a i _ _ _ _ _ 5 v1 v2 w ht D F E1 E2 rfl rfl rfl ha ha2 hi hi2
      · rw [fhi ha ha2] at E1; rw [flo hi] at E2; exact wd_3_hi_lo x a i _ _ _ _ _ 5 v1 v2 w ht D F E1 E2 rfl rfl rfl ha ha2 hi
      · rw [fhi ha ha2] at E1; rw [fin hi hi2] at E2; exact wd_3_hi_in x a i _ _ _ _ _ 5 v1 v2 w ht D F E1 E2 rfl rfl rfl ha ha2 hi hi2
      · rw [fhi ha ha2] at E1; rw [fhi hi hi2] at E2; exact wd_3_hi_hi x a i _ _ _ _ _ 5 v1 v2 w ht D F E1 E2 rfl rfl rfl ha ha2 hi hi2
    · rw [show hasA 6 = true from rfl] at E1; rw [show hasI 6 = true from rfl] at E2
      rcases ar with ha | ⟨ha, ha2⟩ | ⟨ha, ha2⟩ <;> rcases ir with hi | ⟨hi, hi2⟩ | ⟨hi, hi2⟩
      · rw [flo ha] at E1; rw [flo hi] at E2; exact wd_3_lo_lo x a i _ _ _ _ _ 6 v1 v2 w ht D F E1 E2 rfl rfl rfl ha hi
      · rw [flo ha] at E1; rw [fin hi hi2] at E2; exact wd_3_lo_in x a i _ _ _ _ _ 6 v1 v2 w ht D F E1 E2 rfl rfl rfl ha hi hi2
      · rw [flo ha] at E1; rw [fhi hi hi2] at E2; exact wd_3_lo_hi x a i _ _ _ _ _ 6 v1 v2 w ht D F E1 E2 rfl rfl rfl ha hi hi2
      · rw [fin ha ha2] at E1; rw [flo hi] at E2; exact wd_3_in_lo x a i _ _ _ _ _ 6 v1 v2 w ht D F E1 E2 rfl rfl rfl ha ha2 hi
      · rw [fin ha ha2] at E1; rw [fin hi hi2] at E2; exact wd_3_in_in x a i _ _ _ _ _ 6 v1 v2 w ht D F E1 E2 rfl rfl rfl ha ha2 hi hi2
      · rw [fin ha ha2] at E1; rw [fhi hi hi2] at E2; exact wd_3_in_hi x a i _ _ _ _ _ 6 v1 v2 w ht D F E1 E2 rfl rfl rfl ha ha2 hi hi2
      · rw [fhi ha ha2] at E1; rw [flo hi] at E2; exact wd_3_hi_lo x a i _ _ _ _ _ 6 v1 v2 w ht D F E1 E2 rfl rfl rfl ha ha2 hi
      · rw [fhi ha ha2] at E1; rw [fin hi hi2] at E2; exact wd_3_hi_in x a i _ _ _ _ _ 6 v1 v2 w ht D F E1 E2 rfl rfl rfl ha ha2 hi hi2
      · rw [fhi ha ha2] at E1; rw [fhi hi hi2] at E2; exact wd_3_hi_hi x a i _ _ _ _ _ 6 v1 v2 w ht D F E1 E2 rfl rfl rfl ha ha2 hi hi2
    · rw [show hasA 7 = false from rfl] at E1; rw [show hasI 7 = true from rfl] at E2
      rcases az with ha | ha <;> rcases ir with hi | ⟨hi, hi2⟩ | ⟨hi, hi2⟩
      · rw [fz ha] at E1; rw [flo hi] at E2; exact wd_4_z_lo x a i _ _ _ _ _ 0 v1 v2 w ht D F E1 E2 ha hi
      · rw [fz ha] at E1; rw [fin hi hi2] at E2; exact wd_4_z_in x a i _ _ _ _ _ 0 v1 v2 w ht D F E1 E2 ha hi hi2
      · rw [fz ha] at E1; rw [fhi hi hi2] at E2; exact wd_4_z_hi x a i _ _ _ _ _ 0 v1 v2 w ht D F E1 E2 ha hi hi2
      · rw [fn ha] at E1; rw [flo hi] at E2; exact wd_4_n_lo x a i _ _ _ _ _ 0 v1 v2 w ht D F E1 E2 ha hi
      · rw [fn ha] at E1; rw [fin hi hi2] at E2; exact wd_4_n_in x a i _ _ _ _ _ 0 v1 v2 w ht D F E1 E2 ha hi hi2
      · rw [fn ha] at E1; rw [fhi hi hi2] at E2; exact wd_4_n_hi x a i _ _ _ _ _ 0 v1 v2 w ht D F E1 E2 ha hi hi2
  · exact width_none x a i w ht (dec_bad x hx x0 x1)
end Go.Proofs.YtdoighcgfbnigaaDoor.Isa
