-- PRINTED BY print.sh 35421559b90ae4d0a3588c463048766b98c2df88dd9212a6774a882060cdf62d: not written by this session
import Derived.Test.YtdoighcgfbnigaaDoorPDecodex0
import Derived.Test.YtdoighcgfbnigaaDoorPDecodex1
import Derived.Test.YtdoighcgfbnigaaDoorPDecodex2
namespace Go.Proofs.YtdoighcgfbnigaaDoor.PDecode
open Go.RowKit Go.Proofs.YtdoighcgfbnigaaDoorW.PrintWords Go.Proofs.YtdoighcgfbnigaaDoorW.PrintLast Go.Proofs.YtdoighcgfbnigaaDoorW.PrintMore
attribute [local go_sem] max2_int min2_int max_two min_two max_three min_three max_four min_four   -- for this text's walks alone
set_option linter.unusedVariables false
set_option linter.unusedSimpArgs false

/-! ### bulkheadref02_Decode: function 14 -/
mutual
def bulkheadref02_Decode.j0 : Nat → Int → Int → Bool → Bool → Bool → Int → Int → Int → Int → Int → Option (Int × Int × Int × Int × Int × Int)
  | 0, _, _, _, _, _, _, _, _, _, _ => none
  | k + 1, x0, x4, x7, x8, x9, x126000, x126001, x126002, x126003, x126004 => if x7 = true then (bulkheadref02_Decode.j1 k x0 x4 x8 x9 x126000 x126001 (Int.tmod (wrap64 (Int.tdiv x4 262144)) 16) x126003 x126004) else (bulkheadref02_Decode.j1 k x0 x4 x8 x9 x126000 x126001 x126002 x126003 x126004)
def bulkheadref02_Decode.j1 : Nat → Int → Int → Bool → Bool → Int → Int → Int → Int → Int → Option (Int × Int × Int × Int × Int × Int)
  | 0, _, _, _, _, _, _, _, _, _ => none
  | k + 1, x0, x4, x8, x9, x126000, x126001, x126002, x126003, x126004 => if x8 = true then (bulkheadref02_Decode.j2 k x0 x4 x9 x126000 x126001 x126002 (Int.tmod (wrap64 (Int.tdiv x4 16384)) 16) x126004) else (bulkheadref02_Decode.j2 k x0 x4 x9 x126000 x126001 x126002 x126003 x126004)
def bulkheadref02_Decode.j2 : Nat → Int → Int → Bool → Int → Int → Int → Int → Int → Option (Int × Int × Int × Int × Int × Int)
  | 0, _, _, _, _, _, _, _, _ => none
  | k + 1, x0, x4, x9, x126000, x126001, x126002, x126003, x126004 => if x9 = true then (if (Int.tmod x4 262144) > 131071 then ((bulkheadref02_Encode.f k x126000 x126001 x126002 x126003 (wrap64 ((Int.tmod x4 262144) - 262144))).bind fun bt131 => (if bt131.2 = 0 then (if bt131.1 = x0 then (some (x126000, x126001, x126002, x126003, wrap64 ((Int.tmod x4 262144) - 262144), 0)) else (some (0, 0, 0, 0, 0, 20))) else (some (0, 0, 0, 0, 0, 20)))) else ((bulkheadref02_Encode.f k x126000 x126001 x126002 x126003 (Int.tmod x4 262144)).bind fun bt133 => (if bt133.2 = 0 then (if bt133.1 = x0 then (some (x126000, x126001, x126002, x126003, Int.tmod x4 262144, 0)) else (some (0, 0, 0, 0, 0, 20))) else (some (0, 0, 0, 0, 0, 20))))) else ((bulkheadref02_Encode.f k x126000 x126001 x126002 x126003 x126004).bind fun bt135 => (if bt135.2 = 0 then (if bt135.1 = x0 then (some (x126000, x126001, x126002, x126003, x126004, 0)) else (some (0, 0, 0, 0, 0, 20))) else (some (0, 0, 0, 0, 0, 20))))
end
def bulkheadref02_Decode.f (k : Nat) (a0 : Int) : Option (Int × Int × Int × Int × Int × Int) := (bulkheadref02_Form.f (wrap64 (Int.tdiv (wrap64 (a0)) 67108864))).bind fun t126 => ((bulkheadref02_Has.f t126).bind fun bt127 => (if bt127.1 = true then (bulkheadref02_Decode.j0 k a0 (wrap64 (a0)) bt127.2.1 bt127.2.2.1 bt127.2.2.2 (wrap64 (Int.tdiv (wrap64 (a0)) 67108864)) (Int.tmod (wrap64 (Int.tdiv (wrap64 (a0)) 4194304)) 16) 0 0 0) else (bulkheadref02_Decode.j0 k a0 (wrap64 (a0)) bt127.2.1 bt127.2.2.1 bt127.2.2.2 (wrap64 (Int.tdiv (wrap64 (a0)) 67108864)) 0 0 0 0)))
theorem bulkheadref02_Decode.mono_l : ∀ k, (∀ y0 y1 y2 y3 y4 y5 y6 y7 y8 y9, LeO (bulkheadref02_Decode.j0 k y0 y1 y2 y3 y4 y5 y6 y7 y8 y9) (bulkheadref02_Decode.j0 (k + 1) y0 y1 y2 y3 y4 y5 y6 y7 y8 y9)) ∧ (∀ y0 y1 y2 y3 y4 y5 y6 y7 y8, LeO (bulkheadref02_Decode.j1 k y0 y1 y2 y3 y4 y5 y6 y7 y8) (bulkheadref02_Decode.j1 (k + 1) y0 y1 y2 y3 y4 y5 y6 y7 y8)) ∧ (∀ y0 y1 y2 y3 y4 y5 y6 y7, LeO (bulkheadref02_Decode.j2 k y0 y1 y2 y3 y4 y5 y6 y7) (bulkheadref02_Decode.j2 (k + 1) y0 y1 y2 y3 y4 y5 y6 y7))
  | 0 => ⟨fun _ _ _ _ _ _ _ _ _ _ r h => by simp [bulkheadref02_Decode.j0] at h, fun _ _ _ _ _ _ _ _ _ r h => by simp [bulkheadref02_Decode.j1] at h, fun _ _ _ _ _ _ _ _ r h => by simp [bulkheadref02_Decode.j2] at h⟩
  | k + 1 => by
    obtain ⟨ih0, ih1, ih2⟩ := bulkheadref02_Decode.mono_l k
    refine ⟨?_, ?_, ?_⟩
    · intro y0 y1 y2 y3 y4 y5 y6 y7 y8 y9
      unfold bulkheadref02_Decode.j0
      repeat' first
      | (with_reducible exact ih0 _ _ _ _ _ _ _ _ _ _)
      | (with_reducible exact ih1 _ _ _ _ _ _ _ _ _)
      | (with_reducible exact ih2 _ _ _ _ _ _ _ _)
      | (with_reducible exact bulkheadref02_Encode.mono _ _ _ _ _ _)
      | (with_reducible exact LeO.refl _)
      | (with_reducible exact LeO.none _)
      | (with_reducible refine LeO.ite ?_ ?_)
      | (with_reducible refine LeO.bind ?_ (fun _ => ?_))
      | exact ih0 _ _ _ _ _ _ _ _ _ _
      | exact ih1 _ _ _ _ _ _ _ _ _
      | exact ih2 _ _ _ _ _ _ _ _
      | exact bulkheadref02_Encode.mono _ _ _ _ _ _
      | exact LeO.none _
      | refine LeO.ite ?_ ?_
      | refine LeO.bind ?_ (fun _ => ?_)
    · intro y0 y1 y2 y3 y4 y5 y6 y7 y8
      unfold bulkheadref02_Decode.j1
      repeat' first
      | (with_reducible exact ih0 _ _ _ _ _ _ _ _ _ _)
      | (with_reducible exact ih1 _ _ _ _ _ _ _ _ _)
      | (with_reducible exact ih2 _ _ _ _ _ _ _ _)
      | (with_reducible exact bulkheadref02_Encode.mono _ _ _ _ _ _)
      | (with_reducible exact LeO.refl _)
      | (with_reducible exact LeO.none _)
      | (with_reducible refine LeO.ite ?_ ?_)
      | (with_reducible refine LeO.bind ?_ (fun _ => ?_))
      | exact ih0 _ _ _ _ _ _ _ _ _ _
      | exact ih1 _ _ _ _ _ _ _ _ _
      | exact ih2 _ _ _ _ _ _ _ _
      | exact bulkheadref02_Encode.mono _ _ _ _ _ _
      | exact LeO.none _
      | refine LeO.ite ?_ ?_
      | refine LeO.bind ?_ (fun _ => ?_)
    · intro y0 y1 y2 y3 y4 y5 y6 y7
      unfold bulkheadref02_Decode.j2
      repeat' first
      | (with_reducible exact ih0 _ _ _ _ _ _ _ _ _ _)
      | (with_reducible exact ih1 _ _ _ _ _ _ _ _ _)
      | (with_reducible exact ih2 _ _ _ _ _ _ _ _)
      | (with_reducible exact bulkheadref02_Encode.mono _ _ _ _ _ _)
      | (with_reducible exact LeO.refl _)
      | (with_reducible exact LeO.none _)
      | (with_reducible refine LeO.ite ?_ ?_)
      | (with_reducible refine LeO.bind ?_ (fun _ => ?_))
      | exact ih0 _ _ _ _ _ _ _ _ _ _
      | exact ih1 _ _ _ _ _ _ _ _ _
      | exact ih2 _ _ _ _ _ _ _ _
      | exact bulkheadref02_Encode.mono _ _ _ _ _ _
      | exact LeO.none _
      | refine LeO.ite ?_ ?_
      | refine LeO.bind ?_ (fun _ => ?_)
theorem bulkheadref02_Decode.mono : ∀ a0 k, LeO (bulkheadref02_Decode.f k a0) (bulkheadref02_Decode.f (k + 1) a0) := by
  intro a0 k
  obtain ⟨ih0, ih1, ih2⟩ := bulkheadref02_Decode.mono_l k
  unfold bulkheadref02_Decode.f
  repeat' first
      | (with_reducible exact ih0 _ _ _ _ _ _ _ _ _ _)
      | (with_reducible exact ih1 _ _ _ _ _ _ _ _ _)
      | (with_reducible exact ih2 _ _ _ _ _ _ _ _)
      | (with_reducible exact bulkheadref02_Encode.mono _ _ _ _ _ _)
      | (with_reducible exact LeO.refl _)
      | (with_reducible exact LeO.none _)
      | (with_reducible refine LeO.ite ?_ ?_)
      | (with_reducible refine LeO.bind ?_ (fun _ => ?_))
      | exact ih0 _ _ _ _ _ _ _ _ _ _
      | exact ih1 _ _ _ _ _ _ _ _ _
      | exact ih2 _ _ _ _ _ _ _ _
      | exact bulkheadref02_Encode.mono _ _ _ _ _ _
      | exact LeO.none _
      | refine LeO.ite ?_ ?_
      | refine LeO.bind ?_ (fun _ => ?_)
set_option maxHeartbeats 8000000 in
set_option maxRecDepth 100000 in
theorem bulkheadref02_Decode.calls (k : Nat) (a0 : Int) (r1 : Int) (r2 : Int) (r3 : Int) (r4 : Int) (r5 : Int) (r6 : Int) (w : World) (h : bulkheadref02_Decode.f k a0 = some (r1, r2, r3, r4, r5, r6)) :
    Calls Tryd.prog 14 #[.int .u32 a0] w fun e w' => e = .returned (.tuple #[.agg #[.int .i64 r1, .int .i64 r2, .int .i64 r3, .int .i64 r4, .int .i64 r5], .int .i64 r6]) ∧ Below w.heap.size w w' := by
  have hu23 := Tryd.underlying23
  have HB := Aside0.mk (Below.refl w.heap.size w)
  have H : ((bulkheadref02_Form.f (wrap64 (Int.tdiv (wrap64 (a0)) 67108864))).bind fun t126 => ((bulkheadref02_Has.f t126).bind fun bt127 => (if bt127.1 = true then (bulkheadref02_Decode.j0 k a0 (wrap64 (a0)) bt127.2.1 bt127.2.2.1 bt127.2.2.2 (wrap64 (Int.tdiv (wrap64 (a0)) 67108864)) (Int.tmod (wrap64 (Int.tdiv (wrap64 (a0)) 4194304)) 16) 0 0 0) else (bulkheadref02_Decode.j0 k a0 (wrap64 (a0)) bt127.2.1 bt127.2.2.1 bt127.2.2.2 (wrap64 (Int.tdiv (wrap64 (a0)) 67108864)) 0 0 0 0)))) = some (r1, r2, r3, r4, r5, r6) := h
  clear h
  replace H := Option.bind_eq_some_iff.mp H
  obtain ⟨t126, A20, H⟩ := H
  replace H : ((bulkheadref02_Has.f t126).bind fun bt127 => (if bt127.1 = true then (bulkheadref02_Decode.j0 k a0 (wrap64 (a0)) bt127.2.1 bt127.2.2.1 bt127.2.2.2 (wrap64 (Int.tdiv (wrap64 (a0)) 67108864)) (Int.tmod (wrap64 (Int.tdiv (wrap64 (a0)) 4194304)) 16) 0 0 0) else (bulkheadref02_Decode.j0 k a0 (wrap64 (a0)) bt127.2.1 bt127.2.2.1 bt127.2.2.2 (wrap64 (Int.tdiv (wrap64 (a0)) 67108864)) 0 0 0 0))) = some (r1, r2, r3, r4, r5, r6) := H
  have A2 := Aside0.mk A20
  clear A20
  replace H := Option.bind_eq_some_iff.mp H
  obtain ⟨⟨t127, t128, t129, t130⟩, A30, H⟩ := H
  replace H : (if t127 = true then (bulkheadref02_Decode.j0 k a0 (wrap64 (a0)) t128 t129 t130 (wrap64 (Int.tdiv (wrap64 (a0)) 67108864)) (Int.tmod (wrap64 (Int.tdiv (wrap64 (a0)) 4194304)) 16) 0 0 0) else (bulkheadref02_Decode.j0 k a0 (wrap64 (a0)) t128 t129 t130 (wrap64 (Int.tdiv (wrap64 (a0)) 67108864)) 0 0 0 0)) = some (r1, r2, r3, r4, r5, r6) := H
  have A3 := Aside0.mk A30
  clear A30
  have HC4 := Aside0.mk H
  clear H
  go_enter Tryd.func14, Tryd.ntmps14
  go_upto_if 26 with (first | ((with_reducible refine gate_dst (N := 2) rfl ?_); refine box_event ?hg (N := 2) ?hd (cs := #[.int .i64 0, .int .i64 0, .int .i64 0, .int .i64 0, .int .i64 0]) (t := 23) ?hr ?_; (case hd => rfl); (case hg => rfl); (case hr => first | (go_simp; done) | (go_simp; rfl)); intro gb124 hg w5 hbox hb; have n0_ := Aside0.mk (below_step (by repeat (first | (with_reducible first | exact HB.out | apply below_alloc | apply pw_below_drewN | apply below_drew1) | exact HB.out)) hb); have n1_ := Aside0.mk (hbox); have n2_ := Aside0.mk ((by rw [hg]; exact (below_size (by repeat (first | (with_reducible first | exact HB.out | apply below_alloc | apply pw_below_drewN | apply below_drew1) | exact HB.out))) : w.heap.size ≤ gb124)); have n3_ := Aside0.mk ((by rw [hg]; exact (below_size (by repeat (first | (with_reducible first | exact HB.out | apply below_alloc | apply pw_below_drewN | apply below_drew1) | exact HB.out))) : w.heap.size ≤ gb124)); clear HB; have HB := n0_; have BK124 := n1_; have GW124 := n2_; have GE124 := n3_; clear n0_ n1_ n2_ n3_; clear hb hbox hg) | ((with_reducible refine gate_dst (N := 5) rfl ?_); refine box_event ?hg (N := 5) ?hd (cs := #[.int .i64 0, .int .i64 0, .int .i64 0, .int .i64 0, .int .i64 0]) (t := 23) ?hr ?_; (case hd => rfl); (case hg => rfl); (case hr => first | (go_simp; done) | (go_simp; rfl)); intro gb125 hg w6 hbox hb; have n0_ := Aside0.mk (blk_below (g := gb124) (o := .cells #[.int .i64 0, .int .i64 0, .int .i64 0, .int .i64 0, .int .i64 0] 23 (0, 0)) (by (with_reducible repeat (first | refine blk_drewN ?_ _ | refine blk_drew ?_ | refine blk_alloc ?_ _)); exact BK124.out) hb); have n1_ := Aside0.mk (below_step (by repeat (first | (with_reducible first | exact HB.out | apply below_alloc | apply pw_below_drewN | apply below_drew1 | refine below_set ?_ GE124.out) | exact HB.out)) hb); have n2_ := Aside0.mk (hbox); have n3_ := Aside0.mk ((by rw [hg]; exact (below_size (by repeat (first | (with_reducible first | exact HB.out | apply below_alloc | apply pw_below_drewN | apply below_drew1 | refine below_set ?_ GE124.out) | exact HB.out))) : w.heap.size ≤ gb125)); have n4_ := Aside0.mk ((by rw [hg]; exact (below_size (by repeat (first | (with_reducible first | exact HB.out | apply below_alloc | apply pw_below_drewN | apply below_drew1 | refine below_set ?_ GE124.out) | exact HB.out))) : w.heap.size ≤ gb125)); have n5_ := Aside0.mk ((by rw [hg]; exact Nat.ne_of_lt (blk_lt (g := gb124) (o := .cells #[.int .i64 0, .int .i64 0, .int .i64 0, .int .i64 0, .int .i64 0] 23 (0, 0)) (by (with_reducible repeat (first | refine blk_drewN ?_ _ | refine blk_drew ?_ | refine blk_alloc ?_ _)); exact BK124.out)) : gb124 ≠ gb125)); have n6_ := Aside0.mk ((by rw [hg]; exact Nat.ne_of_gt (blk_lt (g := gb124) (o := .cells #[.int .i64 0, .int .i64 0, .int .i64 0, .int .i64 0, .int .i64 0] 23 (0, 0)) (by (with_reducible repeat (first | refine blk_drewN ?_ _ | refine blk_drew ?_ | refine blk_alloc ?_ _)); exact BK124.out)) : gb125 ≠ gb124)); clear BK124; clear HB; have BK124 := n0_; have HB := n1_; have BK125 := n2_; have GW125 := n3_; have GE125 := n4_; have NB124_125 := n5_; have NB125_124 := n6_; clear n0_ n1_ n2_ n3_ n4_ n5_ n6_; clear hb hbox hg; have hnb7 := NB125_124.out; have hnc7 := NB124_125.out; have hcz8_0 : w6.cell? ⟨gb125, 0, none⟩ = some (.int .i64 0) := (blk_cell BK125.out 0).trans rfl; have hcz8_1 : w6.cell? ⟨gb125, 1, none⟩ = some (.int .i64 0) := (blk_cell BK125.out 1).trans rfl; have hcz8_2 : w6.cell? ⟨gb125, 2, none⟩ = some (.int .i64 0) := (blk_cell BK125.out 2).trans rfl; have hcz8_3 : w6.cell? ⟨gb125, 3, none⟩ = some (.int .i64 0) := (blk_cell BK125.out 3).trans rfl; have hcz8_4 : w6.cell? ⟨gb125, 4, none⟩ = some (.int .i64 0) := (blk_cell BK125.out 4).trans rfl; have hfz8_0 := blk_frozen BK125.out 0; have hfz8_1 := blk_frozen BK125.out 1; have hfz8_2 := blk_frozen BK125.out 2; have hfz8_3 := blk_frozen BK125.out 3; have hfz8_4 := blk_frozen BK125.out 4) | ((with_reducible refine gate_callee (f := 19) rfl ?_); refine goesL_ (some 20) rfl rfl Tryd.func19 (by kernel_rfl) rfl #[.int .i64 (wrap64 (Int.tdiv (wrap64 (a0)) 67108864))] rfl (by (try simp only [List.map_toArray, List.map_cons, List.map_nil]); first | done | rfl | (simp only [List.length_drop, List.length_take]; rfl)) ?_; (with_reducible refine (bulkheadref02_Form.calls (wrap64 (Int.tdiv (wrap64 (a0)) 67108864)) t126 _ A2.out).mono ?_); rintro e w9 ⟨rfl, hb⟩; refine ⟨_, rfl, ?_⟩; have n0_ := Aside0.mk (blk_below (g := gb124) (o := .cells #[.int .i64 0, .int .i64 0, .int .i64 0, .int .i64 0, .int .i64 0] 23 (0, 0)) (by (with_reducible repeat (first | refine blk_drewN ?_ _ | refine blk_drew ?_ | refine blk_alloc ?_ _)); refine blk_far ?_ NB124_125.out _; (with_reducible repeat (first | refine blk_drewN ?_ _ | refine blk_drew ?_ | refine blk_alloc ?_ _)); refine blk_far ?_ NB124_125.out _; (with_reducible repeat (first | refine blk_drewN ?_ _ | refine blk_drew ?_ | refine blk_alloc ?_ _)); refine blk_far ?_ NB124_125.out _; (with_reducible repeat (first | refine blk_drewN ?_ _ | refine blk_drew ?_ | refine blk_alloc ?_ _)); refine blk_far ?_ NB124_125.out _; (with_reducible repeat (first | refine blk_drewN ?_ _ | refine blk_drew ?_ | refine blk_alloc ?_ _)); refine blk_far ?_ NB124_125.out _; (with_reducible repeat (first | refine blk_drewN ?_ _ | refine blk_drew ?_ | refine blk_alloc ?_ _)); exact BK124.out) hb); have n1_ := Aside0.mk (blk_below (g := gb125) (o := .cells #[.int .i64 (wrap64 (Int.tdiv (wrap64 (a0)) 67108864)), .int .i64 0, .int .i64 0, .int .i64 0, .int .i64 0] 23 (0, 0)) (by (with_reducible repeat (first | refine blk_drewN ?_ _ | refine blk_drew ?_ | refine blk_alloc ?_ _)); refine blk_put (cs := #[.int .i64 (wrap64 (Int.tdiv (wrap64 (a0)) 67108864)), .int .i64 0, .int .i64 0, .int .i64 0, .int .i64 0]) ?_ 4 _ rfl; (with_reducible repeat (first | refine blk_drewN ?_ _ | refine blk_drew ?_ | refine blk_alloc ?_ _)); refine blk_put (cs := #[.int .i64 (wrap64 (Int.tdiv (wrap64 (a0)) 67108864)), .int .i64 0, .int .i64 0, .int .i64 0, .int .i64 0]) ?_ 3 _ rfl; (with_reducible repeat (first | refine blk_drewN ?_ _ | refine blk_drew ?_ | refine blk_alloc ?_ _)); refine blk_put (cs := #[.int .i64 (wrap64 (Int.tdiv (wrap64 (a0)) 67108864)), .int .i64 0, .int .i64 0, .int .i64 0, .int .i64 0]) ?_ 2 _ rfl; (with_reducible repeat (first | refine blk_drewN ?_ _ | refine blk_drew ?_ | refine blk_alloc ?_ _)); refine blk_put (cs := #[.int .i64 (wrap64 (Int.tdiv (wrap64 (a0)) 67108864)), .int .i64 0, .int .i64 0, .int .i64 0, .int .i64 0]) ?_ 1 _ rfl; (with_reducible repeat (first | refine blk_drewN ?_ _ | refine blk_drew ?_ | refine blk_alloc ?_ _)); refine blk_put (cs := #[.int .i64 0, .int .i64 0, .int .i64 0, .int .i64 0, .int .i64 0]) ?_ 0 _ rfl; (with_reducible repeat (first | refine blk_drewN ?_ _ | refine blk_drew ?_ | refine blk_alloc ?_ _)); exact BK125.out) hb); have n2_ := Aside0.mk (below_step (by repeat (first | (with_reducible first | exact HB.out | apply below_alloc | apply pw_below_drewN | apply below_drew1 | refine below_set ?_ GE124.out | refine below_set ?_ GE125.out) | exact HB.out)) hb); clear BK124; clear BK125; clear HB; have BK124 := n0_; have BK125 := n1_; have HB := n2_; clear n0_ n1_ n2_; (try clear hb); (try clear hb2); (try clear hk); (try clear hi)) | ((with_reducible refine gate_callee (f := 25) rfl ?_); refine goesL_ (some 21) rfl rfl Tryd.func25 (by kernel_rfl) rfl #[.int .i64 t126] rfl (by (try simp only [List.map_toArray, List.map_cons, List.map_nil]); first | done | rfl | (simp only [List.length_drop, List.length_take]; rfl)) ?_; (with_reducible refine (bulkheadref02_Has.calls t126 t127 t128 t129 t130 _ A3.out).mono ?_); rintro e w' ⟨rfl, ⟨nd, rfl⟩⟩; refine ⟨_, rfl, ?_⟩))
  (try simp only [Act.put, List.setIfInBounds_toArray, List.set_cons_zero, List.set_cons_succ])
  go_cut [] (fun wc => ∃ (kq : Nat) (x126001_3 : Int), Aside0 (bulkheadref02_Decode.j0 kq a0 (wrap64 (a0)) t128 t129 t130 (wrap64 (Int.tdiv (wrap64 (a0)) 67108864)) x126001_3 0 0 0 = some (r1, r2, r3, r4, r5, r6)) ∧ Aside0 (kq ≤ k) ∧ Aside0 (wc.heap[gb124]? = some (.cells #[.int .i64 0, .int .i64 0, .int .i64 0, .int .i64 0, .int .i64 0] 23 (0, 0))) ∧ Aside0 (wc.heap[gb125]? = some (.cells #[.int .i64 (wrap64 (Int.tdiv (wrap64 (a0)) 67108864)), .int .i64 x126001_3, .int .i64 0, .int .i64 0, .int .i64 0] 23 (0, 0))) ∧ Aside0 (Below w.heap.size w wc))
  case first =>
    have H := HC4.out
    clear HC4
    by_cases c10 : t127 = true
    · subst c10
      have H1 : (bulkheadref02_Decode.j0 k a0 (wrap64 (a0)) t128 t129 t130 (wrap64 (Int.tdiv (wrap64 (a0)) 67108864)) (Int.tmod (wrap64 (Int.tdiv (wrap64 (a0)) 4194304)) 16) 0 0 0) = some (r1, r2, r3, r4, r5, r6) := by rw [if_pos rfl] at H; exact H
      clear H
      have H := H1
      clear H1
      have H' := Aside0.mk H
      clear H
      have hnb11 := NB125_124.out
      have hnc11 := NB124_125.out
      have hcz12_0 : w9.cell? ⟨gb125, 0, none⟩ = some (.int .i64 (wrap64 (Int.tdiv (wrap64 (a0)) 67108864))) := (blk_cell BK125.out 0).trans rfl
      have hcz12_1 : w9.cell? ⟨gb125, 1, none⟩ = some (.int .i64 0) := (blk_cell BK125.out 1).trans rfl
      have hcz12_2 : w9.cell? ⟨gb125, 2, none⟩ = some (.int .i64 0) := (blk_cell BK125.out 2).trans rfl
      have hcz12_3 : w9.cell? ⟨gb125, 3, none⟩ = some (.int .i64 0) := (blk_cell BK125.out 3).trans rfl
      have hcz12_4 : w9.cell? ⟨gb125, 4, none⟩ = some (.int .i64 0) := (blk_cell BK125.out 4).trans rfl
      have hfz12_0 := blk_frozen BK125.out 0
      have hfz12_1 := blk_frozen BK125.out 1
      have hfz12_2 := blk_frozen BK125.out 2
      have hfz12_3 := blk_frozen BK125.out 3
      have hfz12_4 := blk_frozen BK125.out 4
      go_wp2
      go_meet
      case rel => exact ⟨_, (Int.tmod (wrap64 (Int.tdiv (wrap64 (a0)) 4194304)) 16), H', ⟨by first | omega | exact Nat.le_refl _⟩, ⟨by (with_reducible repeat (first | refine blk_drewN ?_ _ | refine blk_drew ?_ | refine blk_alloc ?_ _)); refine blk_far ?_ NB124_125.out _; (with_reducible repeat (first | refine blk_drewN ?_ _ | refine blk_drew ?_ | refine blk_alloc ?_ _)); exact BK124.out⟩, ⟨by (with_reducible repeat (first | refine blk_drewN ?_ _ | refine blk_drew ?_ | refine blk_alloc ?_ _)); refine blk_put (cs := #[.int .i64 (wrap64 (Int.tdiv (wrap64 (a0)) 67108864)), .int .i64 0, .int .i64 0, .int .i64 0, .int .i64 0]) ?_ 1 _ rfl; (with_reducible repeat (first | refine blk_drewN ?_ _ | refine blk_drew ?_ | refine blk_alloc ?_ _)); exact BK125.out⟩, ⟨by repeat (first | (with_reducible first | exact HB.out | apply below_alloc | apply pw_below_drewN | apply below_drew1 | refine below_set ?_ GE124.out | refine below_set ?_ GE125.out) | exact HB.out)⟩⟩
    · replace c10 := Bool.eq_false_iff.mpr c10
      subst c10
      have H1 : (bulkheadref02_Decode.j0 k a0 (wrap64 (a0)) t128 t129 t130 (wrap64 (Int.tdiv (wrap64 (a0)) 67108864)) 0 0 0 0) = some (r1, r2, r3, r4, r5, r6) := by rw [if_neg (show ¬ (false = true) by decide)] at H; exact H
      clear H
      have H := H1
      clear H1
      have H' := Aside0.mk H
      clear H
      go_wp2
      go_meet
      case rel => exact ⟨_, (0), H', ⟨by first | omega | exact Nat.le_refl _⟩, ⟨by (with_reducible repeat (first | refine blk_drewN ?_ _ | refine blk_drew ?_ | refine blk_alloc ?_ _)); exact BK124.out⟩, ⟨by (with_reducible repeat (first | refine blk_drewN ?_ _ | refine blk_drew ?_ | refine blk_alloc ?_ _)); exact BK125.out⟩, ⟨by repeat (first | (with_reducible first | exact HB.out | apply below_alloc | apply pw_below_drewN | apply below_drew1 | refine below_set ?_ GE124.out | refine below_set ?_ GE125.out) | exact HB.out)⟩⟩
  case rest =>
    clear HC4
    try clear c1
    try clear c2
    try clear p2
    try clear p6
    try clear c7
    try clear c10
    try clear c11
    try clear hcz12_0
    try clear hcz12_1
    try clear hcz12_2
    try clear hcz12_3
    try clear hcz12_4
    try clear hcz8_0
    try clear hcz8_1
    try clear hcz8_2
    try clear hcz8_3
    try clear hcz8_4
    try clear hfz12_0
    try clear hfz12_1
    try clear hfz12_2
    try clear hfz12_3
    try clear hfz12_4
    try clear hfz8_0
    try clear hfz8_1
    try clear hfz8_2
    try clear hfz8_3
    try clear hfz8_4
    obtain ⟨kq, x126001_3, HA, HJ3, BK124, BK125, HB⟩ := hcut
    cases kq with
    | zero => exact absurd HA.out (by simp [bulkheadref02_Decode.j0])
    | succ kj3 =>
      have H := HA.out
      clear HA
      simp only [bulkheadref02_Decode.j0] at H
      have HC13 := Aside0.mk H
      clear H
      go_upto_if 31 with (fail)
      go_cut [] (fun wc => ∃ (kq : Nat) (x126002_12 : Int), Aside0 (bulkheadref02_Decode.j1 kq a0 (wrap64 (a0)) t129 t130 (wrap64 (Int.tdiv (wrap64 (a0)) 67108864)) x126001_3 x126002_12 0 0 = some (r1, r2, r3, r4, r5, r6)) ∧ Aside0 (kq ≤ kj3) ∧ Aside0 (wc.heap[gb124]? = some (.cells #[.int .i64 0, .int .i64 0, .int .i64 0, .int .i64 0, .int .i64 0] 23 (0, 0))) ∧ Aside0 (wc.heap[gb125]? = some (.cells #[.int .i64 (wrap64 (Int.tdiv (wrap64 (a0)) 67108864)), .int .i64 x126001_3, .int .i64 x126002_12, .int .i64 0, .int .i64 0] 23 (0, 0))) ∧ Aside0 (Below w.heap.size w wc))
      case first =>
        have H := HC13.out
        clear HC13
        by_cases c14 : t128 = true
        · subst c14
          have H1 : (bulkheadref02_Decode.j1 kj3 a0 (wrap64 (a0)) t129 t130 (wrap64 (Int.tdiv (wrap64 (a0)) 67108864)) x126001_3 (Int.tmod (wrap64 (Int.tdiv (wrap64 (a0)) 262144)) 16) 0 0) = some (r1, r2, r3, r4, r5, r6) := by rw [if_pos rfl] at H; exact H
          clear H
          have H := H1
          clear H1
          have H' := Aside0.mk H
          clear H
          have hnb15 := NB125_124.out
          have hnc15 := NB124_125.out
          have hcz16_0 : wc.cell? ⟨gb125, 0, none⟩ = some (.int .i64 (wrap64 (Int.tdiv (wrap64 (a0)) 67108864))) := (blk_cell BK125.out 0).trans rfl
          have hcz16_1 : wc.cell? ⟨gb125, 1, none⟩ = some (.int .i64 x126001_3) := (blk_cell BK125.out 1).trans rfl
          have hcz16_2 : wc.cell? ⟨gb125, 2, none⟩ = some (.int .i64 0) := (blk_cell BK125.out 2).trans rfl
          have hcz16_3 : wc.cell? ⟨gb125, 3, none⟩ = some (.int .i64 0) := (blk_cell BK125.out 3).trans rfl
          have hcz16_4 : wc.cell? ⟨gb125, 4, none⟩ = some (.int .i64 0) := (blk_cell BK125.out 4).trans rfl
          have hfz16_0 := blk_frozen BK125.out 0
          have hfz16_1 := blk_frozen BK125.out 1
          have hfz16_2 := blk_frozen BK125.out 2
          have hfz16_3 := blk_frozen BK125.out 3
          have hfz16_4 := blk_frozen BK125.out 4
          go_wp2
          go_meet
          case rel => exact ⟨_, (Int.tmod (wrap64 (Int.tdiv (wrap64 (a0)) 262144)) 16), H', ⟨by have := HJ3.out; first | omega | exact Nat.le_refl _⟩, ⟨by (with_reducible repeat (first | refine blk_drewN ?_ _ | refine blk_drew ?_ | refine blk_alloc ?_ _)); refine blk_far ?_ NB124_125.out _; (with_reducible repeat (first | refine blk_drewN ?_ _ | refine blk_drew ?_ | refine blk_alloc ?_ _)); exact BK124.out⟩, ⟨by (with_reducible repeat (first | refine blk_drewN ?_ _ | refine blk_drew ?_ | refine blk_alloc ?_ _)); refine blk_put (cs := #[.int .i64 (wrap64 (Int.tdiv (wrap64 (a0)) 67108864)), .int .i64 x126001_3, .int .i64 0, .int .i64 0, .int .i64 0]) ?_ 2 _ rfl; (with_reducible repeat (first | refine blk_drewN ?_ _ | refine blk_drew ?_ | refine blk_alloc ?_ _)); exact BK125.out⟩, ⟨by repeat (first | (with_reducible first | exact HB.out | apply below_alloc | apply pw_below_drewN | apply below_drew1 | refine below_set ?_ GE124.out | refine below_set ?_ GE125.out) | exact HB.out)⟩⟩
        · replace c14 := Bool.eq_false_iff.mpr c14
          subst c14
          have H1 : (bulkheadref02_Decode.j1 kj3 a0 (wrap64 (a0)) t129 t130 (wrap64 (Int.tdiv (wrap64 (a0)) 67108864)) x126001_3 0 0 0) = some (r1, r2, r3, r4, r5, r6) := by rw [if_neg (show ¬ (false = true) by decide)] at H; exact H
          clear H
          have H := H1
          clear H1
          have H' := Aside0.mk H
          clear H
          go_wp2
          go_meet
          case rel => exact ⟨_, (0), H', ⟨by have := HJ3.out; first | omega | exact Nat.le_refl _⟩, ⟨by (with_reducible repeat (first | refine blk_drewN ?_ _ | refine blk_drew ?_ | refine blk_alloc ?_ _)); exact BK124.out⟩, ⟨by (with_reducible repeat (first | refine blk_drewN ?_ _ | refine blk_drew ?_ | refine blk_alloc ?_ _)); exact BK125.out⟩, ⟨by repeat (first | (with_reducible first | exact HB.out | apply below_alloc | apply pw_below_drewN | apply below_drew1 | refine below_set ?_ GE124.out | refine below_set ?_ GE125.out) | exact HB.out)⟩⟩
      case rest =>
        clear HC13
        try clear c1
        try clear c2
        try clear p2
        try clear p6
        try clear c7
        try clear c10
        try clear c11
        try clear c14
        try clear c15
        try clear hcz12_0
        try clear hcz12_1
        try clear hcz12_2
        try clear hcz12_3
        try clear hcz12_4
        try clear hcz16_0
        try clear hcz16_1
        try clear hcz16_2
        try clear hcz16_3
        try clear hcz16_4
        try clear hcz8_0
        try clear hcz8_1
        try clear hcz8_2
        try clear hcz8_3
        try clear hcz8_4
        try clear hfz12_0
        try clear hfz12_1
        try clear hfz12_2
        try clear hfz12_3
        try clear hfz12_4
        try clear hfz16_0
        try clear hfz16_1
        try clear hfz16_2
        try clear hfz16_3
        try clear hfz16_4
        try clear hfz8_0
        try clear hfz8_1
        try clear hfz8_2
        try clear hfz8_3
        try clear hfz8_4
        try clear p2
        try clear p6
        obtain ⟨kq, x126002_12, HA, HJ12, BK124, BK125, HB⟩ := hcut
        cases kq with
        | zero => exact absurd HA.out (by simp [bulkheadref02_Decode.j1])
        | succ kj12 =>
          have H := HA.out
          clear HA
          simp only [bulkheadref02_Decode.j1] at H
          have HC17 := Aside0.mk H
          clear H
          go_upto_if 36 with (fail)
          go_cut [] (fun wc => ∃ (kq : Nat) (x126003_16 : Int), Aside0 (bulkheadref02_Decode.j2 kq a0 (wrap64 (a0)) t130 (wrap64 (Int.tdiv (wrap64 (a0)) 67108864)) x126001_3 x126002_12 x126003_16 0 = some (r1, r2, r3, r4, r5, r6)) ∧ Aside0 (kq ≤ kj12) ∧ Aside0 (wc.heap[gb124]? = some (.cells #[.int .i64 0, .int .i64 0, .int .i64 0, .int .i64 0, .int .i64 0] 23 (0, 0))) ∧ Aside0 (wc.heap[gb125]? = some (.cells #[.int .i64 (wrap64 (Int.tdiv (wrap64 (a0)) 67108864)), .int .i64 x126001_3, .int .i64 x126002_12, .int .i64 x126003_16, .int .i64 0] 23 (0, 0))) ∧ Aside0 (Below w.heap.size w wc))
          case first =>
            have H := HC17.out
            clear HC17
            by_cases c18 : t129 = true
            · subst c18
              have H1 : (bulkheadref02_Decode.j2 kj12 a0 (wrap64 (a0)) t130 (wrap64 (Int.tdiv (wrap64 (a0)) 67108864)) x126001_3 x126002_12 (Int.tmod (wrap64 (Int.tdiv (wrap64 (a0)) 16384)) 16) 0) = some (r1, r2, r3, r4, r5, r6) := by rw [if_pos rfl] at H; exact H
              clear H
              have H := H1
              clear H1
              have H' := Aside0.mk H
              clear H
              have hnb19 := NB125_124.out
              have hnc19 := NB124_125.out
              have hcz20_0 : wc.cell? ⟨gb125, 0, none⟩ = some (.int .i64 (wrap64 (Int.tdiv (wrap64 (a0)) 67108864))) := (blk_cell BK125.out 0).trans rfl
              have hcz20_1 : wc.cell? ⟨gb125, 1, none⟩ = some (.int .i64 x126001_3) := (blk_cell BK125.out 1).trans rfl
              have hcz20_2 : wc.cell? ⟨gb125, 2, none⟩ = some (.int .i64 x126002_12) := (blk_cell BK125.out 2).trans rfl
              have hcz20_3 : wc.cell? ⟨gb125, 3, none⟩ = some (.int .i64 0) := (blk_cell BK125.out 3).trans rfl
              have hcz20_4 : wc.cell? ⟨gb125, 4, none⟩ = some (.int .i64 0) := (blk_cell BK125.out 4).trans rfl
              have hfz20_0 := blk_frozen BK125.out 0
              have hfz20_1 := blk_frozen BK125.out 1
              have hfz20_2 := blk_frozen BK125.out 2
              have hfz20_3 := blk_frozen BK125.out 3
              have hfz20_4 := blk_frozen BK125.out 4
              go_wp2
              go_meet
              case rel => exact ⟨_, (Int.tmod (wrap64 (Int.tdiv (wrap64 (a0)) 16384)) 16), H', ⟨by have := HJ3.out; have := HJ12.out; first | omega | exact Nat.le_refl _⟩, ⟨by (with_reducible repeat (first | refine blk_drewN ?_ _ | refine blk_drew ?_ | refine blk_alloc ?_ _)); refine blk_far ?_ NB124_125.out _; (with_reducible repeat (first | refine blk_drewN ?_ _ | refine blk_drew ?_ | refine blk_alloc ?_ _)); exact BK124.out⟩, ⟨by (with_reducible repeat (first | refine blk_drewN ?_ _ | refine blk_drew ?_ | refine blk_alloc ?_ _)); refine blk_put (cs := #[.int .i64 (wrap64 (Int.tdiv (wrap64 (a0)) 67108864)), .int .i64 x126001_3, .int .i64 x126002_12, .int .i64 0, .int .i64 0]) ?_ 3 _ rfl; (with_reducible repeat (first | refine blk_drewN ?_ _ | refine blk_drew ?_ | refine blk_alloc ?_ _)); exact BK125.out⟩, ⟨by repeat (first | (with_reducible first | exact HB.out | apply below_alloc | apply pw_below_drewN | apply below_drew1 | refine below_set ?_ GE124.out | refine below_set ?_ GE125.out) | exact HB.out)⟩⟩
            · replace c18 := Bool.eq_false_iff.mpr c18
              subst c18
              have H1 : (bulkheadref02_Decode.j2 kj12 a0 (wrap64 (a0)) t130 (wrap64 (Int.tdiv (wrap64 (a0)) 67108864)) x126001_3 x126002_12 0 0) = some (r1, r2, r3, r4, r5, r6) := by rw [if_neg (show ¬ (false = true) by decide)] at H; exact H
              clear H
              have H := H1
              clear H1
              have H' := Aside0.mk H
              clear H
              go_wp2
              go_meet
              case rel => exact ⟨_, (0), H', ⟨by have := HJ3.out; have := HJ12.out; first | omega | exact Nat.le_refl _⟩, ⟨by (with_reducible repeat (first | refine blk_drewN ?_ _ | refine blk_drew ?_ | refine blk_alloc ?_ _)); exact BK124.out⟩, ⟨by (with_reducible repeat (first | refine blk_drewN ?_ _ | refine blk_drew ?_ | refine blk_alloc ?_ _)); exact BK125.out⟩, ⟨by repeat (first | (with_reducible first | exact HB.out | apply below_alloc | apply pw_below_drewN | apply below_drew1 | refine below_set ?_ GE124.out | refine below_set ?_ GE125.out) | exact HB.out)⟩⟩
          case rest =>
            clear HC17
            try clear c1
            try clear c2
            try clear p2
            try clear p6
            try clear c7
            try clear c10
            try clear c11
            try clear c14
            try clear c15
            try clear c18
            try clear c19
            try clear hcz12_0
            try clear hcz12_1
            try clear hcz12_2
            try clear hcz12_3
            try clear hcz12_4
            try clear hcz16_0
            try clear hcz16_1
            try clear hcz16_2
            try clear hcz16_3
            try clear hcz16_4
            try clear hcz20_0
            try clear hcz20_1
            try clear hcz20_2
            try clear hcz20_3
            try clear hcz20_4
            try clear hcz8_0
            try clear hcz8_1
            try clear hcz8_2
            try clear hcz8_3
            try clear hcz8_4
            try clear hfz12_0
            try clear hfz12_1
            try clear hfz12_2
            try clear hfz12_3
            try clear hfz12_4
            try clear hfz16_0
            try clear hfz16_1
            try clear hfz16_2
            try clear hfz16_3
            try clear hfz16_4
            try clear hfz20_0
            try clear hfz20_1
            try clear hfz20_2
            try clear hfz20_3
            try clear hfz20_4
            try clear hfz8_0
            try clear hfz8_1
            try clear hfz8_2
            try clear hfz8_3
            try clear hfz8_4
            try clear p2
            try clear p6
            obtain ⟨kq, x126003_16, HA, HJ16, BK124, BK125, HB⟩ := hcut
            cases kq with
            | zero => exact absurd HA.out (by simp [bulkheadref02_Decode.j2])
            | succ kj16 =>
              have H := HA.out
              clear HA
              simp only [bulkheadref02_Decode.j2] at H
              by_cases c21 : t130 = true
              · subst c21
                have H1 : (if (Int.tmod (wrap64 (a0)) 262144) > 131071 then ((bulkheadref02_Encode.f kj16 (wrap64 (Int.tdiv (wrap64 (a0)) 67108864)) x126001_3 x126002_12 x126003_16 (wrap64 ((Int.tmod (wrap64 (a0)) 262144) - 262144))).bind fun bt131 => (if bt131.2 = 0 then (if bt131.1 = a0 then (some ((wrap64 (Int.tdiv (wrap64 (a0)) 67108864)), x126001_3, x126002_12, x126003_16, wrap64 ((Int.tmod (wrap64 (a0)) 262144) - 262144), 0)) else (some (0, 0, 0, 0, 0, 20))) else (some (0, 0, 0, 0, 0, 20)))) else ((bulkheadref02_Encode.f kj16 (wrap64 (Int.tdiv (wrap64 (a0)) 67108864)) x126001_3 x126002_12 x126003_16 (Int.tmod (wrap64 (a0)) 262144)).bind fun bt133 => (if bt133.2 = 0 then (if bt133.1 = a0 then (some ((wrap64 (Int.tdiv (wrap64 (a0)) 67108864)), x126001_3, x126002_12, x126003_16, Int.tmod (wrap64 (a0)) 262144, 0)) else (some (0, 0, 0, 0, 0, 20))) else (some (0, 0, 0, 0, 0, 20))))) = some (r1, r2, r3, r4, r5, r6) := by rw [if_pos rfl] at H; exact H
                clear H
                have H := H1
                clear H1
                by_cases c22 : (Int.tmod (wrap64 (a0)) 262144) > 131071
                · rw [if_pos c22] at H
                  have c22b0 : decide (131071 < (Int.tmod (wrap64 (a0)) 262144)) = true := decide_eq_true c22
                  clear c22
                  replace H := Option.bind_eq_some_iff.mp H
                  obtain ⟨⟨t131, t132⟩, A230, H⟩ := H
                  replace H : (if t132 = 0 then (if t131 = a0 then (some ((wrap64 (Int.tdiv (wrap64 (a0)) 67108864)), x126001_3, x126002_12, x126003_16, wrap64 ((Int.tmod (wrap64 (a0)) 262144) - 262144), 0)) else (some (0, 0, 0, 0, 0, 20))) else (some (0, 0, 0, 0, 0, 20))) = some (r1, r2, r3, r4, r5, r6) := H
                  have A23 := Aside0.mk A230
                  clear A230
                  by_cases c24 : t132 = 0
                  · rw [if_pos c24] at H
                    have c24b0 : (t132 == 0) = true := beq_iff_eq.mpr c24
                    have c24b1 : (t132 != 0) = false := bne_eq_false_iff_eq.mpr c24
                    clear c24
                    by_cases c25 : t131 = a0
                    · rw [if_pos c25] at H
                      have c25b0 : (t131 == a0) = true := beq_iff_eq.mpr c25
                      have c25b1 : (t131 != a0) = false := bne_eq_false_iff_eq.mpr c25
                      clear c25
                      simp only [Option.some.injEq, Prod.mk.injEq] at H
                      obtain ⟨rfl, rfl, rfl, rfl, rfl, rfl⟩ := H
                      have hnb26 := NB125_124.out
                      have hnc26 := NB124_125.out
                      have hcz27_0 : wc.cell? ⟨gb125, 0, none⟩ = some (.int .i64 (wrap64 (Int.tdiv (wrap64 (a0)) 67108864))) := (blk_cell BK125.out 0).trans rfl
                      have hcz27_1 : wc.cell? ⟨gb125, 1, none⟩ = some (.int .i64 x126001_3) := (blk_cell BK125.out 1).trans rfl
                      have hcz27_2 : wc.cell? ⟨gb125, 2, none⟩ = some (.int .i64 x126002_12) := (blk_cell BK125.out 2).trans rfl
                      have hcz27_3 : wc.cell? ⟨gb125, 3, none⟩ = some (.int .i64 x126003_16) := (blk_cell BK125.out 3).trans rfl
                      have hcz27_4 : wc.cell? ⟨gb125, 4, none⟩ = some (.int .i64 0) := (blk_cell BK125.out 4).trans rfl
                      have hfz27_0 := blk_frozen BK125.out 0
                      have hfz27_1 := blk_frozen BK125.out 1
                      have hfz27_2 := blk_frozen BK125.out 2
                      have hfz27_3 := blk_frozen BK125.out 3
                      have hfz27_4 := blk_frozen BK125.out 4
                      go_wp2_with (first | ((with_reducible refine gate_callee (f := 11) rfl ?_); refine goesL_ (some 54) rfl rfl Tryd.func11 (by kernel_rfl) rfl #[.agg #[.int .i64 (wrap64 (Int.tdiv (wrap64 (a0)) 67108864)), .int .i64 x126001_3, .int .i64 x126002_12, .int .i64 x126003_16, .int .i64 (wrap64 ((Int.tmod (wrap64 (a0)) 262144) - 262144))]] rfl (by (try simp only [List.map_toArray, List.map_cons, List.map_nil]); first | done | rfl | (simp only [List.length_drop, List.length_take]; rfl)) ?_; (with_reducible refine (bulkheadref02_Encode.calls kj16 (wrap64 (Int.tdiv (wrap64 (a0)) 67108864)) x126001_3 x126002_12 x126003_16 (wrap64 ((Int.tmod (wrap64 (a0)) 262144) - 262144)) t131 t132 _ A23.out).mono ?_); rintro e w28 ⟨rfl, hb⟩; refine ⟨_, rfl, ?_⟩; have n0_ := Aside0.mk (blk_below (g := gb124) (o := .cells #[.int .i64 0, .int .i64 0, .int .i64 0, .int .i64 0, .int .i64 0] 23 (0, 0)) (by (with_reducible repeat (first | refine blk_drewN ?_ _ | refine blk_drew ?_ | refine blk_alloc ?_ _)); refine blk_far ?_ NB124_125.out _; (with_reducible repeat (first | refine blk_drewN ?_ _ | refine blk_drew ?_ | refine blk_alloc ?_ _)); refine blk_far ?_ NB124_125.out _; (with_reducible repeat (first | refine blk_drewN ?_ _ | refine blk_drew ?_ | refine blk_alloc ?_ _)); exact BK124.out) hb); have n1_ := Aside0.mk (blk_below (g := gb125) (o := .cells #[.int .i64 (wrap64 (Int.tdiv (wrap64 (a0)) 67108864)), .int .i64 x126001_3, .int .i64 x126002_12, .int .i64 x126003_16, .int .i64 (wrap64 ((Int.tmod (wrap64 (a0)) 262144) - 262144))] 23 (0, 0)) (by (with_reducible repeat (first | refine blk_drewN ?_ _ | refine blk_drew ?_ | refine blk_alloc ?_ _)); refine blk_put (cs := #[.int .i64 (wrap64 (Int.tdiv (wrap64 (a0)) 67108864)), .int .i64 x126001_3, .int .i64 x126002_12, .int .i64 x126003_16, .int .i64 (Int.tmod (wrap64 (a0)) 262144)]) ?_ 4 _ rfl; (with_reducible repeat (first | refine blk_drewN ?_ _ | refine blk_drew ?_ | refine blk_alloc ?_ _)); refine blk_put (cs := #[.int .i64 (wrap64 (Int.tdiv (wrap64 (a0)) 67108864)), .int .i64 x126001_3, .int .i64 x126002_12, .int .i64 x126003_16, .int .i64 0]) ?_ 4 _ rfl; (with_reducible repeat (first | refine blk_drewN ?_ _ | refine blk_drew ?_ | refine blk_alloc ?_ _)); exact BK125.out) hb); have n2_ := Aside0.mk (below_step (by repeat (first | (with_reducible first | exact HB.out | apply below_alloc | apply pw_below_drewN | apply below_drew1 | refine below_set ?_ GE124.out | refine below_set ?_ GE125.out) | exact HB.out)) hb); clear BK124; clear BK125; clear HB; have BK124 := n0_; have BK125 := n1_; have HB := n2_; clear n0_ n1_ n2_; (try clear hb); (try clear hb2); (try clear hk); (try clear hi); have hcz29_0 : w28.cell? ⟨gb125, 0, none⟩ = some (.int .i64 (wrap64 (Int.tdiv (wrap64 (a0)) 67108864))) := (blk_cell BK125.out 0).trans rfl; have hcz29_1 : w28.cell? ⟨gb125, 1, none⟩ = some (.int .i64 x126001_3) := (blk_cell BK125.out 1).trans rfl; have hcz29_2 : w28.cell? ⟨gb125, 2, none⟩ = some (.int .i64 x126002_12) := (blk_cell BK125.out 2).trans rfl; have hcz29_3 : w28.cell? ⟨gb125, 3, none⟩ = some (.int .i64 x126003_16) := (blk_cell BK125.out 3).trans rfl; have hcz29_4 : w28.cell? ⟨gb125, 4, none⟩ = some (.int .i64 (wrap64 ((Int.tmod (wrap64 (a0)) 262144) - 262144))) := (blk_cell BK125.out 4).trans rfl; have hfz29_0 := blk_frozen BK125.out 0; have hfz29_1 := blk_frozen BK125.out 1; have hfz29_2 := blk_frozen BK125.out 2; have hfz29_3 := blk_frozen BK125.out 3; have hfz29_4 := blk_frozen BK125.out 4; have hcz30_0 : w28.cell? ⟨gb124, 0, none⟩ = some (.int .i64 0) := (blk_cell BK124.out 0).trans rfl; have hcz30_1 : w28.cell? ⟨gb124, 1, none⟩ = some (.int .i64 0) := (blk_cell BK124.out 1).trans rfl; have hcz30_2 : w28.cell? ⟨gb124, 2, none⟩ = some (.int .i64 0) := (blk_cell BK124.out 2).trans rfl; have hcz30_3 : w28.cell? ⟨gb124, 3, none⟩ = some (.int .i64 0) := (blk_cell BK124.out 3).trans rfl; have hcz30_4 : w28.cell? ⟨gb124, 4, none⟩ = some (.int .i64 0) := (blk_cell BK124.out 4).trans rfl; have hfz30_0 := blk_frozen BK124.out 0; have hfz30_1 := blk_frozen BK124.out 1; have hfz30_2 := blk_frozen BK124.out 2; have hfz30_3 := blk_frozen BK124.out 3; have hfz30_4 := blk_frozen BK124.out 4))
                      refine bodyPost_ret (results_ct rfl _ _ gb124 23 #[.int .i64 (wrap64 (Int.tdiv (wrap64 (a0)) 67108864)), .int .i64 x126001_3, .int .i64 x126002_12, .int .i64 x126003_16, .int .i64 (wrap64 ((Int.tmod (wrap64 (a0)) 262144) - 262144))] (0, 0) _ rfl (by (with_reducible repeat (first | refine blk_drewN ?_ _ | refine blk_drew ?_ | refine blk_alloc ?_ _)); refine blk_put (cs := #[.int .i64 (wrap64 (Int.tdiv (wrap64 (a0)) 67108864)), .int .i64 x126001_3, .int .i64 x126002_12, .int .i64 x126003_16, .int .i64 0]) ?_ 4 _ rfl; (with_reducible repeat (first | refine blk_drewN ?_ _ | refine blk_drew ?_ | refine blk_alloc ?_ _)); refine blk_put (cs := #[.int .i64 (wrap64 (Int.tdiv (wrap64 (a0)) 67108864)), .int .i64 x126001_3, .int .i64 x126002_12, .int .i64 0, .int .i64 0]) ?_ 3 _ rfl; (with_reducible repeat (first | refine blk_drewN ?_ _ | refine blk_drew ?_ | refine blk_alloc ?_ _)); refine blk_put (cs := #[.int .i64 (wrap64 (Int.tdiv (wrap64 (a0)) 67108864)), .int .i64 x126001_3, .int .i64 0, .int .i64 0, .int .i64 0]) ?_ 2 _ rfl; (with_reducible repeat (first | refine blk_drewN ?_ _ | refine blk_drew ?_ | refine blk_alloc ?_ _)); refine blk_put (cs := #[.int .i64 (wrap64 (Int.tdiv (wrap64 (a0)) 67108864)), .int .i64 0, .int .i64 0, .int .i64 0, .int .i64 0]) ?_ 1 _ rfl; (with_reducible repeat (first | refine blk_drewN ?_ _ | refine blk_drew ?_ | refine blk_alloc ?_ _)); refine blk_put (cs := #[.int .i64 0, .int .i64 0, .int .i64 0, .int .i64 0, .int .i64 0]) ?_ 0 _ rfl; (with_reducible repeat (first | refine blk_drewN ?_ _ | refine blk_drew ?_ | refine blk_alloc ?_ _)); exact BK124.out) Tryd.underlying23 rfl (by kernel_rfl)) rfl ?_
                      exact ⟨by first | rfl | (simp [errW_none, errW_some] <;> rfl) | (simp [*, errW_none, errW_some] <;> rfl), by repeat (first | (with_reducible first | exact HB.out | apply below_alloc | apply pw_below_drewN | apply below_drew1 | refine below_set ?_ GE124.out | refine below_set ?_ GE125.out) | exact HB.out)⟩
                    · rw [if_neg c25] at H
                      have c25b0 : (t131 == a0) = false := beq_eq_false_iff_ne.mpr c25
                      have c25b1 : (t131 != a0) = true := bne_iff_ne.mpr c25
                      simp only [Option.some.injEq, Prod.mk.injEq] at H
                      obtain ⟨rfl, rfl, rfl, rfl, rfl, rfl⟩ := H
                      have hnb31 := NB125_124.out
                      have hnc31 := NB124_125.out
                      have hcz32_0 : wc.cell? ⟨gb125, 0, none⟩ = some (.int .i64 (wrap64 (Int.tdiv (wrap64 (a0)) 67108864))) := (blk_cell BK125.out 0).trans rfl
                      have hcz32_1 : wc.cell? ⟨gb125, 1, none⟩ = some (.int .i64 x126001_3) := (blk_cell BK125.out 1).trans rfl
                      have hcz32_2 : wc.cell? ⟨gb125, 2, none⟩ = some (.int .i64 x126002_12) := (blk_cell BK125.out 2).trans rfl
                      have hcz32_3 : wc.cell? ⟨gb125, 3, none⟩ = some (.int .i64 x126003_16) := (blk_cell BK125.out 3).trans rfl
                      have hcz32_4 : wc.cell? ⟨gb125, 4, none⟩ = some (.int .i64 0) := (blk_cell BK125.out 4).trans rfl
                      have hfz32_0 := blk_frozen BK125.out 0
                      have hfz32_1 := blk_frozen BK125.out 1
                      have hfz32_2 := blk_frozen BK125.out 2
                      have hfz32_3 := blk_frozen BK125.out 3
                      have hfz32_4 := blk_frozen BK125.out 4
                      go_wp2_with (first | ((with_reducible refine gate_callee (f := 11) rfl ?_); refine goesL_ (some 54) rfl rfl Tryd.func11 (by kernel_rfl) rfl #[.agg #[.int .i64 (wrap64 (Int.tdiv (wrap64 (a0)) 67108864)), .int .i64 x126001_3, .int .i64 x126002_12, .int .i64 x126003_16, .int .i64 (wrap64 ((Int.tmod (wrap64 (a0)) 262144) - 262144))]] rfl (by (try simp only [List.map_toArray, List.map_cons, List.map_nil]); first | done | rfl | (simp only [List.length_drop, List.length_take]; rfl)) ?_; (with_reducible refine (bulkheadref02_Encode.calls kj16 (wrap64 (Int.tdiv (wrap64 (a0)) 67108864)) x126001_3 x126002_12 x126003_16 (wrap64 ((Int.tmod (wrap64 (a0)) 262144) - 262144)) t131 t132 _ A23.out).mono ?_); rintro e w33 ⟨rfl, hb⟩; refine ⟨_, rfl, ?_⟩; have n0_ := Aside0.mk (blk_below (g := gb124) (o := .cells #[.int .i64 0, .int .i64 0, .int .i64 0, .int .i64 0, .int .i64 0] 23 (0, 0)) (by (with_reducible repeat (first | refine blk_drewN ?_ _ | refine blk_drew ?_ | refine blk_alloc ?_ _)); refine blk_far ?_ NB124_125.out _; (with_reducible repeat (first | refine blk_drewN ?_ _ | refine blk_drew ?_ | refine blk_alloc ?_ _)); refine blk_far ?_ NB124_125.out _; (with_reducible repeat (first | refine blk_drewN ?_ _ | refine blk_drew ?_ | refine blk_alloc ?_ _)); exact BK124.out) hb); have n1_ := Aside0.mk (blk_below (g := gb125) (o := .cells #[.int .i64 (wrap64 (Int.tdiv (wrap64 (a0)) 67108864)), .int .i64 x126001_3, .int .i64 x126002_12, .int .i64 x126003_16, .int .i64 (wrap64 ((Int.tmod (wrap64 (a0)) 262144) - 262144))] 23 (0, 0)) (by (with_reducible repeat (first | refine blk_drewN ?_ _ | refine blk_drew ?_ | refine blk_alloc ?_ _)); refine blk_put (cs := #[.int .i64 (wrap64 (Int.tdiv (wrap64 (a0)) 67108864)), .int .i64 x126001_3, .int .i64 x126002_12, .int .i64 x126003_16, .int .i64 (Int.tmod (wrap64 (a0)) 262144)]) ?_ 4 _ rfl; (with_reducible repeat (first | refine blk_drewN ?_ _ | refine blk_drew ?_ | refine blk_alloc ?_ _)); refine blk_put (cs := #[.int .i64 (wrap64 (Int.tdiv (wrap64 (a0)) 67108864)), .int .i64 x126001_3, .int .i64 x126002_12, .int .i64 x126003_16, .int .i64 0]) ?_ 4 _ rfl; (with_reducible repeat (first | refine blk_drewN ?_ _ | refine blk_drew ?_ | refine blk_alloc ?_ _)); exact BK125.out) hb); have n2_ := Aside0.mk (below_step (by repeat (first | (with_reducible first | exact HB.out | apply below_alloc | apply pw_below_drewN | apply below_drew1 | refine below_set ?_ GE124.out | refine below_set ?_ GE125.out) | exact HB.out)) hb); clear BK124; clear BK125; clear HB; have BK124 := n0_; have BK125 := n1_; have HB := n2_; clear n0_ n1_ n2_; (try clear hb); (try clear hb2); (try clear hk); (try clear hi); have hcz34_0 : w33.cell? ⟨gb124, 0, none⟩ = some (.int .i64 0) := (blk_cell BK124.out 0).trans rfl; have hcz34_1 : w33.cell? ⟨gb124, 1, none⟩ = some (.int .i64 0) := (blk_cell BK124.out 1).trans rfl; have hcz34_2 : w33.cell? ⟨gb124, 2, none⟩ = some (.int .i64 0) := (blk_cell BK124.out 2).trans rfl; have hcz34_3 : w33.cell? ⟨gb124, 3, none⟩ = some (.int .i64 0) := (blk_cell BK124.out 3).trans rfl; have hcz34_4 : w33.cell? ⟨gb124, 4, none⟩ = some (.int .i64 0) := (blk_cell BK124.out 4).trans rfl; have hfz34_0 := blk_frozen BK124.out 0; have hfz34_1 := blk_frozen BK124.out 1; have hfz34_2 := blk_frozen BK124.out 2; have hfz34_3 := blk_frozen BK124.out 3; have hfz34_4 := blk_frozen BK124.out 4))
                      refine bodyPost_ret (results_ct rfl _ _ gb124 23 #[.int .i64 0, .int .i64 0, .int .i64 0, .int .i64 0, .int .i64 0] (0, 0) _ rfl (by (with_reducible repeat (first | refine blk_drewN ?_ _ | refine blk_drew ?_ | refine blk_alloc ?_ _)); refine blk_put (cs := #[.int .i64 0, .int .i64 0, .int .i64 0, .int .i64 0, .int .i64 0]) ?_ 4 _ rfl; (with_reducible repeat (first | refine blk_drewN ?_ _ | refine blk_drew ?_ | refine blk_alloc ?_ _)); refine blk_put (cs := #[.int .i64 0, .int .i64 0, .int .i64 0, .int .i64 0, .int .i64 0]) ?_ 3 _ rfl; (with_reducible repeat (first | refine blk_drewN ?_ _ | refine blk_drew ?_ | refine blk_alloc ?_ _)); refine blk_put (cs := #[.int .i64 0, .int .i64 0, .int .i64 0, .int .i64 0, .int .i64 0]) ?_ 2 _ rfl; (with_reducible repeat (first | refine blk_drewN ?_ _ | refine blk_drew ?_ | refine blk_alloc ?_ _)); refine blk_put (cs := #[.int .i64 0, .int .i64 0, .int .i64 0, .int .i64 0, .int .i64 0]) ?_ 1 _ rfl; (with_reducible repeat (first | refine blk_drewN ?_ _ | refine blk_drew ?_ | refine blk_alloc ?_ _)); refine blk_put (cs := #[.int .i64 0, .int .i64 0, .int .i64 0, .int .i64 0, .int .i64 0]) ?_ 0 _ rfl; (with_reducible repeat (first | refine blk_drewN ?_ _ | refine blk_drew ?_ | refine blk_alloc ?_ _)); exact BK124.out) Tryd.underlying23 rfl (by kernel_rfl)) rfl ?_
                      exact ⟨by first | rfl | (simp [errW_none, errW_some] <;> rfl) | (simp [*, errW_none, errW_some] <;> rfl), by repeat (first | (with_reducible first | exact HB.out | apply below_alloc | apply pw_below_drewN | apply below_drew1 | refine below_set ?_ GE124.out | refine below_set ?_ GE125.out) | exact HB.out)⟩
                  · rw [if_neg c24] at H
                    have c24b0 : (t132 == 0) = false := beq_eq_false_iff_ne.mpr c24
                    have c24b1 : (t132 != 0) = true := bne_iff_ne.mpr c24
                    simp only [Option.some.injEq, Prod.mk.injEq] at H
                    obtain ⟨rfl, rfl, rfl, rfl, rfl, rfl⟩ := H
                    have hnb35 := NB125_124.out
                    have hnc35 := NB124_125.out
                    have hcz36_0 : wc.cell? ⟨gb125, 0, none⟩ = some (.int .i64 (wrap64 (Int.tdiv (wrap64 (a0)) 67108864))) := (blk_cell BK125.out 0).trans rfl
                    have hcz36_1 : wc.cell? ⟨gb125, 1, none⟩ = some (.int .i64 x126001_3) := (blk_cell BK125.out 1).trans rfl
                    have hcz36_2 : wc.cell? ⟨gb125, 2, none⟩ = some (.int .i64 x126002_12) := (blk_cell BK125.out 2).trans rfl
                    have hcz36_3 : wc.cell? ⟨gb125, 3, none⟩ = some (.int .i64 x126003_16) := (blk_cell BK125.out 3).trans rfl
                    have hcz36_4 : wc.cell? ⟨gb125, 4, none⟩ = some (.int .i64 0) := (blk_cell BK125.out 4).trans rfl
                    have hfz36_0 := blk_frozen BK125.out 0
                    have hfz36_1 := blk_frozen BK125.out 1
                    have hfz36_2 := blk_frozen BK125.out 2
                    have hfz36_3 := blk_frozen BK125.out 3
                    have hfz36_4 := blk_frozen BK125.out 4
                    go_wp2_with (first | ((with_reducible refine gate_callee (f := 11) rfl ?_); refine goesL_ (some 54) rfl rfl Tryd.func11 (by kernel_rfl) rfl #[.agg #[.int .i64 (wrap64 (Int.tdiv (wrap64 (a0)) 67108864)), .int .i64 x126001_3, .int .i64 x126002_12, .int .i64 x126003_16, .int .i64 (wrap64 ((Int.tmod (wrap64 (a0)) 262144) - 262144))]] rfl (by (try simp only [List.map_toArray, List.map_cons, List.map_nil]); first | done | rfl | (simp only [List.length_drop, List.length_take]; rfl)) ?_; (with_reducible refine (bulkheadref02_Encode.calls kj16 (wrap64 (Int.tdiv (wrap64 (a0)) 67108864)) x126001_3 x126002_12 x126003_16 (wrap64 ((Int.tmod (wrap64 (a0)) 262144) - 262144)) t131 t132 _ A23.out).mono ?_); rintro e w37 ⟨rfl, hb⟩; refine ⟨_, rfl, ?_⟩; have n0_ := Aside0.mk (blk_below (g := gb124) (o := .cells #[.int .i64 0, .int .i64 0, .int .i64 0, .int .i64 0, .int .i64 0] 23 (0, 0)) (by (with_reducible repeat (first | refine blk_drewN ?_ _ | refine blk_drew ?_ | refine blk_alloc ?_ _)); refine blk_far ?_ NB124_125.out _; (with_reducible repeat (first | refine blk_drewN ?_ _ | refine blk_drew ?_ | refine blk_alloc ?_ _)); refine blk_far ?_ NB124_125.out _; (with_reducible repeat (first | refine blk_drewN ?_ _ | refine blk_drew ?_ | refine blk_alloc ?_ _)); exact BK124.out) hb); have n1_ := Aside0.mk (blk_below (g := gb125) (o := .cells #[.int .i64 (wrap64 (Int.tdiv (wrap64 (a0)) 67108864)), .int .i64 x126001_3, .int .i64 x126002_12, .int .i64 x126003_16, .int .i64 (wrap64 ((Int.tmod (wrap64 (a0)) 262144) - 262144))] 23 (0, 0)) (by (with_reducible repeat (first | refine blk_drewN ?_ _ | refine blk_drew ?_ | refine blk_alloc ?_ _)); refine blk_put (cs := #[.int .i64 (wrap64 (Int.tdiv (wrap64 (a0)) 67108864)), .int .i64 x126001_3, .int .i64 x126002_12, .int .i64 x126003_16, .int .i64 (Int.tmod (wrap64 (a0)) 262144)]) ?_ 4 _ rfl; (with_reducible repeat (first | refine blk_drewN ?_ _ | refine blk_drew ?_ | refine blk_alloc ?_ _)); refine blk_put (cs := #[.int .i64 (wrap64 (Int.tdiv (wrap64 (a0)) 67108864)), .int .i64 x126001_3, .int .i64 x126002_12, .int .i64 x126003_16, .int .i64 0]) ?_ 4 _ rfl; (with_reducible repeat (first | refine blk_drewN ?_ _ | refine blk_drew ?_ | refine blk_alloc ?_ _)); exact BK125.out) hb); have n2_ := Aside0.mk (below_step (by repeat (first | (with_reducible first | exact HB.out | apply below_alloc | apply pw_below_drewN | apply below_drew1 | refine below_set ?_ GE124.out | refine below_set ?_ GE125.out) | exact HB.out)) hb); clear BK124; clear BK125; clear HB; have BK124 := n0_; have BK125 := n1_; have HB := n2_; clear n0_ n1_ n2_; (try clear hb); (try clear hb2); (try clear hk); (try clear hi); have hcz38_0 : w37.cell? ⟨gb124, 0, none⟩ = some (.int .i64 0) := (blk_cell BK124.out 0).trans rfl; have hcz38_1 : w37.cell? ⟨gb124, 1, none⟩ = some (.int .i64 0) := (blk_cell BK124.out 1).trans rfl; have hcz38_2 : w37.cell? ⟨gb124, 2, none⟩ = some (.int .i64 0) := (blk_cell BK124.out 2).trans rfl; have hcz38_3 : w37.cell? ⟨gb124, 3, none⟩ = some (.int .i64 0) := (blk_cell BK124.out 3).trans rfl; have hcz38_4 : w37.cell? ⟨gb124, 4, none⟩ = some (.int .i64 0) := (blk_cell BK124.out 4).trans rfl; have hfz38_0 := blk_frozen BK124.out 0; have hfz38_1 := blk_frozen BK124.out 1; have hfz38_2 := blk_frozen BK124.out 2; have hfz38_3 := blk_frozen BK124.out 3; have hfz38_4 := blk_frozen BK124.out 4))
                    refine bodyPost_ret (results_ct rfl _ _ gb124 23 #[.int .i64 0, .int .i64 0, .int .i64 0, .int .i64 0, .int .i64 0] (0, 0) _ rfl (by (with_reducible repeat (first | refine blk_drewN ?_ _ | refine blk_drew ?_ | refine blk_alloc ?_ _)); refine blk_put (cs := #[.int .i64 0, .int .i64 0, .int .i64 0, .int .i64 0, .int .i64 0]) ?_ 4 _ rfl; (with_reducible repeat (first | refine blk_drewN ?_ _ | refine blk_drew ?_ | refine blk_alloc ?_ _)); refine blk_put (cs := #[.int .i64 0, .int .i64 0, .int .i64 0, .int .i64 0, .int .i64 0]) ?_ 3 _ rfl; (with_reducible repeat (first | refine blk_drewN ?_ _ | refine blk_drew ?_ | refine blk_alloc ?_ _)); refine blk_put (cs := #[.int .i64 0, .int .i64 0, .int .i64 0, .int .i64 0, .int .i64 0]) ?_ 2 _ rfl; (with_reducible repeat (first | refine blk_drewN ?_ _ | refine blk_drew ?_ | refine blk_alloc ?_ _)); refine blk_put (cs := #[.int .i64 0, .int .i64 0, .int .i64 0, .int .i64 0, .int .i64 0]) ?_ 1 _ rfl; (with_reducible repeat (first | refine blk_drewN ?_ _ | refine blk_drew ?_ | refine blk_alloc ?_ _)); refine blk_put (cs := #[.int .i64 0, .int .i64 0, .int .i64 0, .int .i64 0, .int .i64 0]) ?_ 0 _ rfl; (with_reducible repeat (first | refine blk_drewN ?_ _ | refine blk_drew ?_ | refine blk_alloc ?_ _)); exact BK124.out) Tryd.underlying23 rfl (by kernel_rfl)) rfl ?_
                    exact ⟨by first | rfl | (simp [errW_none, errW_some] <;> rfl) | (simp [*, errW_none, errW_some] <;> rfl), by repeat (first | (with_reducible first | exact HB.out | apply below_alloc | apply pw_below_drewN | apply below_drew1 | refine below_set ?_ GE124.out | refine below_set ?_ GE125.out) | exact HB.out)⟩
                · rw [if_neg c22] at H
                  have c22b0 : decide (131071 < (Int.tmod (wrap64 (a0)) 262144)) = false := decide_eq_false c22
                  clear c22
                  replace H := Option.bind_eq_some_iff.mp H
                  obtain ⟨⟨t133, t134⟩, A390, H⟩ := H
                  replace H : (if t134 = 0 then (if t133 = a0 then (some ((wrap64 (Int.tdiv (wrap64 (a0)) 67108864)), x126001_3, x126002_12, x126003_16, Int.tmod (wrap64 (a0)) 262144, 0)) else (some (0, 0, 0, 0, 0, 20))) else (some (0, 0, 0, 0, 0, 20))) = some (r1, r2, r3, r4, r5, r6) := H
                  have A39 := Aside0.mk A390
                  clear A390
                  by_cases c40 : t134 = 0
                  · rw [if_pos c40] at H
                    have c40b0 : (t134 == 0) = true := beq_iff_eq.mpr c40
                    have c40b1 : (t134 != 0) = false := bne_eq_false_iff_eq.mpr c40
                    clear c40
                    by_cases c41 : t133 = a0
                    · rw [if_pos c41] at H
                      have c41b0 : (t133 == a0) = true := beq_iff_eq.mpr c41
                      have c41b1 : (t133 != a0) = false := bne_eq_false_iff_eq.mpr c41
                      clear c41
                      simp only [Option.some.injEq, Prod.mk.injEq] at H
                      obtain ⟨rfl, rfl, rfl, rfl, rfl, rfl⟩ := H
                      have hnb42 := NB125_124.out
                      have hnc42 := NB124_125.out
                      have hcz43_0 : wc.cell? ⟨gb125, 0, none⟩ = some (.int .i64 (wrap64 (Int.tdiv (wrap64 (a0)) 67108864))) := (blk_cell BK125.out 0).trans rfl
                      have hcz43_1 : wc.cell? ⟨gb125, 1, none⟩ = some (.int .i64 x126001_3) := (blk_cell BK125.out 1).trans rfl
                      have hcz43_2 : wc.cell? ⟨gb125, 2, none⟩ = some (.int .i64 x126002_12) := (blk_cell BK125.out 2).trans rfl
                      have hcz43_3 : wc.cell? ⟨gb125, 3, none⟩ = some (.int .i64 x126003_16) := (blk_cell BK125.out 3).trans rfl
                      have hcz43_4 : wc.cell? ⟨gb125, 4, none⟩ = some (.int .i64 0) := (blk_cell BK125.out 4).trans rfl
                      have hfz43_0 := blk_frozen BK125.out 0
                      have hfz43_1 := blk_frozen BK125.out 1
                      have hfz43_2 := blk_frozen BK125.out 2
                      have hfz43_3 := blk_frozen BK125.out 3
                      have hfz43_4 := blk_frozen BK125.out 4
                      go_wp2_with (first | ((with_reducible refine gate_callee (f := 11) rfl ?_); refine goesL_ (some 54) rfl rfl Tryd.func11 (by kernel_rfl) rfl #[.agg #[.int .i64 (wrap64 (Int.tdiv (wrap64 (a0)) 67108864)), .int .i64 x126001_3, .int .i64 x126002_12, .int .i64 x126003_16, .int .i64 (Int.tmod (wrap64 (a0)) 262144)]] rfl (by (try simp only [List.map_toArray, List.map_cons, List.map_nil]); first | done | rfl | (simp only [List.length_drop, List.length_take]; rfl)) ?_; (with_reducible refine (bulkheadref02_Encode.calls kj16 (wrap64 (Int.tdiv (wrap64 (a0)) 67108864)) x126001_3 x126002_12 x126003_16 (Int.tmod (wrap64 (a0)) 262144) t133 t134 _ A39.out).mono ?_); rintro e w44 ⟨rfl, hb⟩; refine ⟨_, rfl, ?_⟩; have n0_ := Aside0.mk (blk_below (g := gb124) (o := .cells #[.int .i64 0, .int .i64 0, .int .i64 0, .int .i64 0, .int .i64 0] 23 (0, 0)) (by (with_reducible repeat (first | refine blk_drewN ?_ _ | refine blk_drew ?_ | refine blk_alloc ?_ _)); refine blk_far ?_ NB124_125.out _; (with_reducible repeat (first | refine blk_drewN ?_ _ | refine blk_drew ?_ | refine blk_alloc ?_ _)); exact BK124.out) hb); have n1_ := Aside0.mk (blk_below (g := gb125) (o := .cells #[.int .i64 (wrap64 (Int.tdiv (wrap64 (a0)) 67108864)), .int .i64 x126001_3, .int .i64 x126002_12, .int .i64 x126003_16, .int .i64 (Int.tmod (wrap64 (a0)) 262144)] 23 (0, 0)) (by (with_reducible repeat (first | refine blk_drewN ?_ _ | refine blk_drew ?_ | refine blk_alloc ?_ _)); refine blk_put (cs := #[.int .i64 (wrap64 (Int.tdiv (wrap64 (a0)) 67108864)), .int .i64 x126001_3, .int .i64 x126002_12, .int .i64 x126003_16, .int .i64 0]) ?_ 4 _ rfl; (with_reducible repeat (first | refine blk_drewN ?_ _ | refine blk_drew ?_ | refine blk_alloc ?_ _)); exact BK125.out) hb); have n2_ := Aside0.mk (below_step (by repeat (first | (with_reducible first | exact HB.out | apply below_alloc | apply pw_below_drewN | apply below_drew1 | refine below_set ?_ GE124.out | refine below_set ?_ GE125.out) | exact HB.out)) hb); clear BK124; clear BK125; clear HB; have BK124 := n0_; have BK125 := n1_; have HB := n2_; clear n0_ n1_ n2_; (try clear hb); (try clear hb2); (try clear hk); (try clear hi); have hcz45_0 : w44.cell? ⟨gb125, 0, none⟩ = some (.int .i64 (wrap64 (Int.tdiv (wrap64 (a0)) 67108864))) := (blk_cell BK125.out 0).trans rfl; have hcz45_1 : w44.cell? ⟨gb125, 1, none⟩ = some (.int .i64 x126001_3) := (blk_cell BK125.out 1).trans rfl; have hcz45_2 : w44.cell? ⟨gb125, 2, none⟩ = some (.int .i64 x126002_12) := (blk_cell BK125.out 2).trans rfl; have hcz45_3 : w44.cell? ⟨gb125, 3, none⟩ = some (.int .i64 x126003_16) := (blk_cell BK125.out 3).trans rfl; have hcz45_4 : w44.cell? ⟨gb125, 4, none⟩ = some (.int .i64 (Int.tmod (wrap64 (a0)) 262144)) := (blk_cell BK125.out 4).trans rfl; have hfz45_0 := blk_frozen BK125.out 0; have hfz45_1 := blk_frozen BK125.out 1; have hfz45_2 := blk_frozen BK125.out 2; have hfz45_3 := blk_frozen BK125.out 3; have hfz45_4 := blk_frozen BK125.out 4; have hcz46_0 : w44.cell? ⟨gb124, 0, none⟩ = some (.int .i64 0) := (blk_cell BK124.out 0).trans rfl; have hcz46_1 : w44.cell? ⟨gb124, 1, none⟩ = some (.int .i64 0) := (blk_cell BK124.out 1).trans rfl; have hcz46_2 : w44.cell? ⟨gb124, 2, none⟩ = some (.int .i64 0) := (blk_cell BK124.out 2).trans rfl; have hcz46_3 : w44.cell? ⟨gb124, 3, none⟩ = some (.int .i64 0) := (blk_cell BK124.out 3).trans rfl; have hcz46_4 : w44.cell? ⟨gb124, 4, none⟩ = some (.int .i64 0) := (blk_cell BK124.out 4).trans rfl; have hfz46_0 := blk_frozen BK124.out 0; have hfz46_1 := blk_frozen BK124.out 1; have hfz46_2 := blk_frozen BK124.out 2; have hfz46_3 := blk_frozen BK124.out 3; have hfz46_4 := blk_frozen BK124.out 4))
                      refine bodyPost_ret (results_ct rfl _ _ gb124 23 #[.int .i64 (wrap64 (Int.tdiv (wrap64 (a0)) 67108864)), .int .i64 x126001_3, .int .i64 x126002_12, .int .i64 x126003_16, .int .i64 (Int.tmod (wrap64 (a0)) 262144)] (0, 0) _ rfl (by (with_reducible repeat (first | refine blk_drewN ?_ _ | refine blk_drew ?_ | refine blk_alloc ?_ _)); refine blk_put (cs := #[.int .i64 (wrap64 (Int.tdiv (wrap64 (a0)) 67108864)), .int .i64 x126001_3, .int .i64 x126002_12, .int .i64 x126003_16, .int .i64 0]) ?_ 4 _ rfl; (with_reducible repeat (first | refine blk_drewN ?_ _ | refine blk_drew ?_ | refine blk_alloc ?_ _)); refine blk_put (cs := #[.int .i64 (wrap64 (Int.tdiv (wrap64 (a0)) 67108864)), .int .i64 x126001_3, .int .i64 x126002_12, .int .i64 0, .int .i64 0]) ?_ 3 _ rfl; (with_reducible repeat (first | refine blk_drewN ?_ _ | refine blk_drew ?_ | refine blk_alloc ?_ _)); refine blk_put (cs := #[.int .i64 (wrap64 (Int.tdiv (wrap64 (a0)) 67108864)), .int .i64 x126001_3, .int .i64 0, .int .i64 0, .int .i64 0]) ?_ 2 _ rfl; (with_reducible repeat (first | refine blk_drewN ?_ _ | refine blk_drew ?_ | refine blk_alloc ?_ _)); refine blk_put (cs := #[.int .i64 (wrap64 (Int.tdiv (wrap64 (a0)) 67108864)), .int .i64 0, .int .i64 0, .int .i64 0, .int .i64 0]) ?_ 1 _ rfl; (with_reducible repeat (first | refine blk_drewN ?_ _ | refine blk_drew ?_ | refine blk_alloc ?_ _)); refine blk_put (cs := #[.int .i64 0, .int .i64 0, .int .i64 0, .int .i64 0, .int .i64 0]) ?_ 0 _ rfl; (with_reducible repeat (first | refine blk_drewN ?_ _ | refine blk_drew ?_ | refine blk_alloc ?_ _)); exact BK124.out) Tryd.underlying23 rfl (by kernel_rfl)) rfl ?_
                      exact ⟨by first | rfl | (simp [errW_none, errW_some] <;> rfl) | (simp [*, errW_none, errW_some] <;> rfl), by repeat (first | (with_reducible first | exact HB.out | apply below_alloc | apply pw_below_drewN | apply below_drew1 | refine below_set ?_ GE124.out | refine below_set ?_ GE125.out) | exact HB.out)⟩
                    · rw [if_neg c41] at H
                      have c41b0 : (t133 == a0) = false := beq_eq_false_iff_ne.mpr c41
                      have c41b1 : (t133 != a0) = true := bne_iff_ne.mpr c41
                      simp only [Option.some.injEq, Prod.mk.injEq] at H
                      obtain ⟨rfl, rfl, rfl, rfl, rfl, rfl⟩ := H
                      have hnb47 := NB125_124.out
                      have hnc47 := NB124_125.out
                      have hcz48_0 : wc.cell? ⟨gb125, 0, none⟩ = some (.int .i64 (wrap64 (Int.tdiv (wrap64 (a0)) 67108864))) := (blk_cell BK125.out 0).trans rfl
                      have hcz48_1 : wc.cell? ⟨gb125, 1, none⟩ = some (.int .i64 x126001_3) := (blk_cell BK125.out 1).trans rfl
                      have hcz48_2 : wc.cell? ⟨gb125, 2, none⟩ = some (.int .i64 x126002_12) := (blk_cell BK125.out 2).trans rfl
                      have hcz48_3 : wc.cell? ⟨gb125, 3, none⟩ = some (.int .i64 x126003_16) := (blk_cell BK125.out 3).trans rfl
                      have hcz48_4 : wc.cell? ⟨gb125, 4, none⟩ = some (.int .i64 0) := (blk_cell BK125.out 4).trans rfl
                      have hfz48_0 := blk_frozen BK125.out 0
                      have hfz48_1 := blk_frozen BK125.out 1
                      have hfz48_2 := blk_frozen BK125.out 2
                      have hfz48_3 := blk_frozen BK125.out 3
                      have hfz48_4 := blk_frozen BK125.out 4
                      go_wp2_with (first | ((with_reducible refine gate_callee (f := 11) rfl ?_); refine goesL_ (some 54) rfl rfl Tryd.func11 (by kernel_rfl) rfl #[.agg #[.int .i64 (wrap64 (Int.tdiv (wrap64 (a0)) 67108864)), .int .i64 x126001_3, .int .i64 x126002_12, .int .i64 x126003_16, .int .i64 (Int.tmod (wrap64 (a0)) 262144)]] rfl (by (try simp only [List.map_toArray, List.map_cons, List.map_nil]); first | done | rfl | (simp only [List.length_drop, List.length_take]; rfl)) ?_; (with_reducible refine (bulkheadref02_Encode.calls kj16 (wrap64 (Int.tdiv (wrap64 (a0)) 67108864)) x126001_3 x126002_12 x126003_16 (Int.tmod (wrap64 (a0)) 262144) t133 t134 _ A39.out).mono ?_); rintro e w49 ⟨rfl, hb⟩; refine ⟨_, rfl, ?_⟩; have n0_ := Aside0.mk (blk_below (g := gb124) (o := .cells #[.int .i64 0, .int .i64 0, .int .i64 0, .int .i64 0, .int .i64 0] 23 (0, 0)) (by (with_reducible repeat (first | refine blk_drewN ?_ _ | refine blk_drew ?_ | refine blk_alloc ?_ _)); refine blk_far ?_ NB124_125.out _; (with_reducible repeat (first | refine blk_drewN ?_ _ | refine blk_drew ?_ | refine blk_alloc ?_ _)); exact BK124.out) hb); have n1_ := Aside0.mk (blk_below (g := gb125) (o := .cells #[.int .i64 (wrap64 (Int.tdiv (wrap64 (a0)) 67108864)), .int .i64 x126001_3, .int .i64 x126002_12, .int .i64 x126003_16, .int .i64 (Int.tmod (wrap64 (a0)) 262144)] 23 (0, 0)) (by (with_reducible repeat (first | refine blk_drewN ?_ _ | refine blk_drew ?_ | refine blk_alloc ?_ _)); refine blk_put (cs := #[.int .i64 (wrap64 (Int.tdiv (wrap64 (a0)) 67108864)), .int .i64 x126001_3, .int .i64 x126002_12, .int .i64 x126003_16, .int .i64 0]) ?_ 4 _ rfl; (with_reducible repeat (first | refine blk_drewN ?_ _ | refine blk_drew ?_ | refine blk_alloc ?_ _)); exact BK125.out) hb); have n2_ := Aside0.mk (below_step (by repeat (first | (with_reducible first | exact HB.out | apply below_alloc | apply pw_below_drewN | apply below_drew1 | refine below_set ?_ GE124.out | refine below_set ?_ GE125.out) | exact HB.out)) hb); clear BK124; clear BK125; clear HB; have BK124 := n0_; have BK125 := n1_; have HB := n2_; clear n0_ n1_ n2_; (try clear hb); (try clear hb2); (try clear hk); (try clear hi); have hcz50_0 : w49.cell? ⟨gb124, 0, none⟩ = some (.int .i64 0) := (blk_cell BK124.out 0).trans rfl; have hcz50_1 : w49.cell? ⟨gb124, 1, none⟩ = some (.int .i64 0) := (blk_cell BK124.out 1).trans rfl; have hcz50_2 : w49.cell? ⟨gb124, 2, none⟩ = some (.int .i64 0) := (blk_cell BK124.out 2).trans rfl; have hcz50_3 : w49.cell? ⟨gb124, 3, none⟩ = some (.int .i64 0) := (blk_cell BK124.out 3).trans rfl; have hcz50_4 : w49.cell? ⟨gb124, 4, none⟩ = some (.int .i64 0) := (blk_cell BK124.out 4).trans rfl; have hfz50_0 := blk_frozen BK124.out 0; have hfz50_1 := blk_frozen BK124.out 1; have hfz50_2 := blk_frozen BK124.out 2; have hfz50_3 := blk_frozen BK124.out 3; have hfz50_4 := blk_frozen BK124.out 4))
                      refine bodyPost_ret (results_ct rfl _ _ gb124 23 #[.int .i64 0, .int .i64 0, .int .i64 0, .int .i64 0, .int .i64 0] (0, 0) _ rfl (by (with_reducible repeat (first | refine blk_drewN ?_ _ | refine blk_drew ?_ | refine blk_alloc ?_ _)); refine blk_put (cs := #[.int .i64 0, .int .i64 0, .int .i64 0, .int .i64 0, .int .i64 0]) ?_ 4 _ rfl; (with_reducible repeat (first | refine blk_drewN ?_ _ | refine blk_drew ?_ | refine blk_alloc ?_ _)); refine blk_put (cs := #[.int .i64 0, .int .i64 0, .int .i64 0, .int .i64 0, .int .i64 0]) ?_ 3 _ rfl; (with_reducible repeat (first | refine blk_drewN ?_ _ | refine blk_drew ?_ | refine blk_alloc ?_ _)); refine blk_put (cs := #[.int .i64 0, .int .i64 0, .int .i64 0, .int .i64 0, .int .i64 0]) ?_ 2 _ rfl; (with_reducible repeat (first | refine blk_drewN ?_ _ | refine blk_drew ?_ | refine blk_alloc ?_ _)); refine blk_put (cs := #[.int .i64 0, .int .i64 0, .int .i64 0, .int .i64 0, .int .i64 0]) ?_ 1 _ rfl; (with_reducible repeat (first | refine blk_drewN ?_ _ | refine blk_drew ?_ | refine blk_alloc ?_ _)); refine blk_put (cs := #[.int .i64 0, .int .i64 0, .int .i64 0, .int .i64 0, .int .i64 0]) ?_ 0 _ rfl; (with_reducible repeat (first | refine blk_drewN ?_ _ | refine blk_drew ?_ | refine blk_alloc ?_ _)); exact BK124.out) Tryd.underlying23 rfl (by kernel_rfl)) rfl ?_
                      exact ⟨by first | rfl | (simp [errW_none, errW_some] <;> rfl) | (simp [*, errW_none, errW_some] <;> rfl), by repeat (first | (with_reducible first | exact HB.out | apply below_alloc | apply pw_below_drewN | apply below_drew1 | refine below_set ?_ GE124.out | refine below_set ?_ GE125.out) | exact HB.out)⟩
                  · rw [if_neg c40] at H
                    have c40b0 : (t134 == 0) = false := beq_eq_false_iff_ne.mpr c40
                    have c40b1 : (t134 != 0) = true := bne_iff_ne.mpr c40
                    simp only [Option.some.injEq, Prod.mk.injEq] at H
                    obtain ⟨rfl, rfl, rfl, rfl, rfl, rfl⟩ := H
                    have hnb51 := NB125_124.out
                    have hnc51 := NB124_125.out
                    have hcz52_0 : wc.cell? ⟨gb125, 0, none⟩ = some (.int .i64 (wrap64 (Int.tdiv (wrap64 (a0)) 67108864))) := (blk_cell BK125.out 0).trans rfl
                    have hcz52_1 : wc.cell? ⟨gb125, 1, none⟩ = some (.int .i64 x126001_3) := (blk_cell BK125.out 1).trans rfl
                    have hcz52_2 : wc.cell? ⟨gb125, 2, none⟩ = some (.int .i64 x126002_12) := (blk_cell BK125.out 2).trans rfl
                    have hcz52_3 : wc.cell? ⟨gb125, 3, none⟩ = some (.int .i64 x126003_16) := (blk_cell BK125.out 3).trans rfl
                    have hcz52_4 : wc.cell? ⟨gb125, 4, none⟩ = some (.int .i64 0) := (blk_cell BK125.out 4).trans rfl
                    have hfz52_0 := blk_frozen BK125.out 0
                    have hfz52_1 := blk_frozen BK125.out 1
                    have hfz52_2 := blk_frozen BK125.out 2
                    have hfz52_3 := blk_frozen BK125.out 3
                    have hfz52_4 := blk_frozen BK125.out 4
                    go_wp2_with (first | ((with_reducible refine gate_callee (f := 11) rfl ?_); refine goesL_ (some 54) rfl rfl Tryd.func11 (by kernel_rfl) rfl #[.agg #[.int .i64 (wrap64 (Int.tdiv (wrap64 (a0)) 67108864)), .int .i64 x126001_3, .int .i64 x126002_12, .int .i64 x126003_16, .int .i64 (Int.tmod (wrap64 (a0)) 262144)]] rfl (by (try simp only [List.map_toArray, List.map_cons, List.map_nil]); first | done | rfl | (simp only [List.length_drop, List.length_take]; rfl)) ?_; (with_reducible refine (bulkheadref02_Encode.calls kj16 (wrap64 (Int.tdiv (wrap64 (a0)) 67108864)) x126001_3 x126002_12 x126003_16 (Int.tmod (wrap64 (a0)) 262144) t133 t134 _ A39.out).mono ?_); rintro e w53 ⟨rfl, hb⟩; refine ⟨_, rfl, ?_⟩; have n0_ := Aside0.mk (blk_below (g := gb124) (o := .cells #[.int .i64 0, .int .i64 0, .int .i64 0, .int .i64 0, .int .i64 0] 23 (0, 0)) (by (with_reducible repeat (first | refine blk_drewN ?_ _ | refine blk_drew ?_ | refine blk_alloc ?_ _)); refine blk_far ?_ NB124_125.out _; (with_reducible repeat (first | refine blk_drewN ?_ _ | refine blk_drew ?_ | refine blk_alloc ?_ _)); exact BK124.out) hb); have n1_ := Aside0.mk (blk_below (g := gb125) (o := .cells #[.int .i64 (wrap64 (Int.tdiv (wrap64 (a0)) 67108864)), .int .i64 x126001_3, .int .i64 x126002_12, .int .i64 x126003_16, .int .i64 (Int.tmod (wrap64 (a0)) 262144)] 23 (0, 0)) (by (with_reducible repeat (first | refine blk_drewN ?_ _ | refine blk_drew ?_ | refine blk_alloc ?_ _)); refine blk_put (cs := #[.int .i64 (wrap64 (Int.tdiv (wrap64 (a0)) 67108864)), .int .i64 x126001_3, .int .i64 x126002_12, .int .i64 x126003_16, .int .i64 0]) ?_ 4 _ rfl; (with_reducible repeat (first | refine blk_drewN ?_ _ | refine blk_drew ?_ | refine blk_alloc ?_ _)); exact BK125.out) hb); have n2_ := Aside0.mk (below_step (by repeat (first | (with_reducible first | exact HB.out | apply below_alloc | apply pw_below_drewN | apply below_drew1 | refine below_set ?_ GE124.out | refine below_set ?_ GE125.out) | exact HB.out)) hb); clear BK124; clear BK125; clear HB; have BK124 := n0_; have BK125 := n1_; have HB := n2_; clear n0_ n1_ n2_; (try clear hb); (try clear hb2); (try clear hk); (try clear hi); have hcz54_0 : w53.cell? ⟨gb124, 0, none⟩ = some (.int .i64 0) := (blk_cell BK124.out 0).trans rfl; have hcz54_1 : w53.cell? ⟨gb124, 1, none⟩ = some (.int .i64 0) := (blk_cell BK124.out 1).trans rfl; have hcz54_2 : w53.cell? ⟨gb124, 2, none⟩ = some (.int .i64 0) := (blk_cell BK124.out 2).trans rfl; have hcz54_3 : w53.cell? ⟨gb124, 3, none⟩ = some (.int .i64 0) := (blk_cell BK124.out 3).trans rfl; have hcz54_4 : w53.cell? ⟨gb124, 4, none⟩ = some (.int .i64 0) := (blk_cell BK124.out 4).trans rfl; have hfz54_0 := blk_frozen BK124.out 0; have hfz54_1 := blk_frozen BK124.out 1; have hfz54_2 := blk_frozen BK124.out 2; have hfz54_3 := blk_frozen BK124.out 3; have hfz54_4 := blk_frozen BK124.out 4))
                    refine bodyPost_ret (results_ct rfl _ _ gb124 23 #[.int .i64 0, .int .i64 0, .int .i64 0, .int .i64 0, .int .i64 0] (0, 0) _ rfl (by (with_reducible repeat (first | refine blk_drewN ?_ _ | refine blk_drew ?_ | refine blk_alloc ?_ _)); refine blk_put (cs := #[.int .i64 0, .int .i64 0, .int .i64 0, .int .i64 0, .int .i64 0]) ?_ 4 _ rfl; (with_reducible repeat (first | refine blk_drewN ?_ _ | refine blk_drew ?_ | refine blk_alloc ?_ _)); refine blk_put (cs := #[.int .i64 0, .int .i64 0, .int .i64 0, .int .i64 0, .int .i64 0]) ?_ 3 _ rfl; (with_reducible repeat (first | refine blk_drewN ?_ _ | refine blk_drew ?_ | refine blk_alloc ?_ _)); refine blk_put (cs := #[.int .i64 0, .int .i64 0, .int .i64 0, .int .i64 0, .int .i64 0]) ?_ 2 _ rfl; (with_reducible repeat (first | refine blk_drewN ?_ _ | refine blk_drew ?_ | refine blk_alloc ?_ _)); refine blk_put (cs := #[.int .i64 0, .int .i64 0, .int .i64 0, .int .i64 0, .int .i64 0]) ?_ 1 _ rfl; (with_reducible repeat (first | refine blk_drewN ?_ _ | refine blk_drew ?_ | refine blk_alloc ?_ _)); refine blk_put (cs := #[.int .i64 0, .int .i64 0, .int .i64 0, .int .i64 0, .int .i64 0]) ?_ 0 _ rfl; (with_reducible repeat (first | refine blk_drewN ?_ _ | refine blk_drew ?_ | refine blk_alloc ?_ _)); exact BK124.out) Tryd.underlying23 rfl (by kernel_rfl)) rfl ?_
                    exact ⟨by first | rfl | (simp [errW_none, errW_some] <;> rfl) | (simp [*, errW_none, errW_some] <;> rfl), by repeat (first | (with_reducible first | exact HB.out | apply below_alloc | apply pw_below_drewN | apply below_drew1 | refine below_set ?_ GE124.out | refine below_set ?_ GE125.out) | exact HB.out)⟩
              · replace c21 := Bool.eq_false_iff.mpr c21
                subst c21
                have H1 : ((bulkheadref02_Encode.f kj16 (wrap64 (Int.tdiv (wrap64 (a0)) 67108864)) x126001_3 x126002_12 x126003_16 0).bind fun bt135 => (if bt135.2 = 0 then (if bt135.1 = a0 then (some ((wrap64 (Int.tdiv (wrap64 (a0)) 67108864)), x126001_3, x126002_12, x126003_16, 0, 0)) else (some (0, 0, 0, 0, 0, 20))) else (some (0, 0, 0, 0, 0, 20)))) = some (r1, r2, r3, r4, r5, r6) := by rw [if_neg (show ¬ (false = true) by decide)] at H; exact H
                clear H
                have H := H1
                clear H1
                replace H := Option.bind_eq_some_iff.mp H
                obtain ⟨⟨t135, t136⟩, A550, H⟩ := H
                replace H : (if t136 = 0 then (if t135 = a0 then (some ((wrap64 (Int.tdiv (wrap64 (a0)) 67108864)), x126001_3, x126002_12, x126003_16, 0, 0)) else (some (0, 0, 0, 0, 0, 20))) else (some (0, 0, 0, 0, 0, 20))) = some (r1, r2, r3, r4, r5, r6) := H
                have A55 := Aside0.mk A550
                clear A550
                by_cases c56 : t136 = 0
                · rw [if_pos c56] at H
                  have c56b0 : (t136 == 0) = true := beq_iff_eq.mpr c56
                  have c56b1 : (t136 != 0) = false := bne_eq_false_iff_eq.mpr c56
                  clear c56
                  by_cases c57 : t135 = a0
                  · rw [if_pos c57] at H
                    have c57b0 : (t135 == a0) = true := beq_iff_eq.mpr c57
                    have c57b1 : (t135 != a0) = false := bne_eq_false_iff_eq.mpr c57
                    clear c57
                    simp only [Option.some.injEq, Prod.mk.injEq] at H
                    obtain ⟨rfl, rfl, rfl, rfl, rfl, rfl⟩ := H
                    have hnb58 := NB125_124.out
                    have hnc58 := NB124_125.out
                    have hcz59_0 : wc.cell? ⟨gb125, 0, none⟩ = some (.int .i64 (wrap64 (Int.tdiv (wrap64 (a0)) 67108864))) := (blk_cell BK125.out 0).trans rfl
                    have hcz59_1 : wc.cell? ⟨gb125, 1, none⟩ = some (.int .i64 x126001_3) := (blk_cell BK125.out 1).trans rfl
                    have hcz59_2 : wc.cell? ⟨gb125, 2, none⟩ = some (.int .i64 x126002_12) := (blk_cell BK125.out 2).trans rfl
                    have hcz59_3 : wc.cell? ⟨gb125, 3, none⟩ = some (.int .i64 x126003_16) := (blk_cell BK125.out 3).trans rfl
                    have hcz59_4 : wc.cell? ⟨gb125, 4, none⟩ = some (.int .i64 0) := (blk_cell BK125.out 4).trans rfl
                    have hfz59_0 := blk_frozen BK125.out 0
                    have hfz59_1 := blk_frozen BK125.out 1
                    have hfz59_2 := blk_frozen BK125.out 2
                    have hfz59_3 := blk_frozen BK125.out 3
                    have hfz59_4 := blk_frozen BK125.out 4
                    go_wp2_with (first | ((with_reducible refine gate_callee (f := 11) rfl ?_); refine goesL_ (some 54) rfl rfl Tryd.func11 (by kernel_rfl) rfl #[.agg #[.int .i64 (wrap64 (Int.tdiv (wrap64 (a0)) 67108864)), .int .i64 x126001_3, .int .i64 x126002_12, .int .i64 x126003_16, .int .i64 0]] rfl (by (try simp only [List.map_toArray, List.map_cons, List.map_nil]); first | done | rfl | (simp only [List.length_drop, List.length_take]; rfl)) ?_; (with_reducible refine (bulkheadref02_Encode.calls kj16 (wrap64 (Int.tdiv (wrap64 (a0)) 67108864)) x126001_3 x126002_12 x126003_16 0 t135 t136 _ A55.out).mono ?_); rintro e w60 ⟨rfl, hb⟩; refine ⟨_, rfl, ?_⟩; have n0_ := Aside0.mk (blk_below (g := gb124) (o := .cells #[.int .i64 0, .int .i64 0, .int .i64 0, .int .i64 0, .int .i64 0] 23 (0, 0)) (by (with_reducible repeat (first | refine blk_drewN ?_ _ | refine blk_drew ?_ | refine blk_alloc ?_ _)); exact BK124.out) hb); have n1_ := Aside0.mk (blk_below (g := gb125) (o := .cells #[.int .i64 (wrap64 (Int.tdiv (wrap64 (a0)) 67108864)), .int .i64 x126001_3, .int .i64 x126002_12, .int .i64 x126003_16, .int .i64 0] 23 (0, 0)) (by (with_reducible repeat (first | refine blk_drewN ?_ _ | refine blk_drew ?_ | refine blk_alloc ?_ _)); exact BK125.out) hb); have n2_ := Aside0.mk (below_step (by repeat (first | (with_reducible first | exact HB.out | apply below_alloc | apply pw_below_drewN | apply below_drew1 | refine below_set ?_ GE124.out | refine below_set ?_ GE125.out) | exact HB.out)) hb); clear BK124; clear BK125; clear HB; have BK124 := n0_; have BK125 := n1_; have HB := n2_; clear n0_ n1_ n2_; (try clear hb); (try clear hb2); (try clear hk); (try clear hi); have hcz61_0 : w60.cell? ⟨gb125, 0, none⟩ = some (.int .i64 (wrap64 (Int.tdiv (wrap64 (a0)) 67108864))) := (blk_cell BK125.out 0).trans rfl; have hcz61_1 : w60.cell? ⟨gb125, 1, none⟩ = some (.int .i64 x126001_3) := (blk_cell BK125.out 1).trans rfl; have hcz61_2 : w60.cell? ⟨gb125, 2, none⟩ = some (.int .i64 x126002_12) := (blk_cell BK125.out 2).trans rfl; have hcz61_3 : w60.cell? ⟨gb125, 3, none⟩ = some (.int .i64 x126003_16) := (blk_cell BK125.out 3).trans rfl; have hcz61_4 : w60.cell? ⟨gb125, 4, none⟩ = some (.int .i64 0) := (blk_cell BK125.out 4).trans rfl; have hfz61_0 := blk_frozen BK125.out 0; have hfz61_1 := blk_frozen BK125.out 1; have hfz61_2 := blk_frozen BK125.out 2; have hfz61_3 := blk_frozen BK125.out 3; have hfz61_4 := blk_frozen BK125.out 4; have hcz62_0 : w60.cell? ⟨gb124, 0, none⟩ = some (.int .i64 0) := (blk_cell BK124.out 0).trans rfl; have hcz62_1 : w60.cell? ⟨gb124, 1, none⟩ = some (.int .i64 0) := (blk_cell BK124.out 1).trans rfl; have hcz62_2 : w60.cell? ⟨gb124, 2, none⟩ = some (.int .i64 0) := (blk_cell BK124.out 2).trans rfl; have hcz62_3 : w60.cell? ⟨gb124, 3, none⟩ = some (.int .i64 0) := (blk_cell BK124.out 3).trans rfl; have hcz62_4 : w60.cell? ⟨gb124, 4, none⟩ = some (.int .i64 0) := (blk_cell BK124.out 4).trans rfl; have hfz62_0 := blk_frozen BK124.out 0; have hfz62_1 := blk_frozen BK124.out 1; have hfz62_2 := blk_frozen BK124.out 2; have hfz62_3 := blk_frozen BK124.out 3; have hfz62_4 := blk_frozen BK124.out 4))
                    refine bodyPost_ret (results_ct rfl _ _ gb124 23 #[.int .i64 (wrap64 (Int.tdiv (wrap64 (a0)) 67108864)), .int .i64 x126001_3, .int .i64 x126002_12, .int .i64 x126003_16, .int .i64 0] (0, 0) _ rfl (by (with_reducible repeat (first | refine blk_drewN ?_ _ | refine blk_drew ?_ | refine blk_alloc ?_ _)); refine blk_put (cs := #[.int .i64 (wrap64 (Int.tdiv (wrap64 (a0)) 67108864)), .int .i64 x126001_3, .int .i64 x126002_12, .int .i64 x126003_16, .int .i64 0]) ?_ 4 _ rfl; (with_reducible repeat (first | refine blk_drewN ?_ _ | refine blk_drew ?_ | refine blk_alloc ?_ _)); refine blk_put (cs := #[.int .i64 (wrap64 (Int.tdiv (wrap64 (a0)) 67108864)), .int .i64 x126001_3, .int .i64 x126002_12, .int .i64 0, .int .i64 0]) ?_ 3 _ rfl; (with_reducible repeat (first | refine blk_drewN ?_ _ | refine blk_drew ?_ | refine blk_alloc ?_ _)); refine blk_put (cs := #[.int .i64 (wrap64 (Int.tdiv (wrap64 (a0)) 67108864)), .int .i64 x126001_3, .int .i64 0, .int .i64 0, .int .i64 0]) ?_ 2 _ rfl; (with_reducible repeat (first | refine blk_drewN ?_ _ | refine blk_drew ?_ | refine blk_alloc ?_ _)); refine blk_put (cs := #[.int .i64 (wrap64 (Int.tdiv (wrap64 (a0)) 67108864)), .int .i64 0, .int .i64 0, .int .i64 0, .int .i64 0]) ?_ 1 _ rfl; (with_reducible repeat (first | refine blk_drewN ?_ _ | refine blk_drew ?_ | refine blk_alloc ?_ _)); refine blk_put (cs := #[.int .i64 0, .int .i64 0, .int .i64 0, .int .i64 0, .int .i64 0]) ?_ 0 _ rfl; (with_reducible repeat (first | refine blk_drewN ?_ _ | refine blk_drew ?_ | refine blk_alloc ?_ _)); exact BK124.out) Tryd.underlying23 rfl (by kernel_rfl)) rfl ?_
                    exact ⟨by first | rfl | (simp [errW_none, errW_some] <;> rfl) | (simp [*, errW_none, errW_some] <;> rfl), by repeat (first | (with_reducible first | exact HB.out | apply below_alloc | apply pw_below_drewN | apply below_drew1 | refine below_set ?_ GE124.out | refine below_set ?_ GE125.out) | exact HB.out)⟩
                  · rw [if_neg c57] at H
                    have c57b0 : (t135 == a0) = false := beq_eq_false_iff_ne.mpr c57
                    have c57b1 : (t135 != a0) = true := bne_iff_ne.mpr c57
                    simp only [Option.some.injEq, Prod.mk.injEq] at H
                    obtain ⟨rfl, rfl, rfl, rfl, rfl, rfl⟩ := H
                    have hnb63 := NB125_124.out
                    have hnc63 := NB124_125.out
                    have hcz64_0 : wc.cell? ⟨gb125, 0, none⟩ = some (.int .i64 (wrap64 (Int.tdiv (wrap64 (a0)) 67108864))) := (blk_cell BK125.out 0).trans rfl
                    have hcz64_1 : wc.cell? ⟨gb125, 1, none⟩ = some (.int .i64 x126001_3) := (blk_cell BK125.out 1).trans rfl
                    have hcz64_2 : wc.cell? ⟨gb125, 2, none⟩ = some (.int .i64 x126002_12) := (blk_cell BK125.out 2).trans rfl
                    have hcz64_3 : wc.cell? ⟨gb125, 3, none⟩ = some (.int .i64 x126003_16) := (blk_cell BK125.out 3).trans rfl
                    have hcz64_4 : wc.cell? ⟨gb125, 4, none⟩ = some (.int .i64 0) := (blk_cell BK125.out 4).trans rfl
                    have hfz64_0 := blk_frozen BK125.out 0
                    have hfz64_1 := blk_frozen BK125.out 1
                    have hfz64_2 := blk_frozen BK125.out 2
                    have hfz64_3 := blk_frozen BK125.out 3
                    have hfz64_4 := blk_frozen BK125.out 4
                    go_wp2_with (first | ((with_reducible refine gate_callee (f := 11) rfl ?_); refine goesL_ (some 54) rfl rfl Tryd.func11 (by kernel_rfl) rfl #[.agg #[.int .i64 (wrap64 (Int.tdiv (wrap64 (a0)) 67108864)), .int .i64 x126001_3, .int .i64 x126002_12, .int .i64 x126003_16, .int .i64 0]] rfl (by (try simp only [List.map_toArray, List.map_cons, List.map_nil]); first | done | rfl | (simp only [List.length_drop, List.length_take]; rfl)) ?_; (with_reducible refine (bulkheadref02_Encode.calls kj16 (wrap64 (Int.tdiv (wrap64 (a0)) 67108864)) x126001_3 x126002_12 x126003_16 0 t135 t136 _ A55.out).mono ?_); rintro e w65 ⟨rfl, hb⟩; refine ⟨_, rfl, ?_⟩; have n0_ := Aside0.mk (blk_below (g := gb124) (o := .cells #[.int .i64 0, .int .i64 0, .int .i64 0, .int .i64 0, .int .i64 0] 23 (0, 0)) (by (with_reducible repeat (first | refine blk_drewN ?_ _ | refine blk_drew ?_ | refine blk_alloc ?_ _)); exact BK124.out) hb); have n1_ := Aside0.mk (blk_below (g := gb125) (o := .cells #[.int .i64 (wrap64 (Int.tdiv (wrap64 (a0)) 67108864)), .int .i64 x126001_3, .int .i64 x126002_12, .int .i64 x126003_16, .int .i64 0] 23 (0, 0)) (by (with_reducible repeat (first | refine blk_drewN ?_ _ | refine blk_drew ?_ | refine blk_alloc ?_ _)); exact BK125.out) hb); have n2_ := Aside0.mk (below_step (by repeat (first | (with_reducible first | exact HB.out | apply below_alloc | apply pw_below_drewN | apply below_drew1 | refine below_set ?_ GE124.out | refine below_set ?_ GE125.out) | exact HB.out)) hb); clear BK124; clear BK125; clear HB; have BK124 := n0_; have BK125 := n1_; have HB := n2_; clear n0_ n1_ n2_; (try clear hb); (try clear hb2); (try clear hk); (try clear hi); have hcz66_0 : w65.cell? ⟨gb124, 0, none⟩ = some (.int .i64 0) := (blk_cell BK124.out 0).trans rfl; have hcz66_1 : w65.cell? ⟨gb124, 1, none⟩ = some (.int .i64 0) := (blk_cell BK124.out 1).trans rfl; have hcz66_2 : w65.cell? ⟨gb124, 2, none⟩ = some (.int .i64 0) := (blk_cell BK124.out 2).trans rfl; have hcz66_3 : w65.cell? ⟨gb124, 3, none⟩ = some (.int .i64 0) := (blk_cell BK124.out 3).trans rfl; have hcz66_4 : w65.cell? ⟨gb124, 4, none⟩ = some (.int .i64 0) := (blk_cell BK124.out 4).trans rfl; have hfz66_0 := blk_frozen BK124.out 0; have hfz66_1 := blk_frozen BK124.out 1; have hfz66_2 := blk_frozen BK124.out 2; have hfz66_3 := blk_frozen BK124.out 3; have hfz66_4 := blk_frozen BK124.out 4))
                    refine bodyPost_ret (results_ct rfl _ _ gb124 23 #[.int .i64 0, .int .i64 0, .int .i64 0, .int .i64 0, .int .i64 0] (0, 0) _ rfl (by (with_reducible repeat (first | refine blk_drewN ?_ _ | refine blk_drew ?_ | refine blk_alloc ?_ _)); refine blk_put (cs := #[.int .i64 0, .int .i64 0, .int .i64 0, .int .i64 0, .int .i64 0]) ?_ 4 _ rfl; (with_reducible repeat (first | refine blk_drewN ?_ _ | refine blk_drew ?_ | refine blk_alloc ?_ _)); refine blk_put (cs := #[.int .i64 0, .int .i64 0, .int .i64 0, .int .i64 0, .int .i64 0]) ?_ 3 _ rfl; (with_reducible repeat (first | refine blk_drewN ?_ _ | refine blk_drew ?_ | refine blk_alloc ?_ _)); refine blk_put (cs := #[.int .i64 0, .int .i64 0, .int .i64 0, .int .i64 0, .int .i64 0]) ?_ 2 _ rfl; (with_reducible repeat (first | refine blk_drewN ?_ _ | refine blk_drew ?_ | refine blk_alloc ?_ _)); refine blk_put (cs := #[.int .i64 0, .int .i64 0, .int .i64 0, .int .i64 0, .int .i64 0]) ?_ 1 _ rfl; (with_reducible repeat (first | refine blk_drewN ?_ _ | refine blk_drew ?_ | refine blk_alloc ?_ _)); refine blk_put (cs := #[.int .i64 0, .int .i64 0, .int .i64 0, .int .i64 0, .int .i64 0]) ?_ 0 _ rfl; (with_reducible repeat (first | refine blk_drewN ?_ _ | refine blk_drew ?_ | refine blk_alloc ?_ _)); exact BK124.out) Tryd.underlying23 rfl (by kernel_rfl)) rfl ?_
                    exact ⟨by first | rfl | (simp [errW_none, errW_some] <;> rfl) | (simp [*, errW_none, errW_some] <;> rfl), by repeat (first | (with_reducible first | exact HB.out | apply below_alloc | apply pw_below_drewN | apply below_drew1 | refine below_set ?_ GE124.out | refine below_set ?_ GE125.out) | exact HB.out)⟩
                · rw [if_neg c56] at H
                  have c56b0 : (t136 == 0) = false := beq_eq_false_iff_ne.mpr c56
                  have c56b1 : (t136 != 0) = true := bne_iff_ne.mpr c56
                  simp only [Option.some.injEq, Prod.mk.injEq] at H
                  obtain ⟨rfl, rfl, rfl, rfl, rfl, rfl⟩ := H
                  have hnb67 := NB125_124.out
                  have hnc67 := NB124_125.out
                  have hcz68_0 : wc.cell? ⟨gb125, 0, none⟩ = some (.int .i64 (wrap64 (Int.tdiv (wrap64 (a0)) 67108864))) := (blk_cell BK125.out 0).trans rfl
                  have hcz68_1 : wc.cell? ⟨gb125, 1, none⟩ = some (.int .i64 x126001_3) := (blk_cell BK125.out 1).trans rfl
                  have hcz68_2 : wc.cell? ⟨gb125, 2, none⟩ = some (.int .i64 x126002_12) := (blk_cell BK125.out 2).trans rfl
                  have hcz68_3 : wc.cell? ⟨gb125, 3, none⟩ = some (.int .i64 x126003_16) := (blk_cell BK125.out 3).trans rfl
                  have hcz68_4 : wc.cell? ⟨gb125, 4, none⟩ = some (.int .i64 0) := (blk_cell BK125.out 4).trans rfl
                  have hfz68_0 := blk_frozen BK125.out 0
                  have hfz68_1 := blk_frozen BK125.out 1
                  have hfz68_2 := blk_frozen BK125.out 2
                  have hfz68_3 := blk_frozen BK125.out 3
                  have hfz68_4 := blk_frozen BK125.out 4
                  go_wp2_with (first | ((with_reducible refine gate_callee (f := 11) rfl ?_); refine goesL_ (some 54) rfl rfl Tryd.func11 (by kernel_rfl) rfl #[.agg #[.int .i64 (wrap64 (Int.tdiv (wrap64 (a0)) 67108864)), .int .i64 x126001_3, .int .i64 x126002_12, .int .i64 x126003_16, .int .i64 0]] rfl (by (try simp only [List.map_toArray, List.map_cons, List.map_nil]); first | done | rfl | (simp only [List.length_drop, List.length_take]; rfl)) ?_; (with_reducible refine (bulkheadref02_Encode.calls kj16 (wrap64 (Int.tdiv (wrap64 (a0)) 67108864)) x126001_3 x126002_12 x126003_16 0 t135 t136 _ A55.out).mono ?_); rintro e w69 ⟨rfl, hb⟩; refine ⟨_, rfl, ?_⟩; have n0_ := Aside0.mk (blk_below (g := gb124) (o := .cells #[.int .i64 0, .int .i64 0, .int .i64 0, .int .i64 0, .int .i64 0] 23 (0, 0)) (by (with_reducible repeat (first | refine blk_drewN ?_ _ | refine blk_drew ?_ | refine blk_alloc ?_ _)); exact BK124.out) hb); have n1_ := Aside0.mk (blk_below (g := gb125) (o := .cells #[.int .i64 (wrap64 (Int.tdiv (wrap64 (a0)) 67108864)), .int .i64 x126001_3, .int .i64 x126002_12, .int .i64 x126003_16, .int .i64 0] 23 (0, 0)) (by (with_reducible repeat (first | refine blk_drewN ?_ _ | refine blk_drew ?_ | refine blk_alloc ?_ _)); exact BK125.out) hb); have n2_ := Aside0.mk (below_step (by repeat (first | (with_reducible first | exact HB.out | apply below_alloc | apply pw_below_drewN | apply below_drew1 | refine below_set ?_ GE124.out | refine below_set ?_ GE125.out) | exact HB.out)) hb); clear BK124; clear BK125; clear HB; have BK124 := n0_; have BK125 := n1_; have HB := n2_; clear n0_ n1_ n2_; (try clear hb); (try clear hb2); (try clear hk); (try clear hi); have hcz70_0 : w69.cell? ⟨gb124, 0, none⟩ = some (.int .i64 0) := (blk_cell BK124.out 0).trans rfl; have hcz70_1 : w69.cell? ⟨gb124, 1, none⟩ = some (.int .i64 0) := (blk_cell BK124.out 1).trans rfl; have hcz70_2 : w69.cell? ⟨gb124, 2, none⟩ = some (.int .i64 0) := (blk_cell BK124.out 2).trans rfl; have hcz70_3 : w69.cell? ⟨gb124, 3, none⟩ = some (.int .i64 0) := (blk_cell BK124.out 3).trans rfl; have hcz70_4 : w69.cell? ⟨gb124, 4, none⟩ = some (.int .i64 0) := (blk_cell BK124.out 4).trans rfl; have hfz70_0 := blk_frozen BK124.out 0; have hfz70_1 := blk_frozen BK124.out 1; have hfz70_2 := blk_frozen BK124.out 2; have hfz70_3 := blk_frozen BK124.out 3; have hfz70_4 := blk_frozen BK124.out 4))
                  refine bodyPost_ret (results_ct rfl _ _ gb124 23 #[.int .i64 0, .int .i64 0, .int .i64 0, .int .i64 0, .int .i64 0] (0, 0) _ rfl (by (with_reducible repeat (first | refine blk_drewN ?_ _ | refine blk_drew ?_ | refine blk_alloc ?_ _)); refine blk_put (cs := #[.int .i64 0, .int .i64 0, .int .i64 0, .int .i64 0, .int .i64 0]) ?_ 4 _ rfl; (with_reducible repeat (first | refine blk_drewN ?_ _ | refine blk_drew ?_ | refine blk_alloc ?_ _)); refine blk_put (cs := #[.int .i64 0, .int .i64 0, .int .i64 0, .int .i64 0, .int .i64 0]) ?_ 3 _ rfl; (with_reducible repeat (first | refine blk_drewN ?_ _ | refine blk_drew ?_ | refine blk_alloc ?_ _)); refine blk_put (cs := #[.int .i64 0, .int .i64 0, .int .i64 0, .int .i64 0, .int .i64 0]) ?_ 2 _ rfl; (with_reducible repeat (first | refine blk_drewN ?_ _ | refine blk_drew ?_ | refine blk_alloc ?_ _)); refine blk_put (cs := #[.int .i64 0, .int .i64 0, .int .i64 0, .int .i64 0, .int .i64 0]) ?_ 1 _ rfl; (with_reducible repeat (first | refine blk_drewN ?_ _ | refine blk_drew ?_ | refine blk_alloc ?_ _)); refine blk_put (cs := #[.int .i64 0, .int .i64 0, .int .i64 0, .int .i64 0, .int .i64 0]) ?_ 0 _ rfl; (with_reducible repeat (first | refine blk_drewN ?_ _ | refine blk_drew ?_ | refine blk_alloc ?_ _)); exact BK124.out) Tryd.underlying23 rfl (by kernel_rfl)) rfl ?_
                  exact ⟨by first | rfl | (simp [errW_none, errW_some] <;> rfl) | (simp [*, errW_none, errW_some] <;> rfl), by repeat (first | (with_reducible first | exact HB.out | apply below_alloc | apply pw_below_drewN | apply below_drew1 | refine below_set ?_ GE124.out | refine below_set ?_ GE125.out) | exact HB.out)⟩

end Go.Proofs.YtdoighcgfbnigaaDoor.PDecode
