/- Isa: 'awake' is true, over the table. -/
import Derived.Test.YtdoighcgfbnigaaDoorIsaRef
namespace Go.Proofs.YtdoighcgfbnigaaDoor.Isa
set_option linter.unusedVariables false
set_option linter.unusedSimpArgs false
open Go.RowKit Go.Proofs.YtdoighcgfbnigaaDoorW.PrintWords Go.Proofs.YtdoighcgfbnigaaDoorW.PrintLast Go.Proofs.YtdoighcgfbnigaaDoorW.PrintMore

theorem enc_add (w : World) (ht : Tab w) :
    Calls Tryd.prog 10 #[.agg #[.int .i64 5, .int .i64 3, .int .i64 1, .int .i64 2, .int .i64 0]] w fun e w' => e = .returned (.tuple #[.int .u32 348422144, .int .i64 0]) ∧ Below w.heap.size w w' := enc_any 5 3 1 2 0 w ht

theorem dec_jmp (w : World) (ht : Tab w) :
    Calls Tryd.prog 13 #[.int .u32 1745092607] w fun e w' => e = .returned (.tuple #[.agg #[.int .i64 26, .int .i64 0, .int .i64 0, .int .i64 0, .int .i64 (-1)], .int .i64 0]) ∧ Below w.heap.size w w' := dec_any 1745092607 w ht (by decide) (by decide)

theorem form_ld (w : World) (ht : Tab w) : Calls Tryd.prog 15 #[.int .i64 19] w fun e w' => e = .returned (.int .i64 6) ∧ Below w.heap.size w w' := form_any 19 w ht

set_option maxHeartbeats 1600000 in
set_option maxRecDepth 100000 in
theorem awake_any (w : World) (ht : Tab w) : Calls Tryd.prog 12 #[] w fun e w' => e = .returned (.bool true) ∧ Below w.heap.size w w' := by
  have hu23 := Tryd.underlying23
  have HT := Aside0.mk ht
  clear ht
  go_enter Tryd.func12, Tryd.ntmps12
  go_wp2_with (first | (go_at_call 10; (with_reducible refine (enc_add _ (by repeat (first | exact HT.out | apply Tab.drew | apply Tab.alloc))).mono ?_); rintro e w1 ⟨rfl, hb⟩; have HT1 := Aside0.mk (Tab.below (by repeat (first | exact HT.out | apply Tab.drew | apply Tab.alloc)) hb); obtain ⟨hc, hf⟩ := bcell hb; have hz : w.heap.size ≤ w1.heap.size := (by have := hb.size; (try simp at this); omega); have HB1 := Aside0.mk hb; clear hb) | (go_at_call 13; (with_reducible refine (dec_jmp _ (by repeat (first | exact HT1.out | apply Tab.drew | apply Tab.alloc))).mono ?_); rintro e w2 ⟨rfl, hb⟩; have HT2 := Aside0.mk (Tab.below (by repeat (first | exact HT1.out | apply Tab.drew | apply Tab.alloc)) hb); have hz2 : w.heap.size ≤ w2.heap.size := (by have := hb.size; (try simp at this); omega); have HB2 := Aside0.mk hb; clear hb) | (go_at_call 15; (with_reducible refine (form_ld _ (by repeat (first | exact HT2.out | apply Tab.drew | apply Tab.alloc))).mono ?_); rintro e w3 ⟨rfl, hb⟩; have HB3 := Aside0.mk hb; clear hb))
  go_ret
  refine ⟨rfl, ?_⟩
  repeat (first | (with_reducible exact Below.refl _ _) | (with_reducible refine below_set ?_ (by omega)) | (with_reducible refine Below.trans ?_ (HB3.out.mono (by simp; omega))) | (with_reducible refine Below.trans ?_ (HB2.out.mono (by first | omega | (simp; omega)))) | (with_reducible refine Below.trans ?_ (HB1.out.mono (by first | omega | (simp; omega)))) | (with_reducible apply pw_below_drewN) | (with_reducible refine Below.alloc ?_ (by omega) _))
end Go.Proofs.YtdoighcgfbnigaaDoor.Isa
