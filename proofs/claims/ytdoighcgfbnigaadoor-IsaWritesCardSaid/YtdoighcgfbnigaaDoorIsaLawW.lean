/- Isa: the laws' walks. -/
import Derived.Test.YtdoighcgfbnigaaDoorIsaAwake
namespace Go.Proofs.YtdoighcgfbnigaaDoor.Isa
set_option linter.unusedVariables false
set_option linter.unusedSimpArgs false
open Go.RowKit Go.Proofs.YtdoighcgfbnigaaDoorW.PrintWords Go.Proofs.YtdoighcgfbnigaaDoorW.PrintLast Go.Proofs.YtdoighcgfbnigaaDoorW.PrintMore

set_option maxHeartbeats 1600000 in
set_option maxRecDepth 100000 in
theorem writes_any (op a b c i : Int) (w : World) (ht : Tab w) (o0 : -9223372036854775808 ≤ op) (o1 : op < 9223372036854775808) :
    Calls Tryd.prog 3 #[.agg #[.int .i64 op, .int .i64 a, .int .i64 b, .int .i64 c, .int .i64 i]] w fun e w' => e = .returned (.bool true) ∧ Below w.heap.size w w' := by
  have hu23 := Tryd.underlying23
  have HE := Aside0.mk (fun w ht => enc_any op a b c i w ht)
  have HR : Aside0 (∀ w, Calls Tryd.prog 11 #[.agg #[.int .i64 op, .int .i64 a, .int .i64 b, .int .i64 c, .int .i64 i]] w fun e w' => e = .returned (.tuple #[.int .u32 (if okIns op a b c i then word op a b c i else 0), .int .i64 (if okIns op a b c i then 0 else 21)]) ∧ Below w.heap.size w w') := ⟨fun w => PDecode.bulkheadref02_Encode.calls 3 op a b c i _ _ w (by rw [encode_ref op a b c i o0 o1]; split <;> rfl)⟩
  have HT := Aside0.mk ht
  generalize (if okIns op a b c i then word op a b c i else 0) = v at *
  generalize (if okIns op a b c i then (0 : Int) else 21) = r at *
  clear ht
  go_enter Tryd.func3, Tryd.ntmps3
  go_wp2_with (first | (go_at_call 10; (with_reducible refine (HE.out _ (by repeat (first | exact HT.out | apply Tab.drew | apply Tab.alloc))).mono ?_); rintro e w1 ⟨rfl, hb⟩; have HT1 := Aside0.mk (Tab.below (by repeat (first | exact HT.out | apply Tab.drew | apply Tab.alloc)) hb); obtain ⟨hc, hf⟩ := bcell hb; have hz : w.heap.size < w1.heap.size := (by have := hb.size; (try simp at this); omega); have HB1 := Aside0.mk hb; clear hb) | (go_at_call 11; (with_reducible refine (HR.out _).mono ?_); rintro e w2 ⟨rfl, hb⟩; have HT2 := Aside0.mk (Tab.below (by repeat (first | exact HT1.out | apply Tab.drew | apply Tab.alloc)) hb); have hz2 : w.heap.size < w2.heap.size := (by have := hb.size; (try simp at this); omega); have HB2 := Aside0.mk hb; clear hb) | (go_at_call 12; (with_reducible refine (awake_any _ (by repeat (first | exact HT2.out | apply Tab.drew | apply Tab.alloc))).mono ?_); rintro e w3 ⟨rfl, hb⟩; have HB3 := Aside0.mk hb; clear hb))
  go_ret
  refine ⟨rfl, ?_⟩
  repeat (first | (with_reducible exact Below.refl _ _) | (with_reducible refine Below.trans ?_ (HB3.out.mono (by first | omega | (simp; done) | (simp; omega)))) | (with_reducible refine Below.trans ?_ (HB2.out.mono (by first | omega | (simp; done) | (simp; omega)))) | (with_reducible refine Below.trans ?_ (HB1.out.mono (by first | omega | (simp; done) | (simp; omega)))) | (with_reducible apply pw_below_drewN) | (with_reducible refine Below.alloc ?_ (by omega) _))
end Go.Proofs.YtdoighcgfbnigaaDoor.Isa
