/- Isa: the law IsaFinds, its walk. -/
import Derived.Test.YtdoighcgfbnigaaDoorIsaAwake
namespace Go.Proofs.YtdoighcgfbnigaaDoor.Isa
set_option linter.unusedVariables false
set_option linter.unusedSimpArgs false
open Go.RowKit Go.Proofs.YtdoighcgfbnigaaDoorW.PrintWords Go.Proofs.YtdoighcgfbnigaaDoorW.PrintLast Go.Proofs.YtdoighcgfbnigaaDoorW.PrintMore

set_option maxHeartbeats 800000 in
theorem finds_any (s : ByteArray) (w : World) (ht : Tab w) :
    Calls Tryd.prog 8 #[.string s] w fun e w' => e = .returned (.bool true) ∧ Below w.heap.size w w' := by
  have HT := Aside0.mk ht
  have HF : Aside0 (∀ w, Tab w → Calls Tryd.prog 17 #[.string s] w fun e w' => e = .returned (.tuple #[.int .i64 (findFrom s.data.toList 30).1, .bool (findFrom s.data.toList 30).2]) ∧ Below w.heap.size w w') := ⟨fun w ht => (find_any s w ht).mono fun e w' ⟨h1, h2⟩ => ⟨h1, h2.below⟩⟩
  have HR : Aside0 (∀ w, Calls Tryd.prog 18 #[.string s] w fun e w' => e = .returned (.tuple #[.int .i64 (findFrom s.data.toList 30).1, .bool (findFrom s.data.toList 30).2]) ∧ Below w.heap.size w w') := ⟨fun w => PFind.bulkheadref02_Find.calls 31 s _ _ w (find_ref s)⟩
  generalize (findFrom s.data.toList 30).1 = n at *
  generalize (findFrom s.data.toList 30).2 = b at *
  clear ht
  go_enter Tryd.func8, Tryd.ntmps8
  go_wp2_with (first | (go_at_call 17; (with_reducible refine (HF.out _ (by repeat (first | exact HT.out | apply Tab.drew | apply Tab.alloc | (refine Tab.set ?_ _ _ _ (by omega))))).mono ?_); rintro e w1 ⟨rfl, hb⟩; have HT1 := Aside0.mk (Tab.below (by repeat (first | exact HT.out | apply Tab.drew | apply Tab.alloc | (refine Tab.set ?_ _ _ _ (by omega)))) hb); obtain ⟨hc1, hf1⟩ := bcell hb; have hq1 := hb.size; (try simp at hq1); have hz1 : w.heap.size ≤ w1.heap.size := (by have := hb.size; (try simp at this); omega); (try have hl01 : w.heap.size < w1.heap.size := (by omega)); have HB1 := Aside0.mk hb; clear hb) | (go_at_call 18; (with_reducible refine (HR.out _).mono ?_); rintro e w2 ⟨rfl, hb⟩; have HT2 := Aside0.mk (Tab.below (by repeat (first | exact HT1.out | apply Tab.drew | apply Tab.alloc | (refine Tab.set ?_ _ _ _ (by omega)))) hb); obtain ⟨hc2, hf2⟩ := bcell hb; have hq2 := hb.size; (try simp at hq2); have hz2 : w.heap.size ≤ w2.heap.size := (by have := hb.size; (try simp at this); omega); (try have hl02 : w.heap.size < w2.heap.size := (by omega)); (try have hl12 : w1.heap.size < w2.heap.size := (by omega)); have HB2 := Aside0.mk hb; clear hb) | (go_at_call 12; (with_reducible refine (awake_any _ (by repeat (first | exact HT2.out | apply Tab.drew | apply Tab.alloc | (refine Tab.set ?_ _ _ _ (by omega))))).mono ?_); rintro e w3 ⟨rfl, hb⟩; have HT3 := Aside0.mk (Tab.below (by repeat (first | exact HT2.out | apply Tab.drew | apply Tab.alloc | (refine Tab.set ?_ _ _ _ (by omega)))) hb); have hq3 := hb.size; (try simp at hq3); have hz3 : w.heap.size ≤ w3.heap.size := (by have := hb.size; (try simp at this); omega); (try have hl03 : w.heap.size < w3.heap.size := (by omega)); (try have hl13 : w1.heap.size < w3.heap.size := (by omega)); (try have hl23 : w2.heap.size < w3.heap.size := (by omega)); have HB3 := Aside0.mk hb; clear hb))
  go_ret
  refine ⟨rfl, ?_⟩
  repeat (first | (with_reducible exact Below.refl _ _) | (with_reducible refine Below.trans ?_ (HB3.out.mono (by first | omega | (simp; done) | (simp; omega)))) | (with_reducible refine Below.trans ?_ (HB2.out.mono (by first | omega | (simp; done) | (simp; omega)))) | (with_reducible refine Below.trans ?_ (HB1.out.mono (by first | omega | (simp; done) | (simp; omega)))) | (with_reducible apply pw_below_drewN) | (with_reducible refine below_set ?_ (by omega)) | (with_reducible refine Below.alloc ?_ (by first | omega | (simp; done) | (simp; omega)) _))

end Go.Proofs.YtdoighcgfbnigaaDoor.Isa
