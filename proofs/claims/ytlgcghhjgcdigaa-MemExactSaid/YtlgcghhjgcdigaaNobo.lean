import Derived.Test.YtlgcghhjgcdigaaWorld
import Derived.Test.YtlgcghhjgcdigaaNil5
namespace Go.Proofs.Ytlgcghhjgcdigaa.Fw
open Go Go.Proofs
set_option linter.unusedVariables false
set_option linter.unusedSimpArgs false
set_option maxRecDepth 10000
theorem fa_94_0 (a : Addr) (w : World) : (Instr.fieldAt 94 (.pointer (some a)) 0).run Try.prog w = .ok (.pointer (some (a.add 0))) w := by
  simp [Instr.fieldAt, Try.runUnderlying94, Instr.sureAddr, fieldPlace, Try.sizeOf25, Sem.run_bind, Sem.run_pure]
set_option maxHeartbeats 8000000 in
theorem nobody_ok (w0 : World) (F : List Atom) (wb : Nat) (S : WS) (hS : SOk S) (hN1 : 1 ≤ S.N) :
    CallK Try.prog 25 [.pointer (some ⟨wb, 0, none⟩)] w0 (Blk wb (.cells [Value.slice S.la S.N S.lc, .slice S.ia S.J S.ic, .slice S.ka S.K S.kc].toArray 74 (0, 0)) :: Own 94 2 (.slice S.la S.N S.lc) S.N (rowsN S.N (fun j => mpR (S.M j))) :: BigF S.N (fun j => mpA (S.M j)) :: Own 102 3 (.slice S.ia S.J S.ic) S.J (rowsN S.J (fun j => kiR (S.T j))) :: BigF S.J (fun j => kiA (S.T j)) :: Own 107 4 (.slice S.ka S.K S.kc) S.K (rowsN S.K (fun j => bkR (S.B j))) :: BigF S.K (fun j => bkA (S.B j)) :: F) (Gives w0 fun v F2 => v = .bool true ∧ F2 = Blk wb (.cells [Value.slice S.la S.N S.lc, .slice S.ia S.J S.ic, .slice S.ka S.K S.kc].toArray 74 (0, 0)) :: Own 94 2 (.slice S.la S.N S.lc) S.N (rowsN S.N (fun j => mpR (S.M j))) :: BigF S.N (fun j => mpA (S.M j)) :: Own 102 3 (.slice S.ia S.J S.ic) S.J (rowsN S.J (fun j => kiR (S.T j))) :: BigF S.J (fun j => kiA (S.T j)) :: Own 107 4 (.slice S.ka S.K S.kc) S.K (rowsN S.K (fun j => bkR (S.B j))) :: BigF S.K (fun j => bkA (S.B j)) :: F) := by
  obtain ⟨gl, hgl⟩ := hS.hla.resolve_left (by omega)
  refine c_enter Try.func25 rfl rfl rfl ?_
  refine g_seq ?_
  refine g_region ?_
  refine l_assign rfl rfl ?_
  refine l_nil ?_
  refine g_seq ?_
  refine g_region ?_
  refine l_assign rfl rfl ?_
  refine l_nil ?_
  refine g_seq ?_
  refine g_region ?_
  rw [hgl]
  refine l_move rfl rfl ?_
  refine l_call rfl Try.call12 rfl (read_nil _ _ 0) ?_; rintro _ _ ⟨rfl, rfl⟩
  refine l_move rfl rfl ?_
  refine l_extract rfl rfl rfl ?_
  refine l_extract rfl rfl rfl ?_
  refine l_assign rfl rfl ?_
  refine l_assign rfl rfl ?_
  refine l_nil ?_
  refine g_seq ?_
  refine g_region ?_
  refine l_move rfl rfl ?_
  refine l_call rfl Try.call10 rfl (write_nil _ _ 0 1) ?_; rintro _ _ ⟨rfl, rfl⟩
  refine l_assign rfl rfl ?_
  refine l_nil ?_
  refine g_seq ?_
  refine g_region ?_
  refine l_move rfl rfl ?_
  refine l_call rfl Try.call49 rfl (take_nil _ _ 0 1) ?_; rintro _ _ ⟨rfl, rfl⟩
  refine l_move rfl rfl ?_
  refine l_extract rfl rfl rfl ?_
  refine l_extract rfl rfl rfl ?_
  refine l_assign rfl rfl ?_
  refine l_assign rfl rfl ?_
  refine l_nil ?_
  refine g_seq ?_
  refine g_region ?_
  refine l_move rfl rfl ?_
  refine l_call rfl Try.call36 rfl (lay_nil _ _ 0) ?_; rintro _ _ ⟨rfl, rfl⟩
  refine l_assign rfl rfl ?_
  refine l_nil ?_
  refine g_seq ?_
  refine g_region ?_
  refine l_move rfl rfl ?_
  refine l_call rfl Try.call37 rfl (fill_nil _ _ 0 0 1) ?_; rintro _ _ ⟨rfl, rfl⟩
  refine l_assign rfl rfl ?_
  refine l_nil ?_
  refine g_seq ?_
  refine g_region ?_
  refine l_move rfl rfl ?_
  refine l_call rfl Try.call38 rfl (move_nil _ _ 0 0 0) ?_; rintro _ _ ⟨rfl, rfl⟩
  refine l_assign rfl rfl ?_
  refine l_nil ?_
  refine g_seq ?_
  refine g_region ?_
  refine l_move rfl rfl ?_
  refine l_call rfl Try.call19 rfl (clone_nil _ _ ) ?_; rintro _ _ ⟨rfl, rfl⟩
  refine l_assign rfl rfl ?_
  refine l_nil ?_
  refine g_seq ?_
  refine g_region ?_
  refine l_move rfl rfl ?_
  refine l_call rfl Try.call17 rfl (frames_nil _ _ ) ?_; rintro _ _ ⟨rfl, rfl⟩
  refine l_assign rfl rfl ?_
  refine l_nil ?_
  refine g_seq ?_
  refine g_region ?_
  refine l_move rfl rfl ?_
  refine l_call rfl Try.call18 rfl (words_nil _ _ ) ?_; rintro _ _ ⟨rfl, rfl⟩
  refine l_assign rfl rfl ?_
  refine l_nil ?_
  refine g_seq ?_
  refine g_region ?_
  refine l_move rfl rfl ?_
  refine l_move rfl rfl ?_
  refine l_nilCheck rfl rfl ?_
  refine l_fieldAddr rfl fa_74_0 rfl ?_
  refine l_ld rfl Try.isAgg68 rfl rfl ?_
  refine l_ixs rfl Try.underlying68 Try.sizeOf94 rfl rfl (by omega) (by omega) ?_
  refine l_fieldAddr rfl fa_94_0 rfl ?_
  refine l_loadc (v := .pointer (some ⟨(S.M 0).x, 0, none⟩)) rfl Try.isAgg25 rfl (rn_cell (f := fun j => mpR (S.M j)) (k := 0) (j := 0) (by first | exact mem_getO 0 rfl | exact mem_getO 1 rfl | exact mem_getO 2 rfl | exact mem_getO 3 rfl | exact mem_getO 4 rfl | exact mem_getO 5 rfl | exact mem_getO 6 rfl | exact mem_getO 7 rfl | exact mem_getO 8 rfl | exact mem_getO 9 rfl | exact mem_getO 10 rfl | exact mem_getO 11 rfl) (mpR_len S.M S.N) (by omega) (by decide) rfl) ?_
  refine l_call rfl Try.call11 rfl (differ_c _ _ none (some ⟨(S.M 0).x, 0, none⟩)) ?_; rintro _ _ ⟨bm1, bo1, rfl, rfl⟩
  refine l_call rfl Try.call13 rfl (along_n1 _ _ bm1 bo1 (fun w hw => blk_cell (c := [Value.pointer none]) (hw.ok (Blk bm1 (.cells [Value.pointer none].toArray 25 (0, 0))) (by first | exact mem_getO 0 rfl | exact mem_getO 1 rfl | exact mem_getO 2 rfl | exact mem_getO 3 rfl | exact mem_getO 4 rfl | exact mem_getO 5 rfl | exact mem_getO 6 rfl | exact mem_getO 7 rfl | exact mem_getO 8 rfl | exact mem_getO 9 rfl | exact mem_getO 10 rfl | exact mem_getO 11 rfl)) rfl) 2 (by omega)) ?_; rintro _ _ ⟨rfl, rfl⟩
  refine l_assign rfl rfl ?_
  refine l_nil ?_
  refine g_seq ?_
  refine g_region ?_
  refine l_move rfl rfl ?_
  refine l_nilCheck rfl rfl ?_
  refine l_fieldAddr rfl fa_74_0 rfl ?_
  refine l_ld rfl Try.isAgg68 rfl rfl ?_
  refine l_ixs rfl Try.underlying68 Try.sizeOf94 rfl rfl (by omega) (by omega) ?_
  refine l_fieldAddr rfl fa_94_0 rfl ?_
  refine l_loadc (v := .pointer (some ⟨(S.M 0).x, 0, none⟩)) rfl Try.isAgg25 rfl (rn_cell (f := fun j => mpR (S.M j)) (k := 0) (j := 0) (by first | exact mem_getO 0 rfl | exact mem_getO 1 rfl | exact mem_getO 2 rfl | exact mem_getO 3 rfl | exact mem_getO 4 rfl | exact mem_getO 5 rfl | exact mem_getO 6 rfl | exact mem_getO 7 rfl | exact mem_getO 8 rfl | exact mem_getO 9 rfl | exact mem_getO 10 rfl | exact mem_getO 11 rfl) (mpR_len S.M S.N) (by omega) (by decide) rfl) ?_
  refine l_call rfl Try.call11 rfl (differ_c _ _ (some ⟨(S.M 0).x, 0, none⟩) none) ?_; rintro _ _ ⟨bm2, bo2, rfl, rfl⟩
  refine l_call rfl Try.call13 rfl (along_n2 _ _ bm2 bo2 ⟨(S.M 0).x, 0, none⟩ (fun w hw => blk_cell (c := [Value.pointer (some ⟨(S.M 0).x, 0, none⟩)]) (hw.ok (Blk bm2 (.cells [Value.pointer (some ⟨(S.M 0).x, 0, none⟩)].toArray 25 (0, 0))) (by first | exact mem_getO 0 rfl | exact mem_getO 1 rfl | exact mem_getO 2 rfl | exact mem_getO 3 rfl | exact mem_getO 4 rfl | exact mem_getO 5 rfl | exact mem_getO 6 rfl | exact mem_getO 7 rfl | exact mem_getO 8 rfl | exact mem_getO 9 rfl | exact mem_getO 10 rfl | exact mem_getO 11 rfl)) rfl) (fun w hw => blk_cell (c := [Value.pointer none]) (hw.ok (Blk bo2 (.cells [Value.pointer none].toArray 25 (0, 0))) (by first | exact mem_getO 0 rfl | exact mem_getO 1 rfl | exact mem_getO 2 rfl | exact mem_getO 3 rfl | exact mem_getO 4 rfl | exact mem_getO 5 rfl | exact mem_getO 6 rfl | exact mem_getO 7 rfl | exact mem_getO 8 rfl | exact mem_getO 9 rfl | exact mem_getO 10 rfl | exact mem_getO 11 rfl)) rfl) 2 (by omega)) ?_; rintro _ _ ⟨rfl, rfl⟩
  refine l_assign rfl rfl ?_
  refine l_nil ?_
  refine g_seq ?_
  refine g_region ?_
  rw [← hgl]
  refine l_move rfl rfl ?_
  refine l_eql rfl rfl rfl ?_
  refine l_move rfl rfl ?_
  refine l_split 62 rfl ?_ ?_
  · intro hbr
    have hbr := of_decide_eq_true hbr
    refine l_guard_yes rfl rfl ?_
    refine l_move rfl rfl ?_
    refine l_guard_yes rfl rfl ?_
    refine l_eql rfl rfl rfl ?_
    refine l_pick_t rfl rfl rfl ?_
    refine l_move rfl rfl ?_
    refine l_split 66 rfl ?_ ?_
    · intro hbr
      have hbr := of_decide_eq_true hbr
      refine l_guard_yes rfl rfl ?_
      refine l_move rfl rfl ?_
      refine l_guard_yes rfl rfl ?_
      refine l_eql rfl rfl rfl ?_
      refine l_pick_t rfl rfl rfl ?_
      refine l_move rfl rfl ?_
      refine l_split 70 rfl ?_ ?_
      · intro hbr
        have hbr := of_decide_eq_true hbr
        refine l_guard_yes rfl rfl ?_
        refine l_move rfl rfl ?_
        refine l_guard_yes rfl rfl ?_
        refine l_eql rfl rfl rfl ?_
        refine l_pick_t rfl rfl rfl ?_
        refine l_move rfl rfl ?_
        refine l_split 74 rfl ?_ ?_
        · intro hbr
          have hbr := of_decide_eq_true hbr
          refine l_guard_yes rfl rfl ?_
          refine l_move rfl rfl ?_
          refine l_guard_yes rfl rfl ?_
          refine l_eql rfl rfl rfl ?_
          refine l_pick_t rfl rfl rfl ?_
          refine l_move rfl rfl ?_
          refine l_split 78 rfl ?_ ?_
          · intro hbr
            have hbr := of_decide_eq_true hbr
            refine l_guard_yes rfl rfl ?_
            refine l_move rfl rfl ?_
            refine l_guard_yes rfl rfl ?_
            refine l_eql rfl rfl rfl ?_
            refine l_pick_t rfl rfl rfl ?_
            refine l_move rfl rfl ?_
            refine l_split 82 rfl ?_ ?_
            · intro hbr
              have hbr := of_decide_eq_true hbr
              refine l_guard_yes rfl rfl ?_
              refine l_move rfl rfl ?_
              refine l_guard_yes rfl rfl ?_
              refine l_len rfl Try.underlying23 rfl ?_
              refine l_guard_yes rfl rfl ?_
              refine l_eql rfl rfl rfl ?_
              refine l_pick_t rfl rfl rfl ?_
              refine l_move rfl rfl ?_
              refine l_split 87 rfl ?_ ?_
              · intro hbr
                have hbr := of_decide_eq_true hbr
                refine l_guard_yes rfl rfl ?_
                refine l_move rfl rfl ?_
                refine l_guard_yes rfl rfl ?_
                refine l_eqpn rfl Try.underlying25 rfl rfl ?_
                refine l_pick_t rfl rfl rfl ?_
                refine l_move rfl rfl ?_
                refine l_split 91 rfl ?_ ?_
                · intro hbr
                  have hb91 := hbr
                  refine l_guard_yes rfl rfl ?_
                  refine l_move rfl rfl ?_
                  refine l_guard_yes rfl rfl ?_
                  refine l_eql rfl rfl rfl ?_
                  refine l_pick_t rfl rfl rfl ?_
                  refine l_move rfl rfl ?_
                  refine l_split 95 rfl ?_ ?_
                  · intro hbr
                    have hbr := of_decide_eq_true hbr
                    refine l_guard_yes rfl rfl ?_
                    refine l_move rfl rfl ?_
                    refine l_guard_yes rfl rfl ?_
                    refine l_len rfl Try.underlying23 rfl ?_
                    refine l_guard_yes rfl rfl ?_
                    refine l_eql rfl rfl rfl ?_
                    refine l_pick_t rfl rfl rfl ?_
                    refine l_move rfl rfl ?_
                    refine l_split 100 rfl ?_ ?_
                    · intro hbr
                      have hbr := of_decide_eq_true hbr
                      refine l_guard_yes rfl rfl ?_
                      refine l_move rfl rfl ?_
                      refine l_guard_yes rfl rfl ?_
                      refine l_len rfl Try.underlying36 rfl ?_
                      refine l_guard_yes rfl rfl ?_
                      refine l_eql rfl rfl rfl ?_
                      refine l_pick_t rfl rfl rfl ?_
                      refine l_move rfl rfl ?_
                      refine l_split 105 rfl ?_ ?_
                      · intro hbr
                        have hbr := of_decide_eq_true hbr
                        refine l_guard_yes rfl rfl ?_
                        refine l_move rfl rfl ?_
                        refine l_guard_yes rfl rfl ?_
                        refine l_len rfl Try.underlying36 rfl ?_
                        refine l_guard_yes rfl rfl ?_
                        refine l_eql rfl rfl rfl ?_
                        refine l_pick_t rfl rfl rfl ?_
                        refine l_assign rfl rfl ?_
                        refine l_nil ?_
                        refine g_ret Try.func25 rfl (.tmp rfl .nil) ?_
                        exact Gives.mki ⟨rfl, rfl⟩
                      · intro hbr
                        have hbr := of_decide_eq_false hbr
                        (exfalso; first | omega | (simp at hbr; done))
                    · intro hbr
                      have hbr := of_decide_eq_false hbr
                      (exfalso; first | omega | (simp at hbr; done))
                  · intro hbr
                    have hbr := of_decide_eq_false hbr
                    (exfalso; first | omega | (simp at hbr; done))
                · intro hbr
                  first | (exfalso; simp at hbr; done) | (exfalso; simp at hbr; omega) | (exfalso; first | omega | (simp at hbr; done))
              · intro hbr
                have hbr := of_decide_eq_false hbr
                (exfalso; first | omega | (simp at hbr; done))
            · intro hbr
              have hbr := of_decide_eq_false hbr
              (exfalso; first | omega | (simp at hbr; done))
          · intro hbr
            have hbr := of_decide_eq_false hbr
            (exfalso; first | omega | (simp at hbr; done))
        · intro hbr
          have hbr := of_decide_eq_false hbr
          (exfalso; first | omega | (simp at hbr; done))
      · intro hbr
        have hbr := of_decide_eq_false hbr
        (exfalso; first | omega | (simp at hbr; done))
    · intro hbr
      have hbr := of_decide_eq_false hbr
      (exfalso; first | omega | (simp at hbr; done))
  · intro hbr
    have hbr := of_decide_eq_false hbr
    (exfalso; first | omega | (simp at hbr; done))
end Go.Proofs.Ytlgcghhjgcdigaa.Fw
