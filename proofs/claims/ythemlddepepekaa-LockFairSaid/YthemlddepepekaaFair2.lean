import Derived.Test.YthemlddepepekaaFair1
namespace Go.Proofs.Ythemlddepepekaa.Fw
open Go Go.Proofs
set_option linter.unusedVariables false
set_option linter.unusedSimpArgs false
set_option maxRecDepth 10000
theorem fa_31_0 (a : Addr) (w : World) : (Instr.fieldAt 31 (.pointer (some a)) 0).run Try.prog w = .ok (.pointer (some (a.add 0))) w := by
  simp [Instr.fieldAt, Try.runUnderlying31, Instr.sureAddr, fieldPlace, Try.sizeOf28, Sem.run_bind, Sem.run_pure]
theorem fa_31_2 (a : Addr) (w : World) : (Instr.fieldAt 31 (.pointer (some a)) 2).run Try.prog w = .ok (.pointer (some (a.add 2))) w := by
  simp [Instr.fieldAt, Try.runUnderlying31, Instr.sureAddr, fieldPlace, Try.sizeOf3, Sem.run_bind, Sem.run_pure]
theorem fa_31_1 (a : Addr) (w : World) : (Instr.fieldAt 31 (.pointer (some a)) 1).run Try.prog w = .ok (.pointer (some (a.add 1))) w := by
  simp [Instr.fieldAt, Try.runUnderlying31, Instr.sureAddr, fieldPlace, Try.sizeOf23, Sem.run_bind, Sem.run_pure]
theorem fa_31_3 (a : Addr) (w : World) : (Instr.fieldAt 31 (.pointer (some a)) 3).run Try.prog w = .ok (.pointer (some (a.add 3))) w := by
  simp [Instr.fieldAt, Try.runUnderlying31, Instr.sureAddr, fieldPlace, Try.sizeOf4, Sem.run_bind, Sem.run_pure]
theorem fa_44_0 (a : Addr) (w : World) : (Instr.fieldAt 44 (.pointer (some a)) 0).run Try.prog w = .ok (.pointer (some (a.add 0))) w := by
  simp [Instr.fieldAt, Try.runUnderlying44, Instr.sureAddr, fieldPlace, Try.sizeOf3, Sem.run_bind, Sem.run_pure]
theorem fa_31_4 (a : Addr) (w : World) : (Instr.fieldAt 31 (.pointer (some a)) 4).run Try.prog w = .ok (.pointer (some (a.add 4))) w := by
  simp [Instr.fieldAt, Try.runUnderlying31, Instr.sureAddr, fieldPlace, Try.sizeOf3, Sem.run_bind, Sem.run_pure]
theorem fa_44_1 (a : Addr) (w : World) : (Instr.fieldAt 44 (.pointer (some a)) 1).run Try.prog w = .ok (.pointer (some (a.add 1))) w := by
  simp [Instr.fieldAt, Try.runUnderlying44, Instr.sureAddr, fieldPlace, Try.sizeOf3, Sem.run_bind, Sem.run_pure]
set_option maxHeartbeats 4000000 in
theorem moves_ok (w0 : World) (F : List Atom) (bm g c : Nat) (W : List Int) (hc : 16 ≤ c) (gk nk : Nat) (KL : List Kw) (i : Nat) (hi : i < KL.length) (gq : Nat) (Q : QS) (k : Kw) (hk : kat KL i = k) (hloc : LocM k Q W) (hLI : IR w0 F .i64 k.al k.L.length k.L) (hLK : IR w0 F .i64 k.la k.L.length k.L) (htt : k.T.length = 0 ∨ ∃ g, k.tt = some ⟨g, 0, none⟩) :
    CallK Try.prog 9 [.pointer (some ⟨bm, 0, none⟩), .pointer (some ⟨gk, 0 + i * 5, none⟩), .slice (some ⟨gq, 0, none⟩) 5 5] w0 (Blk bm (.cells [Value.slice (some ⟨g, 0, none⟩) 16 c].toArray 81 (0, 0)) :: Own 51 1 (.slice (some ⟨g, 0, none⟩) 16 c) 16 (ints .u32 W) :: Blk k.b (.cells [Value.slice k.al k.L.length k.cl, .int .i64 k.h, .bool k.q, .slice k.tt k.T.length k.ct].toArray 84 (0, 0)) :: Own 51 1 (.slice k.tt k.T.length k.ct) k.T.length (ints .u32 k.T) :: Own 31 5 (.slice (some ⟨gk, 0, none⟩) KL.length nk) KL.length (knR KL) :: Own 44 2 (.slice (some ⟨gq, 0, none⟩) 5 5) 5 (qR Q) :: F) (Gives w0 fun v F2 => ∃ k2 Q2 W2, v = .bool true ∧ F2 = Blk bm (.cells [Value.slice (some ⟨g, 0, none⟩) 16 c].toArray 81 (0, 0)) :: Own 51 1 (.slice (some ⟨g, 0, none⟩) 16 c) 16 (ints .u32 W2) :: Blk k2.b (.cells [Value.slice k2.al k2.L.length k2.cl, .int .i64 k2.h, .bool k2.q, .slice k2.tt k2.T.length k2.ct].toArray 84 (0, 0)) :: Own 51 1 (.slice k2.tt k2.T.length k2.ct) k2.T.length (ints .u32 k2.T) :: Own 31 5 (.slice (some ⟨gk, 0, none⟩) KL.length nk) KL.length (knR (KL.set i k2)) :: Own 44 2 (.slice (some ⟨gq, 0, none⟩) 5 5) 5 (qR Q2) :: F ∧ (k2.T.length = 0 ∨ ∃ g, k2.tt = some ⟨g, 0, none⟩) ∧ MovR k Q W k2 Q2 W2) := by
  obtain ⟨o0, o1, _, _⟩ := id hloc.ok
  have hlen4 := hloc.len
  refine c_enter Try.func9 rfl rfl rfl ?_
  refine g_seq ?_
  refine g_region ?_
  refine l_assign rfl rfl ?_
  refine l_nil ?_
  refine g_seq ?_
  refine g_region ?_
  refine l_move rfl rfl ?_
  refine l_nilCheck rfl rfl ?_
  refine l_fieldAddr rfl fa_31_0 rfl ?_
  refine l_loadc (v := .pointer (some ⟨k.b, 0, none⟩)) rfl Try.isAgg28 rfl (kn_cell hi 0 (by rw [hk]; rfl)) ?_
  refine l_move rfl rfl ?_
  refine l_call rfl Try.call32 rfl (chstepI_ok _ _ bm g 16 c W hloc.wl hc (by omega) k.b k.al k.cl k.L k.h k.q k.tt k.T.length k.ct k.T rfl (by have := hloc.len; omega) hloc.lb hLI.ex htt hloc.ok) ?_; rintro _ _ ⟨d, e, W2, h2, q2, tt2, nt2, ct2, T2, rfl, hW2, rfl, hT2, htt2, hS⟩
  obtain rfl := hT2
  obtain ⟨rfl, hcase⟩ := step_fair hloc hS
  clear hS
  refine l_move rfl rfl ?_
  refine l_extract rfl rfl rfl ?_
  refine l_extract rfl rfl rfl ?_
  refine l_assign rfl rfl ?_
  refine l_assign rfl rfl ?_
  refine l_nil ?_
  refine g_seq ?_
  refine g_seq ?_
  refine g_region ?_
  refine l_move rfl rfl ?_
  refine l_neq rfl rfl rfl ?_
  refine l_nil ?_
  refine g_cond rfl ?_ ?_
  · intro hbr
    have hbr := of_decide_eq_true hbr
    (exfalso; omega)
  intro hbr
  have hbr := of_decide_eq_false hbr
  refine g_skip ?_
  refine g_seq ?_
  refine g_seq ?_
  refine gp_start mo (by kernel_rfl) (by kernel_rfl) ?_
  refine gp_quiet 0 rfl rfl rfl rfl rfl rfl (q_move rfl) ?_
  refine gp_quiet 1 rfl rfl rfl rfl rfl rfl (q_nilCheck rfl) ?_
  refine gp_quiet 2 rfl rfl rfl rfl rfl rfl (q_fieldAddr fa_31_2 rfl) ?_
  refine gp_quiet 3 rfl rfl rfl rfl rfl rfl (q_loadc (v := .int .i64 k.h) Try.isAgg3 rfl (kn_cell hi 2 (by rw [hk]; rfl))) ?_
  refine gp_quiet 4 rfl rfl rfl rfl rfl rfl (q_move rfl) ?_
  refine gp_quiet 5 rfl rfl rfl rfl rfl rfl (q_nilCheck rfl) ?_
  refine gp_quiet 6 rfl rfl rfl rfl rfl rfl (q_fieldAddr fa_31_1 rfl) ?_
  refine gp_quiet 7 rfl rfl rfl rfl rfl rfl (q_loadc (v := .slice k.la k.L.length k.lc) Try.isAgg23 rfl (kn_cell hi 1 (by rw [hk]; rfl))) ?_
  refine gp_quiet 8 rfl rfl rfl rfl rfl rfl (q_len Try.underlying23 rfl) ?_
  refine gp_quiet 9 rfl rfl rfl rfl rfl rfl (q_eql rfl rfl) ?_
  refine gp_end rfl rfl ?_
  refine g_cond rfl ?_ ?_
  · intro hbr
    have hbr := of_decide_eq_true hbr
    refine g_seq ?_
    refine g_region ?_
    obtain ⟨rfl, rfl, rfl, rfl, rfl⟩ := hcase.fin (by omega)
    refine l_move rfl rfl ?_
    refine l_not rfl rfl ?_
    refine l_assign rfl rfl ?_
    refine l_nil ?_
    refine g_ret Try.func9 rfl (.tmp rfl .nil) ?_
    (first | ((first | (rw [knR_same (KL := KL) { k with tt := tt2, ct := ct2 } hi (by rw [hk]; rfl)]; exact Gives.mki ⟨{ k with tt := tt2, ct := ct2 }, Q, W2, rfl, rfl, htt2, ⟨rfl, rfl, rfl, rfl, rfl, rfl⟩, .inl ⟨rfl, rfl, rfl, rfl, rfl, rfl, .inl (by omega)⟩⟩) | (rw [knR_same (KL := KL) { k with tt := tt2, ct := ct2 } hi (by rw [hk]; rfl)]; exact Gives.mki ⟨{ k with tt := tt2, ct := ct2 }, Q, W2, rfl, rfl, htt2, ⟨rfl, rfl, rfl, rfl, rfl, rfl⟩, .inl ⟨rfl, rfl, rfl, rfl, rfl, rfl, .inr ⟨hqt, fun s hs => by have h9 := hs.2; have e9 : s = r := (by omega); subst e9; omega⟩⟩⟩))) | exact Gives.mki ⟨{ k with q := true, p := aQ Q r, tt := tt2, ct := ct2, T := k.T ++ [aQ Q r % M32] }, Q.set r (aQ Q r + 1, gQ Q r), W.set (2 * r) ((aQ Q r + 1) % M32), rfl, rfl, htt2, ⟨rfl, rfl, rfl, rfl, rfl, rfl⟩, .inr (.inl ⟨r, hr5, hqf, hlt, hLr, rfl, rfl, rfl, rfl, rfl, rfl⟩)⟩ | exact Gives.mki ⟨{ k with q := false, h := k.h + 1, tt := tt2, ct := ct2 }, Q, W2, rfl, rfl, htt2, ⟨rfl, rfl, rfl, rfl, rfl, rfl⟩, .inr (.inr ⟨r, hr5, ⟨hqt, hLr⟩, hpe, rfl, rfl, rfl, rfl, rfl⟩)⟩)
  intro hbr
  have hbr := of_decide_eq_false hbr
  refine g_skip ?_
  refine g_seq ?_
  refine gp_start mo (by kernel_rfl) (by kernel_rfl) ?_
  obtain ⟨r, hr5, hlt, hLr, hmid⟩ := hcase.mid (by omega)
  clear hcase
  have hbd := hloc.bd r hr5
  refine gp_quiet 0 rfl rfl rfl rfl rfl rfl (q_move rfl) ?_
  refine gp_quiet 1 rfl rfl rfl rfl rfl rfl (q_nilCheck rfl) ?_
  refine gp_quiet 2 rfl rfl rfl rfl rfl rfl (q_fieldAddr fa_31_1 rfl) ?_
  obtain ⟨b9, o9, hla, hr9⟩ := hLK.some (i := k.h.toNat) (by omega)
  refine gp_quiet 3 rfl rfl rfl rfl rfl rfl (q_loadc (v := .slice (some ⟨b9, o9, none⟩) k.L.length k.lc) Try.isAgg23 rfl (kn_cell hi 1 (by rw [hk, ← hla]; rfl))) ?_
  refine gp_quiet 4 rfl rfl rfl rfl rfl rfl (q_move rfl) ?_
  refine gp_quiet 5 rfl rfl rfl rfl rfl rfl (q_nilCheck rfl) ?_
  refine gp_quiet 6 rfl rfl rfl rfl rfl rfl (q_fieldAddr fa_31_2 rfl) ?_
  refine gp_quiet 7 rfl rfl rfl rfl rfl rfl (q_loadc (v := .int .i64 k.h) Try.isAgg3 rfl (kn_cell hi 2 (by rw [hk]; rfl))) ?_
  refine gp_quiet 8 rfl rfl rfl rfl rfl rfl (q_ixs Try.underlying23 Try.sizeOf3 rfl rfl (by omega) (by omega)) ?_
  refine gp_quiet 9 rfl rfl rfl rfl rfl rfl (q_loadc Try.isAgg3 rfl (word_any hr9 (by omega))) ?_
  rw [hLr]
  refine gp_quiet 10 rfl rfl rfl rfl rfl rfl (q_quo rfl rfl (by omega) (by omega) (w_i64 (by omega) (by omega))) ?_
  rw [show 2 * (r : Int) / 2 = (r : Int) by omega]
  refine gp_quiet 11 rfl rfl rfl rfl rfl rfl (q_assign rfl) ?_
  refine gp_end rfl rfl ?_
  refine g_seq ?_
  refine g_seq ?_
  refine g_region ?_
  refine l_move rfl rfl ?_
  refine l_nilCheck rfl rfl ?_
  refine l_fieldAddr rfl fa_31_3 rfl ?_
  refine l_loadc (v := .bool k.q) rfl Try.isAgg4 rfl (kn_cell hi 3 (by rw [hk]; rfl)) ?_
  refine l_not rfl rfl ?_
  refine l_nil ?_
  refine g_cond rfl ?_ ?_
  · intro hbr
    have hb48 := hbr
    refine g_seq ?_
    refine g_region ?_
    have hqf : k.q = false := by simpa using hb48
    obtain ⟨rfl, rfl, rfl, rfl, rfl⟩ := hmid.ask hqf
    clear hmid
    refine l_move rfl rfl ?_
    refine l_nilCheck rfl rfl ?_
    refine l_fieldAddr rfl fa_31_3 rfl ?_
    refine l_fronto gk ?_
    refine l_storeo 0 Try.sizeOf4 rfl rfl rfl rfl (by rw [knR_len]; omega) rfl ?_
    rw [knR_set (i := i) (q := 3) { k with q := true, tt := tt2, ct := ct2, T := k.T ++ [aQ Q r % M32] } hi (by omega) (by rw [hk]; rfl)]
    refine l_nil ?_
    refine g_seq ?_
    refine g_region ?_
    refine l_move rfl rfl ?_
    refine l_move rfl rfl ?_
    refine l_move rfl rfl ?_
    refine l_ixs rfl Try.underlying32 Try.sizeOf44 rfl rfl (by omega) (by omega) ?_
    rw [Int.toNat_natCast]
    refine l_fieldAddr rfl fa_44_0 rfl ?_
    refine l_loadc (v := .int .i64 (aQ Q r)) rfl Try.isAgg3 rfl (qv_cell (by rw [hloc.ql]; omega) 0 rfl) ?_
    refine l_nilCheck rfl rfl ?_
    refine l_fieldAddr rfl fa_31_4 rfl ?_
    refine l_fronto gk ?_
    refine l_storeo 0 Try.sizeOf3 rfl rfl rfl rfl (by rw [knR_len, List.length_set]; omega) rfl ?_
    rw [knR_set (i := i) (q := 4) { k with q := true, p := aQ Q r, tt := tt2, ct := ct2, T := k.T ++ [aQ Q r % M32] } (by rw [List.length_set]; exact hi) (by omega) (by rw [kat_set hi, if_pos rfl]; rfl), List.set_set]
    refine l_nil ?_
    refine g_seq ?_
    refine g_region ?_
    refine l_move rfl rfl ?_
    refine l_move rfl rfl ?_
    refine l_ixs rfl Try.underlying32 Try.sizeOf44 rfl rfl (by omega) (by omega) ?_
    rw [Int.toNat_natCast]
    refine l_fieldAddr rfl fa_44_0 rfl ?_
    refine l_loadc (v := .int .i64 (aQ Q r)) rfl Try.isAgg3 rfl (qv_cell (by rw [hloc.ql]; omega) 0 rfl) ?_
    first | refine l_add rfl rfl rfl (w_i64 (by omega) (by omega)) ?_ | refine l_addw rfl rfl rfl ?_
    refine l_ixs rfl Try.underlying32 Try.sizeOf44 rfl rfl (by omega) (by omega) ?_
    rw [Int.toNat_natCast]
    refine l_fieldAddr rfl fa_44_0 rfl ?_
    refine l_fronto gq ?_
    refine l_storeo 0 Try.sizeOf3 rfl rfl rfl rfl (by rw [qR_len, hloc.ql]; omega) rfl ?_
    rw [qR_set (i := r) (q := 0) (aQ Q r + 1, gQ Q r) (by rw [hloc.ql]; omega) (by omega) rfl]
    refine l_nil ?_
    refine g_seq ?_
    refine g_region ?_
    refine l_move rfl rfl ?_
    refine l_assign rfl rfl ?_
    refine l_nil ?_
    refine g_ret Try.func9 rfl (.tmp rfl .nil) ?_
    (first | ((first | (rw [knR_same (KL := KL) { k with tt := tt2, ct := ct2 } hi (by rw [hk]; rfl)]; exact Gives.mki ⟨{ k with tt := tt2, ct := ct2 }, Q, W2, rfl, rfl, htt2, ⟨rfl, rfl, rfl, rfl, rfl, rfl⟩, .inl ⟨rfl, rfl, rfl, rfl, rfl, rfl, .inl (by omega)⟩⟩) | (rw [knR_same (KL := KL) { k with tt := tt2, ct := ct2 } hi (by rw [hk]; rfl)]; exact Gives.mki ⟨{ k with tt := tt2, ct := ct2 }, Q, W2, rfl, rfl, htt2, ⟨rfl, rfl, rfl, rfl, rfl, rfl⟩, .inl ⟨rfl, rfl, rfl, rfl, rfl, rfl, .inr ⟨hqt, fun s hs => by have h9 := hs.2; have e9 : s = r := (by omega); subst e9; omega⟩⟩⟩))) | exact Gives.mki ⟨{ k with q := true, p := aQ Q r, tt := tt2, ct := ct2, T := k.T ++ [aQ Q r % M32] }, Q.set r (aQ Q r + 1, gQ Q r), W.set (2 * r) ((aQ Q r + 1) % M32), rfl, rfl, htt2, ⟨rfl, rfl, rfl, rfl, rfl, rfl⟩, .inr (.inl ⟨r, hr5, hqf, hlt, hLr, rfl, rfl, rfl, rfl, rfl, rfl⟩)⟩ | exact Gives.mki ⟨{ k with q := false, h := k.h + 1, tt := tt2, ct := ct2 }, Q, W2, rfl, rfl, htt2, ⟨rfl, rfl, rfl, rfl, rfl, rfl⟩, .inr (.inr ⟨r, hr5, ⟨hqt, hLr⟩, hpe, rfl, rfl, rfl, rfl, rfl⟩)⟩)
  intro hbr
  have hb48 := hbr
  refine g_skip ?_
  refine g_seq ?_
  refine g_seq ?_
  refine gp_start mo (by kernel_rfl) (by kernel_rfl) ?_
  have hqt : k.q = true := by simpa using hb48
  refine gp_quiet 0 rfl rfl rfl rfl rfl rfl (q_move rfl) ?_
  refine gp_quiet 1 rfl rfl rfl rfl rfl rfl (q_move rfl) ?_
  refine gp_quiet 2 rfl rfl rfl rfl rfl rfl (q_ixs Try.underlying32 Try.sizeOf44 rfl rfl (by omega) (by omega)) ?_
  refine gp_quiet 3 rfl rfl rfl rfl rfl rfl (q_fieldAddr fa_44_1 rfl) ?_
  refine gp_quiet 4 rfl rfl rfl rfl rfl rfl (q_loadc (v := .int .i64 (gQ Q r)) Try.isAgg3 rfl (qv_cell (by rw [hloc.ql]; omega) 1 rfl)) ?_
  refine gp_quiet 5 rfl rfl rfl rfl rfl rfl (q_move rfl) ?_
  refine gp_quiet 6 rfl rfl rfl rfl rfl rfl (q_nilCheck rfl) ?_
  refine gp_quiet 7 rfl rfl rfl rfl rfl rfl (q_fieldAddr fa_31_4 rfl) ?_
  refine gp_quiet 8 rfl rfl rfl rfl rfl rfl (q_loadc (v := .int .i64 k.p) Try.isAgg3 rfl (kn_cell hi 4 (by rw [hk]; rfl))) ?_
  refine gp_quiet 9 rfl rfl rfl rfl rfl rfl (q_neq rfl rfl) ?_
  refine gp_end rfl rfl ?_
  refine g_cond rfl ?_ ?_
  · intro hbr
    have hbr := of_decide_eq_true hbr
    refine g_seq ?_
    refine g_region ?_
    obtain ⟨rfl, rfl, rfl, rfl, rfl⟩ := hmid.no hqt (by omega)
    refine l_move rfl rfl ?_
    refine l_not rfl rfl ?_
    refine l_assign rfl rfl ?_
    refine l_nil ?_
    refine g_ret Try.func9 rfl (.tmp rfl .nil) ?_
    (first | ((first | (rw [knR_same (KL := KL) { k with tt := tt2, ct := ct2 } hi (by rw [hk]; rfl)]; exact Gives.mki ⟨{ k with tt := tt2, ct := ct2 }, Q, W2, rfl, rfl, htt2, ⟨rfl, rfl, rfl, rfl, rfl, rfl⟩, .inl ⟨rfl, rfl, rfl, rfl, rfl, rfl, .inl (by omega)⟩⟩) | (rw [knR_same (KL := KL) { k with tt := tt2, ct := ct2 } hi (by rw [hk]; rfl)]; exact Gives.mki ⟨{ k with tt := tt2, ct := ct2 }, Q, W2, rfl, rfl, htt2, ⟨rfl, rfl, rfl, rfl, rfl, rfl⟩, .inl ⟨rfl, rfl, rfl, rfl, rfl, rfl, .inr ⟨hqt, fun s hs => by have h9 := hs.2; have e9 : s = r := (by omega); subst e9; omega⟩⟩⟩))) | exact Gives.mki ⟨{ k with q := true, p := aQ Q r, tt := tt2, ct := ct2, T := k.T ++ [aQ Q r % M32] }, Q.set r (aQ Q r + 1, gQ Q r), W.set (2 * r) ((aQ Q r + 1) % M32), rfl, rfl, htt2, ⟨rfl, rfl, rfl, rfl, rfl, rfl⟩, .inr (.inl ⟨r, hr5, hqf, hlt, hLr, rfl, rfl, rfl, rfl, rfl, rfl⟩)⟩ | exact Gives.mki ⟨{ k with q := false, h := k.h + 1, tt := tt2, ct := ct2 }, Q, W2, rfl, rfl, htt2, ⟨rfl, rfl, rfl, rfl, rfl, rfl⟩, .inr (.inr ⟨r, hr5, ⟨hqt, hLr⟩, hpe, rfl, rfl, rfl, rfl, rfl⟩)⟩)
  intro hbr
  have hbr := of_decide_eq_false hbr
  refine g_skip ?_
  refine g_seq ?_
  refine g_region ?_
  have hpe : k.p = gQ Q r := (by omega)
  obtain ⟨rfl, rfl, rfl, rfl, rfl⟩ := hmid.got hqt hpe
  refine l_move rfl rfl ?_
  refine l_nilCheck rfl rfl ?_
  refine l_fieldAddr rfl fa_31_3 rfl ?_
  refine l_fronto gk ?_
  refine l_storeo 0 Try.sizeOf4 rfl rfl rfl rfl (by rw [knR_len]; omega) rfl ?_
  rw [knR_set (i := i) (q := 3) { k with q := false, tt := tt2, ct := ct2 } hi (by omega) (by rw [hk]; rfl)]
  refine l_nil ?_
  refine g_seq ?_
  refine g_region ?_
  refine l_move rfl rfl ?_
  refine l_nilCheck rfl rfl ?_
  refine l_fieldAddr rfl fa_31_2 rfl ?_
  refine l_loadc (v := .int .i64 k.h) rfl Try.isAgg3 rfl (kn_cell (by rw [List.length_set]; exact hi) 2 (by rw [kat_set hi, if_pos rfl]; rfl)) ?_
  first | refine l_add rfl rfl rfl (w_i64 (by omega) (by omega)) ?_ | refine l_addw rfl rfl rfl ?_
  refine l_nilCheck rfl rfl ?_
  refine l_fieldAddr rfl fa_31_2 rfl ?_
  refine l_fronto gk ?_
  refine l_storeo 0 Try.sizeOf3 rfl rfl rfl rfl (by rw [knR_len, List.length_set]; omega) rfl ?_
  rw [knR_set (i := i) (q := 2) { k with q := false, h := k.h + 1, tt := tt2, ct := ct2 } (by rw [List.length_set]; exact hi) (by omega) (by rw [kat_set hi, if_pos rfl]; rfl), List.set_set]
  refine l_nil ?_
  refine g_seq ?_
  refine g_region ?_
  refine l_move rfl rfl ?_
  refine l_assign rfl rfl ?_
  refine l_nil ?_
  refine g_ret Try.func9 rfl (.tmp rfl .nil) ?_
  (first | ((first | (rw [knR_same (KL := KL) { k with tt := tt2, ct := ct2 } hi (by rw [hk]; rfl)]; exact Gives.mki ⟨{ k with tt := tt2, ct := ct2 }, Q, W2, rfl, rfl, htt2, ⟨rfl, rfl, rfl, rfl, rfl, rfl⟩, .inl ⟨rfl, rfl, rfl, rfl, rfl, rfl, .inl (by omega)⟩⟩) | (rw [knR_same (KL := KL) { k with tt := tt2, ct := ct2 } hi (by rw [hk]; rfl)]; exact Gives.mki ⟨{ k with tt := tt2, ct := ct2 }, Q, W2, rfl, rfl, htt2, ⟨rfl, rfl, rfl, rfl, rfl, rfl⟩, .inl ⟨rfl, rfl, rfl, rfl, rfl, rfl, .inr ⟨hqt, fun s hs => by have h9 := hs.2; have e9 : s = r := (by omega); subst e9; omega⟩⟩⟩))) | exact Gives.mki ⟨{ k with q := true, p := aQ Q r, tt := tt2, ct := ct2, T := k.T ++ [aQ Q r % M32] }, Q.set r (aQ Q r + 1, gQ Q r), W.set (2 * r) ((aQ Q r + 1) % M32), rfl, rfl, htt2, ⟨rfl, rfl, rfl, rfl, rfl, rfl⟩, .inr (.inl ⟨r, hr5, hqf, hlt, hLr, rfl, rfl, rfl, rfl, rfl, rfl⟩)⟩ | exact Gives.mki ⟨{ k with q := false, h := k.h + 1, tt := tt2, ct := ct2 }, Q, W2, rfl, rfl, htt2, ⟨rfl, rfl, rfl, rfl, rfl, rfl⟩, .inr (.inr ⟨r, hr5, ⟨hqt, hLr⟩, hpe, rfl, rfl, rfl, rfl, rfl⟩)⟩)
set_option maxHeartbeats 4000000 in
theorem gives_ok (w0 : World) (F : List Atom) (bm g c : Nat) (W : List Int) (hc : 16 ≤ c) (gk nk : Nat) (KL : List Kw) (i : Nat) (hi : i < KL.length) (gq : Nat) (Q : QS) (k : Kw) (hk : kat KL i = k) (hloc : LocM k Q W) (hLI : IR w0 F .i64 k.al k.L.length k.L) (hLK : IR w0 F .i64 k.la k.L.length k.L) (htt : k.T.length = 0 ∨ ∃ g, k.tt = some ⟨g, 0, none⟩) :
    CallK Try.prog 13 [.pointer (some ⟨bm, 0, none⟩), .pointer (some ⟨gk, 0 + i * 5, none⟩), .slice (some ⟨gq, 0, none⟩) 5 5] w0 (Blk bm (.cells [Value.slice (some ⟨g, 0, none⟩) 16 c].toArray 81 (0, 0)) :: Own 51 1 (.slice (some ⟨g, 0, none⟩) 16 c) 16 (ints .u32 W) :: Blk k.b (.cells [Value.slice k.al k.L.length k.cl, .int .i64 k.h, .bool k.q, .slice k.tt k.T.length k.ct].toArray 84 (0, 0)) :: Own 51 1 (.slice k.tt k.T.length k.ct) k.T.length (ints .u32 k.T) :: Own 31 5 (.slice (some ⟨gk, 0, none⟩) KL.length nk) KL.length (knR KL) :: Own 44 2 (.slice (some ⟨gq, 0, none⟩) 5 5) 5 (qR Q) :: F) (Gives w0 fun v F2 => ∃ k2 Q2 W2, v = .bool true ∧ F2 = Blk bm (.cells [Value.slice (some ⟨g, 0, none⟩) 16 c].toArray 81 (0, 0)) :: Own 51 1 (.slice (some ⟨g, 0, none⟩) 16 c) 16 (ints .u32 W2) :: Blk k2.b (.cells [Value.slice k2.al k2.L.length k2.cl, .int .i64 k2.h, .bool k2.q, .slice k2.tt k2.T.length k2.ct].toArray 84 (0, 0)) :: Own 51 1 (.slice k2.tt k2.T.length k2.ct) k2.T.length (ints .u32 k2.T) :: Own 31 5 (.slice (some ⟨gk, 0, none⟩) KL.length nk) KL.length (knR (KL.set i k2)) :: Own 44 2 (.slice (some ⟨gq, 0, none⟩) 5 5) 5 (qR Q2) :: F ∧ (k2.T.length = 0 ∨ ∃ g, k2.tt = some ⟨g, 0, none⟩) ∧ GivR k Q W k2 Q2 W2) := by
  obtain ⟨o0, o1, _, _⟩ := id hloc.ok
  have hlen4 := hloc.len
  refine c_enter Try.func13 rfl rfl rfl ?_
  refine g_seq ?_
  refine g_region ?_
  refine l_assign rfl rfl ?_
  refine l_nil ?_
  refine g_seq ?_
  refine g_region ?_
  refine l_move rfl rfl ?_
  refine l_nilCheck rfl rfl ?_
  refine l_fieldAddr rfl fa_31_0 rfl ?_
  refine l_loadc (v := .pointer (some ⟨k.b, 0, none⟩)) rfl Try.isAgg28 rfl (kn_cell hi 0 (by rw [hk]; rfl)) ?_
  refine l_move rfl rfl ?_
  refine l_call rfl Try.call34 rfl (chbackI_ok _ _ bm g 16 c W hloc.wl hc (by omega) k.b k.al k.cl k.L k.h k.q k.tt k.T.length k.ct k.T rfl (by have := hloc.len; omega) hloc.lb hLI.ex htt hloc.ok) ?_; rintro _ _ ⟨d, e, W2, h2, q2, tt2, nt2, ct2, T2, rfl, hW2, rfl, hT2, htt2, hS⟩
  obtain rfl := hT2
  have hcase := back_fair hloc hS
  clear hS
  refine l_move rfl rfl ?_
  refine l_extract rfl rfl rfl ?_
  refine l_extract rfl rfl rfl ?_
  refine l_assign rfl rfl ?_
  refine l_assign rfl rfl ?_
  refine l_nil ?_
  refine g_seq ?_
  refine g_seq ?_
  refine g_region ?_
  refine l_move rfl rfl ?_
  refine l_nilCheck rfl rfl ?_
  refine l_fieldAddr rfl fa_31_3 rfl ?_
  refine l_loadc (v := .bool k.q) rfl Try.isAgg4 rfl (kn_cell hi 3 (by rw [hk]; rfl)) ?_
  refine l_nil ?_
  refine g_cond rfl ?_ ?_
  · intro hbr
    refine g_seq ?_
    refine g_region ?_
    obtain ⟨rfl, rfl, rfl, rfl, rfl, rfl⟩ := hcase.asked hbr
    refine l_move rfl rfl ?_
    refine l_eql rfl rfl rfl ?_
    refine l_move rfl rfl ?_
    refine l_split 24 rfl ?_ ?_
    · intro hbr
      have hbr := of_decide_eq_true hbr
      refine l_guard_yes rfl rfl ?_
      refine l_move rfl rfl ?_
      refine l_guard_yes rfl rfl ?_
      refine l_not rfl rfl ?_
      refine l_pick_t rfl rfl rfl ?_
      refine l_assign rfl rfl ?_
      refine l_nil ?_
      refine g_ret Try.func13 rfl (.tmp rfl .nil) ?_
      (first | exact Gives.mki ⟨{ k with h := k.h - 1, tt := tt2, ct := ct2, T := k.T.take (k.h - 1).toNat }, Q.set r (aQ Q r, gQ Q r + 1), W.set (2 * r + 1) ((gQ Q r + 1) % M32), by simp [resVal], rfl, htt2, ⟨rfl, rfl, rfl, rfl, rfl, rfl⟩, .inr ⟨r, hr5, hqf, by omega, hLr, rfl, hqf, rfl, rfl, rfl⟩⟩ | ((have hh9 := hh0); rw [knR_same (KL := KL) { k with tt := tt2, ct := ct2 } hi (by rw [hk]; rfl)]; exact Gives.mki ⟨{ k with tt := tt2, ct := ct2 }, Q, W2, by simp [resVal, hh9], rfl, htt2, ⟨rfl, rfl, rfl, rfl, rfl, rfl⟩, .inl ⟨rfl, rfl, rfl, rfl, rfl, rfl⟩⟩) | (rw [knR_same (KL := KL) { k with tt := tt2, ct := ct2 } hi (by rw [hk]; rfl)]; exact Gives.mki ⟨{ k with tt := tt2, ct := ct2 }, Q, W2, by simp [resVal], rfl, htt2, ⟨rfl, rfl, rfl, rfl, rfl, rfl⟩, .inl ⟨rfl, rfl, rfl, rfl, rfl, rfl⟩⟩))
    · intro hbr
      have hbr := of_decide_eq_false hbr
      (exfalso; omega)
  intro hbr
  refine g_skip ?_
  refine g_seq ?_
  refine g_seq ?_
  refine g_region ?_
  have hqf : k.q = false := hbr
  refine l_move rfl rfl ?_
  refine l_nilCheck rfl rfl ?_
  refine l_fieldAddr rfl fa_31_2 rfl ?_
  refine l_loadc (v := .int .i64 k.h) rfl Try.isAgg3 rfl (kn_cell hi 2 (by rw [hk]; rfl)) ?_
  refine l_gtr rfl rfl rfl ?_
  refine l_nil ?_
  refine g_cond rfl ?_ ?_
  · intro hbr
    have hbr := of_decide_eq_true hbr
    refine g_seq ?_
    refine g_region ?_
    obtain ⟨rfl, rfl, rfl, rfl, rfl, r, hr5, hLr, rfl⟩ := hcase.free hqf (by omega)
    have hbd := hloc.bd r hr5
    refine l_move rfl rfl ?_
    refine l_nilCheck rfl rfl ?_
    refine l_fieldAddr rfl fa_31_2 rfl ?_
    refine l_loadc (v := .int .i64 k.h) rfl Try.isAgg3 rfl (kn_cell hi 2 (by rw [hk]; rfl)) ?_
    first | refine l_sub_ rfl rfl rfl (w_i64 (by omega) (by omega)) ?_ | refine l_subw rfl rfl rfl ?_
    refine l_nilCheck rfl rfl ?_
    refine l_fieldAddr rfl fa_31_2 rfl ?_
    refine l_fronto gk ?_
    refine l_storeo 0 Try.sizeOf3 rfl rfl rfl rfl (by rw [knR_len]; omega) rfl ?_
    rw [knR_set (i := i) (q := 2) { k with h := k.h - 1, tt := tt2, ct := ct2, T := k.T.take (k.h - 1).toNat } hi (by omega) (by rw [hk]; rfl)]
    refine l_nil ?_
    refine gp_start mo (by kernel_rfl) (by kernel_rfl) ?_
    refine gp_quiet 0 rfl rfl rfl rfl rfl rfl (q_move rfl) ?_
    refine gp_quiet 1 rfl rfl rfl rfl rfl rfl (q_move rfl) ?_
    refine gp_quiet 2 rfl rfl rfl rfl rfl rfl (q_nilCheck rfl) ?_
    refine gp_quiet 3 rfl rfl rfl rfl rfl rfl (q_fieldAddr fa_31_1 rfl) ?_
    obtain ⟨b9, o9, hla, hr9⟩ := hLK.some (i := (k.h - 1).toNat) (by omega)
    refine gp_quiet 4 rfl rfl rfl rfl rfl rfl (q_loadc (v := .slice (some ⟨b9, o9, none⟩) k.L.length k.lc) Try.isAgg23 rfl (kn_cell (by rw [List.length_set]; exact hi) 1 (by rw [kat_set hi, if_pos rfl, ← hla]; rfl))) ?_
    refine gp_quiet 5 rfl rfl rfl rfl rfl rfl (q_move rfl) ?_
    refine gp_quiet 6 rfl rfl rfl rfl rfl rfl (q_nilCheck rfl) ?_
    refine gp_quiet 7 rfl rfl rfl rfl rfl rfl (q_fieldAddr fa_31_2 rfl) ?_
    refine gp_quiet 8 rfl rfl rfl rfl rfl rfl (q_loadc (v := .int .i64 (k.h - 1)) Try.isAgg3 rfl (kn_cell (by rw [List.length_set]; exact hi) 2 (by rw [kat_set hi, if_pos rfl]; rfl))) ?_
    refine gp_quiet 9 rfl rfl rfl rfl rfl rfl (q_ixs Try.underlying23 Try.sizeOf3 rfl rfl (by omega) (by omega)) ?_
    refine gp_quiet 10 rfl rfl rfl rfl rfl rfl (q_loadc Try.isAgg3 rfl (word_any hr9 (by omega))) ?_
    rw [hLr]
    refine gp_quiet 11 rfl rfl rfl rfl rfl rfl (q_quo rfl rfl (by omega) (by omega) (w_i64 (by omega) (by omega))) ?_
    rw [show 2 * (r : Int) / 2 = (r : Int) by omega]
    refine gp_quiet 12 rfl rfl rfl rfl rfl rfl (q_ixs Try.underlying32 Try.sizeOf44 rfl rfl (by omega) (by omega)) ?_
    refine gp_quiet 13 rfl rfl rfl rfl rfl rfl (q_fieldAddr fa_44_1 rfl) ?_
    refine gp_quiet 14 rfl rfl rfl rfl rfl rfl (q_loadc (v := .int .i64 (gQ Q r)) Try.isAgg3 rfl (qv_cell (by rw [hloc.ql]; omega) 1 rfl)) ?_
    first | refine gp_quiet 15 rfl rfl rfl rfl rfl rfl (q_add rfl rfl (w_i64 (by omega) (by omega))) ?_ | refine gp_quiet 15 rfl rfl rfl rfl rfl rfl (q_addw rfl rfl) ?_
    refine gp_quiet 16 rfl rfl rfl rfl rfl rfl (q_ixs (m := 5) (i := (r : Int)) Try.underlying32 Try.sizeOf44 rfl rfl (by omega) (by omega)) ?_
    refine gp_quiet 17 rfl rfl rfl rfl rfl rfl (q_fieldAddr fa_44_1 rfl) ?_
    refine gp_fronto gq ?_
    refine gp_effa 18 [0, 1, 2, 3, 4, 5, 6, 7, 8, 9, 10, 11, 12, 13, 14, 15, 17] [16] rfl rfl rfl rfl rfl rfl rfl (does_storeo 0 Try.sizeOf3 rfl rfl rfl rfl (by rw [qR_len, hloc.ql]; omega) rfl) ?_
    rintro _ _ ⟨rfl, rfl⟩
    rw [qR_set (i := (r : Int).toNat) (q := 1) (aQ Q r, gQ Q r + 1) (by rw [hloc.ql]; omega) (by omega) rfl, Int.toNat_natCast]
    refine ⟨?_, ?_⟩
    · refine .cons rfl rfl rfl rfl rfl (q_ixs (m := 5) (i := (r : Int)) Try.underlying32 Try.sizeOf44 rfl rfl (by omega) (by omega)) ?_
      exact .nil
    refine gp_end rfl rfl ?_
    refine g_seq ?_
    refine g_region ?_
    (first | obtain ⟨hh0, rfl, rfl, rfl, rfl, rfl, rfl⟩ := hcase.none hqf (by omega) | skip)
    refine l_move rfl rfl ?_
    refine l_eql rfl rfl rfl ?_
    refine l_move rfl rfl ?_
    refine l_split 60 rfl ?_ ?_
    · intro hbr
      have hbr := of_decide_eq_true hbr
      refine l_guard_yes rfl rfl ?_
      refine l_move rfl rfl ?_
      refine l_guard_yes rfl rfl ?_
      refine l_move rfl rfl ?_
      refine l_guard_yes rfl rfl ?_
      refine l_nilCheck rfl rfl ?_
      refine l_guard_yes rfl rfl ?_
      refine l_fieldAddr rfl fa_31_2 rfl ?_
      refine l_guard_yes rfl rfl ?_
      (first | refine l_loadc (v := .int .i64 (k.h - 1)) rfl Try.isAgg3 rfl (kn_cell (by rw [List.length_set]; exact hi) 2 (by rw [kat_set hi, if_pos rfl]; rfl)) ?_ | refine l_loadc (v := .int .i64 k.h) rfl Try.isAgg3 rfl (kn_cell hi 2 (by rw [hk]; rfl)) ?_)
      refine l_guard_yes rfl rfl ?_
      refine l_eql rfl rfl rfl ?_
      refine l_guard_yes rfl rfl ?_
      refine l_eqlb rfl Try.underlying4 rfl rfl ?_
      refine l_pick_t rfl rfl rfl ?_
      refine l_assign rfl rfl ?_
      refine l_nil ?_
      refine g_ret Try.func13 rfl (.tmp rfl .nil) ?_
      (first | exact Gives.mki ⟨{ k with h := k.h - 1, tt := tt2, ct := ct2, T := k.T.take (k.h - 1).toNat }, Q.set r (aQ Q r, gQ Q r + 1), W.set (2 * r + 1) ((gQ Q r + 1) % M32), by simp [resVal], rfl, htt2, ⟨rfl, rfl, rfl, rfl, rfl, rfl⟩, .inr ⟨r, hr5, hqf, by omega, hLr, rfl, hqf, rfl, rfl, rfl⟩⟩ | ((have hh9 := hh0); rw [knR_same (KL := KL) { k with tt := tt2, ct := ct2 } hi (by rw [hk]; rfl)]; exact Gives.mki ⟨{ k with tt := tt2, ct := ct2 }, Q, W2, by simp [resVal, hh9], rfl, htt2, ⟨rfl, rfl, rfl, rfl, rfl, rfl⟩, .inl ⟨rfl, rfl, rfl, rfl, rfl, rfl⟩⟩) | (rw [knR_same (KL := KL) { k with tt := tt2, ct := ct2 } hi (by rw [hk]; rfl)]; exact Gives.mki ⟨{ k with tt := tt2, ct := ct2 }, Q, W2, by simp [resVal], rfl, htt2, ⟨rfl, rfl, rfl, rfl, rfl, rfl⟩, .inl ⟨rfl, rfl, rfl, rfl, rfl, rfl⟩⟩))
    · intro hbr
      have hbr := of_decide_eq_false hbr
      (exfalso; omega)
  intro hbr
  have hbr := of_decide_eq_false hbr
  refine g_skip ?_
  refine g_seq ?_
  refine g_region ?_
  (first | obtain ⟨hh0, rfl, rfl, rfl, rfl, rfl, rfl⟩ := hcase.none hqf (by omega) | skip)
  refine l_move rfl rfl ?_
  refine l_eql rfl rfl rfl ?_
  refine l_move rfl rfl ?_
  refine l_split 60 rfl ?_ ?_
  · intro hbr
    have hbr := of_decide_eq_true hbr
    refine l_guard_yes rfl rfl ?_
    refine l_move rfl rfl ?_
    refine l_guard_yes rfl rfl ?_
    refine l_move rfl rfl ?_
    refine l_guard_yes rfl rfl ?_
    refine l_nilCheck rfl rfl ?_
    refine l_guard_yes rfl rfl ?_
    refine l_fieldAddr rfl fa_31_2 rfl ?_
    refine l_guard_yes rfl rfl ?_
    (first | refine l_loadc (v := .int .i64 (k.h - 1)) rfl Try.isAgg3 rfl (kn_cell (by rw [List.length_set]; exact hi) 2 (by rw [kat_set hi, if_pos rfl]; rfl)) ?_ | refine l_loadc (v := .int .i64 k.h) rfl Try.isAgg3 rfl (kn_cell hi 2 (by rw [hk]; rfl)) ?_)
    refine l_guard_yes rfl rfl ?_
    refine l_eql rfl rfl rfl ?_
    refine l_guard_yes rfl rfl ?_
    refine l_eqlb rfl Try.underlying4 rfl rfl ?_
    refine l_pick_t rfl rfl rfl ?_
    refine l_assign rfl rfl ?_
    refine l_nil ?_
    refine g_ret Try.func13 rfl (.tmp rfl .nil) ?_
    (first | exact Gives.mki ⟨{ k with h := k.h - 1, tt := tt2, ct := ct2, T := k.T.take (k.h - 1).toNat }, Q.set r (aQ Q r, gQ Q r + 1), W.set (2 * r + 1) ((gQ Q r + 1) % M32), by simp [resVal], rfl, htt2, ⟨rfl, rfl, rfl, rfl, rfl, rfl⟩, .inr ⟨r, hr5, hqf, by omega, hLr, rfl, hqf, rfl, rfl, rfl⟩⟩ | ((have hh9 := hh0); rw [knR_same (KL := KL) { k with tt := tt2, ct := ct2 } hi (by rw [hk]; rfl)]; exact Gives.mki ⟨{ k with tt := tt2, ct := ct2 }, Q, W2, by simp [resVal, hh9], rfl, htt2, ⟨rfl, rfl, rfl, rfl, rfl, rfl⟩, .inl ⟨rfl, rfl, rfl, rfl, rfl, rfl⟩⟩) | (rw [knR_same (KL := KL) { k with tt := tt2, ct := ct2 } hi (by rw [hk]; rfl)]; exact Gives.mki ⟨{ k with tt := tt2, ct := ct2 }, Q, W2, by simp [resVal], rfl, htt2, ⟨rfl, rfl, rfl, rfl, rfl, rfl⟩, .inl ⟨rfl, rfl, rfl, rfl, rfl, rfl⟩⟩))
  · intro hbr
    have hbr := of_decide_eq_false hbr
    (exfalso; omega)
theorem lwait_ok (w0 : World) (F : List Atom) (bm g n c : Nat) (W : List Int) (hW : W.length = n) (hc : n ≤ c) (hn : n ≤ 1073741824) (at_ : Int) (at_0 : -9223372036854775808 ≤ at_) (at_1 : at_ ≤ 9223372036854775807) (h : inR n at_ 2) :
    CallK Try.prog 15 [.pointer (some ⟨bm, 0, none⟩), .int .i64 at_] w0 (Blk bm (.cells [Value.slice (some ⟨g, 0, none⟩) n c].toArray 81 (0, 0)) :: Own 51 1 (.slice (some ⟨g, 0, none⟩) n c) n (ints .u32 W) :: F) (Gives w0 fun v F2 => v = .tuple #[.int .i64 ((nx W at_ - tn W at_) % 4294967296), .int .i64 0] ∧ F2 = Blk bm (.cells [Value.slice (some ⟨g, 0, none⟩) n c].toArray 81 (0, 0)) :: Own 51 1 (.slice (some ⟨g, 0, none⟩) n c) n (ints .u32 W) :: F) := by
  refine c_enter Try.func15 rfl rfl rfl ?_
  refine g_seq ?_
  refine g_region ?_
  refine l_assign rfl rfl ?_
  refine l_assign rfl rfl ?_
  refine l_nil ?_
  refine g_seq ?_
  refine g_region ?_
  refine l_move rfl rfl ?_
  refine l_move rfl rfl ?_
  refine l_call rfl Try.call36 rfl (lwords_in _ _ bm g n c W hW hc hn at_ at_0 at_1 h) ?_; rintro _ _ ⟨rfl, rfl⟩
  refine l_move rfl rfl ?_
  refine l_extract rfl rfl rfl ?_
  refine l_extract rfl rfl rfl ?_
  refine l_extract rfl rfl rfl ?_
  refine l_assign rfl rfl ?_
  refine l_assign rfl rfl ?_
  refine l_assign rfl rfl ?_
  refine l_nil ?_
  refine g_seq ?_
  refine g_region ?_
  refine l_move rfl rfl ?_
  refine l_move rfl rfl ?_
  refine l_subm (m := 4294967296) rfl wr_u32 rfl rfl ?_
  refine l_conv rfl Try.underlying51 Try.underlying3 rfl (w_i64 (by omega) (by omega)) ?_
  refine l_move rfl rfl ?_
  refine l_assign rfl rfl ?_
  refine l_assign rfl rfl ?_
  refine l_nil ?_
  refine g_ret Try.func15 rfl (.tmp rfl (.tmp rfl .nil)) ?_
  exact Gives.mki ⟨rfl, rfl⟩
end Go.Proofs.Ythemlddepepekaa.Fw
