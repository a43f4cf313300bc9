import Derived.Test.YthemlddepepekaaRLock
namespace Go.Proofs.Ythemlddepepekaa.Fw
open Go Go.Proofs
set_option linter.unusedVariables false
set_option linter.unusedSimpArgs false
set_option maxRecDepth 10000
theorem fa_104_1 (a : Addr) (w : World) : (Instr.fieldAt 104 (.pointer (some a)) 1).run Try.prog w = .ok (.pointer (some (a.add 1))) w := by
  simp [Instr.fieldAt, Try.runUnderlying104, Instr.sureAddr, fieldPlace, Try.sizeOf3, Sem.run_bind, Sem.run_pure]
theorem fa_104_0 (a : Addr) (w : World) : (Instr.fieldAt 104 (.pointer (some a)) 0).run Try.prog w = .ok (.pointer (some (a.add 0))) w := by
  simp [Instr.fieldAt, Try.runUnderlying104, Instr.sureAddr, fieldPlace, Try.sizeOf23, Sem.run_bind, Sem.run_pure]
theorem fa_104_2 (a : Addr) (w : World) : (Instr.fieldAt 104 (.pointer (some a)) 2).run Try.prog w = .ok (.pointer (some (a.add 2))) w := by
  simp [Instr.fieldAt, Try.runUnderlying104, Instr.sureAddr, fieldPlace, Try.sizeOf4, Sem.run_bind, Sem.run_pure]
theorem fa_104_3 (a : Addr) (w : World) : (Instr.fieldAt 104 (.pointer (some a)) 3).run Try.prog w = .ok (.pointer (some (a.add 3))) w := by
  simp [Instr.fieldAt, Try.runUnderlying104, Instr.sureAddr, fieldPlace, Try.sizeOf38, Sem.run_bind, Sem.run_pure]
set_option maxHeartbeats 8000000 in
theorem rchstep_ok (w0 : World) (F : List Atom) (bm g n c : Nat) (W : List Int) (hW : W.length = n) (hc : n ≤ c) (hn : n ≤ 1073741824) (b : Nat) (al : Option Addr) (cl : Nat) (L : List Int) (h : Int) (q : Bool) (tt : Option Addr) (nt ct : Nat) (T : List Int) (hT : T.length = nt) (hL : L.length ≤ 8589934592) (hLb : I64s L) (hal : L.length = 0 ∨ ∃ g, al = some ⟨g, 0, none⟩) (htt : nt = 0 ∨ ∃ g, tt = some ⟨g, 0, none⟩) (hok : ChOk L.length h q nt) :
    CallK Try.prog 53 [.pointer (some ⟨b, 0, none⟩), .pointer (some ⟨bm, 0, none⟩)] w0 (Blk bm (.cells [Value.slice (some ⟨g, 0, none⟩) n c].toArray 67 (0, 0)) :: Own 51 1 (.slice (some ⟨g, 0, none⟩) n c) n (ints .u32 W) :: Blk b (.cells [Value.slice al L.length cl, .int .i64 h, .bool q, .slice tt nt ct].toArray 104 (0, 0)) :: Own 3 1 (.slice al L.length cl) L.length (ints .i64 L) :: Own 51 1 (.slice tt nt ct) nt (ints .u32 T) :: F) (Gives w0 fun v F2 => ∃ d e W2 h2 q2 tt2 nt2 ct2 T2, v = .tuple #[.bool d, .int .i64 e] ∧ W2.length = n ∧ F2 = Blk bm (.cells [Value.slice (some ⟨g, 0, none⟩) n c].toArray 67 (0, 0)) :: Own 51 1 (.slice (some ⟨g, 0, none⟩) n c) n (ints .u32 W2) :: Blk b (.cells [Value.slice al L.length cl, .int .i64 h2, .bool q2, .slice tt2 nt2 ct2].toArray 104 (0, 0)) :: Own 3 1 (.slice al L.length cl) L.length (ints .i64 L) :: Own 51 1 (.slice tt2 nt2 ct2) nt2 (ints .u32 T2) :: F ∧ T2.length = nt2 ∧ (nt2 = 0 ∨ ∃ g, tt2 = some ⟨g, 0, none⟩) ∧ StepG n W L h q T d e W2 h2 q2 T2) := by
  obtain ⟨h0, h1, hq1, hq0⟩ := id hok
  refine c_enter Try.func53 rfl rfl rfl ?_
  refine g_seq ?_
  refine g_region ?_
  refine l_assign rfl rfl ?_
  refine l_assign rfl rfl ?_
  refine l_nil ?_
  refine g_seq ?_
  refine g_seq ?_
  refine g_region ?_
  refine l_move rfl rfl ?_
  refine l_eqpn rfl Try.underlying93 rfl rfl ?_
  refine l_move rfl rfl ?_
  refine l_guard_yes rfl rfl ?_
  refine l_move rfl rfl ?_
  refine l_guard_yes rfl rfl ?_
  refine l_eqpn rfl Try.underlying56 rfl rfl ?_
  refine l_pick_f rfl rfl rfl ?_
  refine l_nil ?_
  first | refine g_cond_f rfl ?_ | refine g_cond_f (congrArg (fun b => some (Value.bool b)) (decide_eq_false hbr)) ?_
  refine g_skip ?_
  refine g_seq ?_
  refine g_seq ?_
  refine gp_start mo (by kernel_rfl) (by kernel_rfl) ?_
  refine gp_quiet 0 rfl rfl rfl rfl rfl rfl (q_move rfl) ?_
  refine gp_quiet 1 rfl rfl rfl rfl rfl rfl (q_nilCheck rfl) ?_
  refine gp_quiet 2 rfl rfl rfl rfl rfl rfl (q_fieldAddr fa_104_1 rfl) ?_
  first | refine gp_quiet 3 rfl rfl rfl rfl rfl rfl (q_ld Try.isAgg3 rfl rfl) ?_ | refine gp_quiet 3 rfl rfl rfl rfl rfl rfl (q_ldw Try.isAgg3 rfl (by omega)) ?_
  refine gp_quiet 4 rfl rfl rfl rfl rfl rfl (q_move rfl) ?_
  refine gp_quiet 5 rfl rfl rfl rfl rfl rfl (q_nilCheck rfl) ?_
  refine gp_quiet 6 rfl rfl rfl rfl rfl rfl (q_fieldAddr fa_104_0 rfl) ?_
  refine gp_quiet 7 rfl rfl rfl rfl rfl rfl (q_ld Try.isAgg23 rfl rfl) ?_
  refine gp_quiet 8 rfl rfl rfl rfl rfl rfl (q_len Try.underlying23 rfl) ?_
  refine gp_quiet 9 rfl rfl rfl rfl rfl rfl (q_eql rfl rfl) ?_
  refine gp_end rfl rfl ?_
  refine g_cond rfl ?_ ?_
  · intro hbr
    have hbr := of_decide_eq_true hbr
    refine g_seq ?_
    refine g_region ?_
    refine l_assign rfl rfl ?_
    refine l_assign rfl rfl ?_
    refine l_nil ?_
    refine g_ret Try.func53 rfl (.tmp rfl (.tmp rfl .nil)) ?_
    (first | exact Gives.mki ⟨false, 0, W, h, q, tt, nt, ct, T, rfl, hW, rfl, hT, htt, .inl ⟨by omega, rfl, rfl, rfl, rfl, rfl, rfl⟩⟩ | exact Gives.mki ⟨false, e1, W1, h, q, tt, nt, ct, T, rfl, hW1, rfl, hT, htt, .inr (.inr ⟨hne, hqf, rfl, k1, hTk, .inr ⟨by omega, rfl, rfl, rfl⟩⟩)⟩ | exact Gives.mki ⟨true, 0, W1, h, true, a61, nt + 1, c61, T ++ [k1], rfl, hW1, rfl, by rw [List.length_append, hT]; rfl, ha61, .inr (.inr ⟨hne, hqf, rfl, k1, (show e1 = 0 by omega) ▸ hTk, .inl ⟨rfl, rfl, rfl, rfl⟩⟩)⟩ | exact Gives.mki ⟨false, e1, W, h, q, some ⟨gt, 0, none⟩, nt, ct, T, rfl, hW, rfl, hT, .inr ⟨_, rfl⟩, .inr (.inl ⟨hne, hqt, rfl, rfl, hmf ▸ hMi, .inr ⟨rfl, rfl, rfl⟩⟩)⟩ | exact Gives.mki ⟨true, 0, W, h + 1, false, some ⟨gt, 0, none⟩, nt, ct, T, rfl, hW, rfl, hT, .inr ⟨_, rfl⟩, .inr (.inl ⟨hne, hqt, rfl, rfl, (by have h9 := hMi; rw [hmt, show e1 = 0 by omega] at h9; exact h9), .inl ⟨rfl, rfl, rfl⟩⟩)⟩)
  intro hbr
  have hbr := of_decide_eq_false hbr
  refine g_skip ?_
  refine g_seq ?_
  refine gp_start mo (by kernel_rfl) (by kernel_rfl) ?_
  have hne : h ≠ L.length := (by omega)
  obtain ⟨gl, rfl⟩ := hal.resolve_left (by omega)
  refine gp_quiet 0 rfl rfl rfl rfl rfl rfl (q_move rfl) ?_
  refine gp_quiet 1 rfl rfl rfl rfl rfl rfl (q_nilCheck rfl) ?_
  refine gp_quiet 2 rfl rfl rfl rfl rfl rfl (q_fieldAddr fa_104_0 rfl) ?_
  refine gp_quiet 3 rfl rfl rfl rfl rfl rfl (q_ld Try.isAgg23 rfl rfl) ?_
  refine gp_quiet 4 rfl rfl rfl rfl rfl rfl (q_move rfl) ?_
  refine gp_quiet 5 rfl rfl rfl rfl rfl rfl (q_nilCheck rfl) ?_
  refine gp_quiet 6 rfl rfl rfl rfl rfl rfl (q_fieldAddr fa_104_1 rfl) ?_
  first | refine gp_quiet 7 rfl rfl rfl rfl rfl rfl (q_ld Try.isAgg3 rfl rfl) ?_ | refine gp_quiet 7 rfl rfl rfl rfl rfl rfl (q_ldw Try.isAgg3 rfl (by omega)) ?_
  refine gp_quiet 8 rfl rfl rfl rfl rfl rfl (q_ixs Try.underlying23 Try.sizeOf3 rfl rfl (by omega) (by omega)) ?_
  refine gp_quiet 9 rfl rfl rfl rfl rfl rfl (q_ldw Try.isAgg3 rfl (by omega)) ?_
  refine gp_quiet 10 rfl rfl rfl rfl rfl rfl (q_assign rfl) ?_
  refine gp_end rfl rfl ?_
  refine g_seq ?_
  refine g_seq ?_
  refine g_region ?_
  refine l_move rfl rfl ?_
  refine l_nilCheck rfl rfl ?_
  refine l_fieldAddr rfl fa_104_2 rfl ?_
  refine l_ld rfl Try.isAgg4 rfl rfl ?_
  refine l_not rfl rfl ?_
  refine l_nil ?_
  refine g_cond rfl ?_ ?_
  · intro hbr
    have hb41 := hbr
    refine g_seq ?_
    refine g_region ?_
    have hqf : q = false := (by simpa using hbr)
    have hnt := hq0 hqf
    refine l_move rfl rfl ?_
    refine l_move rfl rfl ?_
    refine l_fronto g ?_
    refine l_frontb bm ?_
    refine l_call rfl Try.call38 rfl (rltake_ok _ _ bm g n c W hW hc hn (L.getD h.toNat 0) (hLb _).1 (hLb _).2) ?_; rintro _ _ ⟨k1, e1, W1, rfl, hW1, rfl, hTk⟩
    refine l_move rfl rfl ?_
    refine l_extract rfl rfl rfl ?_
    refine l_extract rfl rfl rfl ?_
    refine l_assign rfl rfl ?_
    refine l_assign rfl rfl ?_
    refine l_nil ?_
    refine g_seq ?_
    refine g_seq ?_
    refine g_region ?_
    refine l_move rfl rfl ?_
    refine l_neq rfl rfl rfl ?_
    refine l_nil ?_
    refine g_cond rfl ?_ ?_
    · intro hbr
      have hbr := of_decide_eq_true hbr
      refine g_seq ?_
      refine g_region ?_
      refine l_move rfl rfl ?_
      refine l_assign rfl rfl ?_
      refine l_assign rfl rfl ?_
      refine l_nil ?_
      refine g_ret Try.func53 rfl (.tmp rfl (.tmp rfl .nil)) ?_
      (first | exact Gives.mki ⟨false, 0, W, h, q, tt, nt, ct, T, rfl, hW, rfl, hT, htt, .inl ⟨by omega, rfl, rfl, rfl, rfl, rfl, rfl⟩⟩ | exact Gives.mki ⟨false, e1, W1, h, q, tt, nt, ct, T, rfl, hW1, rfl, hT, htt, .inr (.inr ⟨hne, hqf, rfl, k1, hTk, .inr ⟨by omega, rfl, rfl, rfl⟩⟩)⟩ | exact Gives.mki ⟨true, 0, W1, h, true, a61, nt + 1, c61, T ++ [k1], rfl, hW1, rfl, by rw [List.length_append, hT]; rfl, ha61, .inr (.inr ⟨hne, hqf, rfl, k1, (show e1 = 0 by omega) ▸ hTk, .inl ⟨rfl, rfl, rfl, rfl⟩⟩)⟩ | exact Gives.mki ⟨false, e1, W, h, q, some ⟨gt, 0, none⟩, nt, ct, T, rfl, hW, rfl, hT, .inr ⟨_, rfl⟩, .inr (.inl ⟨hne, hqt, rfl, rfl, hmf ▸ hMi, .inr ⟨rfl, rfl, rfl⟩⟩)⟩ | exact Gives.mki ⟨true, 0, W, h + 1, false, some ⟨gt, 0, none⟩, nt, ct, T, rfl, hW, rfl, hT, .inr ⟨_, rfl⟩, .inr (.inl ⟨hne, hqt, rfl, rfl, (by have h9 := hMi; rw [hmt, show e1 = 0 by omega] at h9; exact h9), .inl ⟨rfl, rfl, rfl⟩⟩)⟩)
    intro hbr
    have hbr := of_decide_eq_false hbr
    refine g_skip ?_
    refine g_seq ?_
    refine g_region ?_
    refine l_move rfl rfl ?_
    refine l_nilCheck rfl rfl ?_
    refine l_fieldAddr rfl fa_104_2 rfl ?_
    refine l_st Try.sizeOf4 rfl rfl rfl rfl ?_
    refine l_nil ?_
    refine g_seq ?_
    refine g_region ?_
    refine l_move rfl rfl ?_
    refine l_move rfl rfl ?_
    refine l_nilCheck rfl rfl ?_
    refine l_fieldAddr rfl fa_104_3 rfl ?_
    refine l_ld rfl Try.isAgg38 rfl rfl ?_
    refine l_move rfl rfl ?_
    refine l_frontv (.slice tt nt ct) ?_
    refine l_buildSlice rfl Try.underlying38 Try.sizeOf51 Try.zeroValue51 rfl rfl rfl rfl rfl rfl ?_; intro b60
    refine l_does rfl (does_apps 1 (by_ := 4) (kd := .u32) (V := T) (W := [k1]) (m := nt) (m2 := 1) (m3 := nt + 1) (V3 := T ++ [k1]) Try.underlying38 Try.type51 rfl rfl rfl rfl rfl rfl rfl ⟨rfl, .inl ⟨_, _, _, rfl, .own (mem_getO 0 rfl)⟩⟩ (by omega) (by simp only [maxLen]; omega) rfl rfl (fun _ _ => rfl)) ?_
    rintro _ _ ⟨a61, c61, ha61, hn61, rfl, rfl⟩
    refine l_nilCheck rfl rfl ?_
    refine l_fieldAddr rfl fa_104_3 rfl ?_
    refine l_st Try.sizeOf38 rfl rfl rfl rfl ?_
    refine l_nil ?_
    refine g_seq ?_
    refine g_region ?_
    refine l_assign rfl rfl ?_
    refine l_assign rfl rfl ?_
    refine l_nil ?_
    refine g_ret Try.func53 rfl (.tmp rfl (.tmp rfl .nil)) ?_
    (first | exact Gives.mki ⟨false, 0, W, h, q, tt, nt, ct, T, rfl, hW, rfl, hT, htt, .inl ⟨by omega, rfl, rfl, rfl, rfl, rfl, rfl⟩⟩ | exact Gives.mki ⟨false, e1, W1, h, q, tt, nt, ct, T, rfl, hW1, rfl, hT, htt, .inr (.inr ⟨hne, hqf, rfl, k1, hTk, .inr ⟨by omega, rfl, rfl, rfl⟩⟩)⟩ | exact Gives.mki ⟨true, 0, W1, h, true, a61, nt + 1, c61, T ++ [k1], rfl, hW1, rfl, by rw [List.length_append, hT]; rfl, ha61, .inr (.inr ⟨hne, hqf, rfl, k1, (show e1 = 0 by omega) ▸ hTk, .inl ⟨rfl, rfl, rfl, rfl⟩⟩)⟩ | exact Gives.mki ⟨false, e1, W, h, q, some ⟨gt, 0, none⟩, nt, ct, T, rfl, hW, rfl, hT, .inr ⟨_, rfl⟩, .inr (.inl ⟨hne, hqt, rfl, rfl, hmf ▸ hMi, .inr ⟨rfl, rfl, rfl⟩⟩)⟩ | exact Gives.mki ⟨true, 0, W, h + 1, false, some ⟨gt, 0, none⟩, nt, ct, T, rfl, hW, rfl, hT, .inr ⟨_, rfl⟩, .inr (.inl ⟨hne, hqt, rfl, rfl, (by have h9 := hMi; rw [hmt, show e1 = 0 by omega] at h9; exact h9), .inl ⟨rfl, rfl, rfl⟩⟩)⟩)
  intro hbr
  have hb41 := hbr
  refine g_skip ?_
  refine g_seq ?_
  refine gp_start mo (by kernel_rfl) (by kernel_rfl) ?_
  have hqt : q = true := (by simpa using hbr)
  have hnt := hq1 hqt
  obtain ⟨gt, rfl⟩ := htt.resolve_left (by omega)
  refine gp_quiet 0 rfl rfl rfl rfl rfl rfl (q_move rfl) ?_
  refine gp_quiet 1 rfl rfl rfl rfl rfl rfl (q_move rfl) ?_
  refine gp_quiet 2 rfl rfl rfl rfl rfl rfl (q_move rfl) ?_
  refine gp_quiet 3 rfl rfl rfl rfl rfl rfl (q_nilCheck rfl) ?_
  refine gp_quiet 4 rfl rfl rfl rfl rfl rfl (q_fieldAddr fa_104_3 rfl) ?_
  refine gp_quiet 5 rfl rfl rfl rfl rfl rfl (q_ld Try.isAgg38 rfl rfl) ?_
  refine gp_quiet 6 rfl rfl rfl rfl rfl rfl (q_move rfl) ?_
  refine gp_quiet 7 rfl rfl rfl rfl rfl rfl (q_nilCheck rfl) ?_
  refine gp_quiet 8 rfl rfl rfl rfl rfl rfl (q_fieldAddr fa_104_1 rfl) ?_
  first | refine gp_quiet 9 rfl rfl rfl rfl rfl rfl (q_ld Try.isAgg3 rfl rfl) ?_ | refine gp_quiet 9 rfl rfl rfl rfl rfl rfl (q_ldw Try.isAgg3 rfl (by omega)) ?_
  refine gp_quiet 10 rfl rfl rfl rfl rfl rfl (q_ixs Try.underlying38 Try.sizeOf51 rfl rfl (by omega) (by omega)) ?_
  refine gp_quiet 11 rfl rfl rfl rfl rfl rfl (q_ldw Try.isAgg51 rfl (by omega)) ?_
  refine gp_fronto g ?_
  refine gp_frontb bm ?_
  refine gp_effa 12 [0, 1, 11] [10, 9, 8, 7, 6, 5, 4, 3, 2] rfl rfl rfl rfl rfl rfl rfl (does_call Try.call40 rfl (rlmine_ok _ _ bm g n c W hW hc hn (L.getD h.toNat 0) (hLb _).1 (hLb _).2 (T.getD h.toNat 0))) ?_
  rintro _ _ ⟨mi, e1, rfl, rfl, hMi⟩
  refine ⟨?_, ?_⟩
  · refine .cons rfl rfl rfl rfl rfl (q_ixs Try.underlying38 Try.sizeOf51 rfl rfl (by omega) (by omega)) ?_
    first | refine .cons rfl rfl rfl rfl rfl (q_ld Try.isAgg3 rfl rfl) ?_ | refine .cons rfl rfl rfl rfl rfl (q_ldw Try.isAgg3 rfl (by omega)) ?_
    refine .cons rfl rfl rfl rfl rfl (q_fieldAddr fa_104_1 rfl) ?_
    refine .cons rfl rfl rfl rfl rfl (q_nilCheck rfl) ?_
    refine .cons rfl rfl rfl rfl rfl (q_move rfl) ?_
    refine .cons rfl rfl rfl rfl rfl (q_ld Try.isAgg38 rfl rfl) ?_
    refine .cons rfl rfl rfl rfl rfl (q_fieldAddr fa_104_3 rfl) ?_
    refine .cons rfl rfl rfl rfl rfl (q_nilCheck rfl) ?_
    refine .cons rfl rfl rfl rfl rfl (q_move rfl) ?_
    exact .nil
  refine gp_quiet 13 rfl rfl rfl rfl rfl rfl (q_move rfl) ?_
  refine gp_quiet 14 rfl rfl rfl rfl rfl rfl (q_extract rfl rfl) ?_
  refine gp_quiet 15 rfl rfl rfl rfl rfl rfl (q_extract rfl rfl) ?_
  refine gp_quiet 16 rfl rfl rfl rfl rfl rfl (q_assign rfl) ?_
  refine gp_quiet 17 rfl rfl rfl rfl rfl rfl (q_assign rfl) ?_
  refine gp_end rfl rfl ?_
  refine g_seq ?_
  refine g_seq ?_
  refine g_region ?_
  refine l_move rfl rfl ?_
  refine l_neq rfl rfl rfl ?_
  refine l_move rfl rfl ?_
  refine l_split 82 rfl ?_ ?_
  · intro hbr
    have hbr := of_decide_eq_true hbr
    refine l_guard_no rfl rfl rfl ?_
    refine l_guard_no rfl rfl rfl ?_
    refine l_pick_t rfl rfl rfl ?_
    refine l_nil ?_
    first | refine g_cond_t rfl ?_ | refine g_cond_t (congrArg (fun b => some (Value.bool b)) (decide_eq_true hbr)) ?_
    refine g_seq ?_
    refine g_region ?_
    have hmf : mi = false := (by rcases hMi with ⟨_, _, h9⟩ | ⟨h9, _⟩ <;> first | exact h9 | (exfalso; omega) | simp_all)
    refine l_move rfl rfl ?_
    refine l_assign rfl rfl ?_
    refine l_assign rfl rfl ?_
    refine l_nil ?_
    refine g_ret Try.func53 rfl (.tmp rfl (.tmp rfl .nil)) ?_
    (first | exact Gives.mki ⟨false, 0, W, h, q, tt, nt, ct, T, rfl, hW, rfl, hT, htt, .inl ⟨by omega, rfl, rfl, rfl, rfl, rfl, rfl⟩⟩ | exact Gives.mki ⟨false, e1, W1, h, q, tt, nt, ct, T, rfl, hW1, rfl, hT, htt, .inr (.inr ⟨hne, hqf, rfl, k1, hTk, .inr ⟨by omega, rfl, rfl, rfl⟩⟩)⟩ | exact Gives.mki ⟨true, 0, W1, h, true, a61, nt + 1, c61, T ++ [k1], rfl, hW1, rfl, by rw [List.length_append, hT]; rfl, ha61, .inr (.inr ⟨hne, hqf, rfl, k1, (show e1 = 0 by omega) ▸ hTk, .inl ⟨rfl, rfl, rfl, rfl⟩⟩)⟩ | exact Gives.mki ⟨false, e1, W, h, q, some ⟨gt, 0, none⟩, nt, ct, T, rfl, hW, rfl, hT, .inr ⟨_, rfl⟩, .inr (.inl ⟨hne, hqt, rfl, rfl, hmf ▸ hMi, .inr ⟨rfl, rfl, rfl⟩⟩)⟩ | exact Gives.mki ⟨true, 0, W, h + 1, false, some ⟨gt, 0, none⟩, nt, ct, T, rfl, hW, rfl, hT, .inr ⟨_, rfl⟩, .inr (.inl ⟨hne, hqt, rfl, rfl, (by have h9 := hMi; rw [hmt, show e1 = 0 by omega] at h9; exact h9), .inl ⟨rfl, rfl, rfl⟩⟩)⟩)
  intro hbr
  have hbr := of_decide_eq_false hbr
  refine l_guard_yes rfl rfl ?_
  refine l_move rfl rfl ?_
  refine l_guard_yes rfl rfl ?_
  refine l_not rfl rfl ?_
  refine l_pick_f rfl rfl rfl ?_
  refine l_nil ?_
  refine g_cond rfl ?_ ?_
  · intro hbr
    have hb85 := hbr
    refine g_seq ?_
    refine g_region ?_
    have hmf : mi = false := (by rcases hMi with ⟨_, _, h9⟩ | ⟨h9, _⟩ <;> first | exact h9 | (exfalso; omega) | simp_all)
    refine l_move rfl rfl ?_
    refine l_assign rfl rfl ?_
    refine l_assign rfl rfl ?_
    refine l_nil ?_
    refine g_ret Try.func53 rfl (.tmp rfl (.tmp rfl .nil)) ?_
    (first | exact Gives.mki ⟨false, 0, W, h, q, tt, nt, ct, T, rfl, hW, rfl, hT, htt, .inl ⟨by omega, rfl, rfl, rfl, rfl, rfl, rfl⟩⟩ | exact Gives.mki ⟨false, e1, W1, h, q, tt, nt, ct, T, rfl, hW1, rfl, hT, htt, .inr (.inr ⟨hne, hqf, rfl, k1, hTk, .inr ⟨by omega, rfl, rfl, rfl⟩⟩)⟩ | exact Gives.mki ⟨true, 0, W1, h, true, a61, nt + 1, c61, T ++ [k1], rfl, hW1, rfl, by rw [List.length_append, hT]; rfl, ha61, .inr (.inr ⟨hne, hqf, rfl, k1, (show e1 = 0 by omega) ▸ hTk, .inl ⟨rfl, rfl, rfl, rfl⟩⟩)⟩ | exact Gives.mki ⟨false, e1, W, h, q, some ⟨gt, 0, none⟩, nt, ct, T, rfl, hW, rfl, hT, .inr ⟨_, rfl⟩, .inr (.inl ⟨hne, hqt, rfl, rfl, hmf ▸ hMi, .inr ⟨rfl, rfl, rfl⟩⟩)⟩ | exact Gives.mki ⟨true, 0, W, h + 1, false, some ⟨gt, 0, none⟩, nt, ct, T, rfl, hW, rfl, hT, .inr ⟨_, rfl⟩, .inr (.inl ⟨hne, hqt, rfl, rfl, (by have h9 := hMi; rw [hmt, show e1 = 0 by omega] at h9; exact h9), .inl ⟨rfl, rfl, rfl⟩⟩)⟩)
  intro hbr
  have hb85 := hbr
  refine g_skip ?_
  refine g_seq ?_
  refine g_region ?_
  have hmt : mi = true := (by first | (simpa using hbr) | simp_all)
  refine l_move rfl rfl ?_
  refine l_nilCheck rfl rfl ?_
  refine l_fieldAddr rfl fa_104_1 rfl ?_
  first | refine l_ld rfl Try.isAgg3 rfl rfl ?_ | refine l_ldw rfl Try.isAgg3 rfl (by omega) ?_
  first | refine l_add rfl rfl rfl (w_i64 (by omega) (by omega)) ?_ | refine l_addw rfl rfl rfl ?_
  refine l_nilCheck rfl rfl ?_
  refine l_fieldAddr rfl fa_104_1 rfl ?_
  first | refine l_st Try.sizeOf3 rfl rfl rfl rfl ?_ | refine l_stw Try.sizeOf3 rfl rfl (by omega) ?_
  refine l_nil ?_
  refine g_seq ?_
  refine g_region ?_
  refine l_move rfl rfl ?_
  refine l_nilCheck rfl rfl ?_
  refine l_fieldAddr rfl fa_104_2 rfl ?_
  refine l_st Try.sizeOf4 rfl rfl rfl rfl ?_
  refine l_nil ?_
  refine g_seq ?_
  refine g_region ?_
  refine l_assign rfl rfl ?_
  refine l_assign rfl rfl ?_
  refine l_nil ?_
  refine g_ret Try.func53 rfl (.tmp rfl (.tmp rfl .nil)) ?_
  (first | exact Gives.mki ⟨false, 0, W, h, q, tt, nt, ct, T, rfl, hW, rfl, hT, htt, .inl ⟨by omega, rfl, rfl, rfl, rfl, rfl, rfl⟩⟩ | exact Gives.mki ⟨false, e1, W1, h, q, tt, nt, ct, T, rfl, hW1, rfl, hT, htt, .inr (.inr ⟨hne, hqf, rfl, k1, hTk, .inr ⟨by omega, rfl, rfl, rfl⟩⟩)⟩ | exact Gives.mki ⟨true, 0, W1, h, true, a61, nt + 1, c61, T ++ [k1], rfl, hW1, rfl, by rw [List.length_append, hT]; rfl, ha61, .inr (.inr ⟨hne, hqf, rfl, k1, (show e1 = 0 by omega) ▸ hTk, .inl ⟨rfl, rfl, rfl, rfl⟩⟩)⟩ | exact Gives.mki ⟨false, e1, W, h, q, some ⟨gt, 0, none⟩, nt, ct, T, rfl, hW, rfl, hT, .inr ⟨_, rfl⟩, .inr (.inl ⟨hne, hqt, rfl, rfl, hmf ▸ hMi, .inr ⟨rfl, rfl, rfl⟩⟩)⟩ | exact Gives.mki ⟨true, 0, W, h + 1, false, some ⟨gt, 0, none⟩, nt, ct, T, rfl, hW, rfl, hT, .inr ⟨_, rfl⟩, .inr (.inl ⟨hne, hqt, rfl, rfl, (by have h9 := hMi; rw [hmt, show e1 = 0 by omega] at h9; exact h9), .inl ⟨rfl, rfl, rfl⟩⟩)⟩)
set_option maxHeartbeats 8000000 in
theorem rchback_ok (w0 : World) (F : List Atom) (bm g n c : Nat) (W : List Int) (hW : W.length = n) (hc : n ≤ c) (hn : n ≤ 1073741824) (b : Nat) (al : Option Addr) (cl : Nat) (L : List Int) (h : Int) (q : Bool) (tt : Option Addr) (nt ct : Nat) (T : List Int) (hT : T.length = nt) (hL : L.length ≤ 8589934592) (hLb : I64s L) (hal : L.length = 0 ∨ ∃ g, al = some ⟨g, 0, none⟩) (htt : nt = 0 ∨ ∃ g, tt = some ⟨g, 0, none⟩) (hok : ChOk L.length h q nt) :
    CallK Try.prog 54 [.pointer (some ⟨b, 0, none⟩), .pointer (some ⟨bm, 0, none⟩)] w0 (Blk bm (.cells [Value.slice (some ⟨g, 0, none⟩) n c].toArray 67 (0, 0)) :: Own 51 1 (.slice (some ⟨g, 0, none⟩) n c) n (ints .u32 W) :: Blk b (.cells [Value.slice al L.length cl, .int .i64 h, .bool q, .slice tt nt ct].toArray 104 (0, 0)) :: Own 3 1 (.slice al L.length cl) L.length (ints .i64 L) :: Own 51 1 (.slice tt nt ct) nt (ints .u32 T) :: F) (Gives w0 fun v F2 => ∃ d e W2 h2 q2 tt2 nt2 ct2 T2, v = .tuple #[.bool d, .int .i64 e] ∧ W2.length = n ∧ F2 = Blk bm (.cells [Value.slice (some ⟨g, 0, none⟩) n c].toArray 67 (0, 0)) :: Own 51 1 (.slice (some ⟨g, 0, none⟩) n c) n (ints .u32 W2) :: Blk b (.cells [Value.slice al L.length cl, .int .i64 h2, .bool q2, .slice tt2 nt2 ct2].toArray 104 (0, 0)) :: Own 3 1 (.slice al L.length cl) L.length (ints .i64 L) :: Own 51 1 (.slice tt2 nt2 ct2) nt2 (ints .u32 T2) :: F ∧ T2.length = nt2 ∧ (nt2 = 0 ∨ ∃ g, tt2 = some ⟨g, 0, none⟩) ∧ BackG n W L h q T d e W2 h2 q2 T2) := by
  obtain ⟨h0, h1, hq1, hq0⟩ := id hok
  refine c_enter Try.func54 rfl rfl rfl ?_
  refine g_seq ?_
  refine g_region ?_
  refine l_assign rfl rfl ?_
  refine l_assign rfl rfl ?_
  refine l_nil ?_
  refine g_seq ?_
  refine g_seq ?_
  refine g_region ?_
  refine l_move rfl rfl ?_
  refine l_eqpn rfl Try.underlying93 rfl rfl ?_
  refine l_move rfl rfl ?_
  refine l_guard_yes rfl rfl ?_
  refine l_move rfl rfl ?_
  refine l_guard_yes rfl rfl ?_
  refine l_eqpn rfl Try.underlying56 rfl rfl ?_
  refine l_pick_f rfl rfl rfl ?_
  refine l_nil ?_
  first | refine g_cond_f rfl ?_ | refine g_cond_f (congrArg (fun b => some (Value.bool b)) (decide_eq_false hbr)) ?_
  refine g_skip ?_
  refine g_seq ?_
  refine g_seq ?_
  refine g_region ?_
  refine l_move rfl rfl ?_
  refine l_nilCheck rfl rfl ?_
  refine l_fieldAddr rfl fa_104_2 rfl ?_
  refine l_ld rfl Try.isAgg4 rfl rfl ?_
  refine l_nil ?_
  refine g_cond rfl ?_ ?_
  · intro hbr
    have hb16 := hbr
    refine g_seq ?_
    refine g_region ?_
    have hqt : q = true := hbr
    refine l_assign rfl rfl ?_
    refine l_assign rfl rfl ?_
    refine l_nil ?_
    refine g_ret Try.func54 rfl (.tmp rfl (.tmp rfl .nil)) ?_
    (first | exact Gives.mki ⟨false, 170, W, h, q, tt, nt, ct, T, rfl, hW, rfl, hT, htt, rfl, .inl ⟨hqt, rfl, rfl, rfl, rfl, rfl⟩⟩ | exact Gives.mki ⟨true, 0, W, h, q, tt, nt, ct, T, rfl, hW, rfl, hT, htt, rfl, .inr (.inl ⟨hqf, by omega, rfl, rfl, rfl, rfl, rfl⟩)⟩ | exact Gives.mki ⟨false, e1, W1, h, q, some ⟨gt, 0, none⟩, nt, ct, T, rfl, hW1, rfl, hT, .inr ⟨_, rfl⟩, rfl, .inr (.inr ⟨hqf, hh9, hFr, .inl ⟨by omega, rfl, rfl, rfl⟩⟩)⟩ | exact Gives.mki ⟨_, 0, W1, h - 1, q, some ⟨gt, 0, none⟩, (h - 1).toNat, ct, T.take (h - 1).toNat, rfl, hW1, rfl, by rw [List.length_take]; omega, .inr ⟨_, rfl⟩, rfl, .inr (.inr ⟨hqf, hh9, (show e1 = 0 by omega) ▸ hFr, .inr ⟨rfl, rfl, rfl, rfl⟩⟩)⟩)
  intro hbr
  have hb16 := hbr
  refine g_skip ?_
  refine g_seq ?_
  refine g_seq ?_
  refine g_region ?_
  have hqf : q = false := hbr
  refine l_move rfl rfl ?_
  refine l_nilCheck rfl rfl ?_
  refine l_fieldAddr rfl fa_104_1 rfl ?_
  first | refine l_ld rfl Try.isAgg3 rfl rfl ?_ | refine l_ldw rfl Try.isAgg3 rfl (by omega) ?_
  refine l_eql rfl rfl rfl ?_
  refine l_nil ?_
  refine g_cond rfl ?_ ?_
  · intro hbr
    have hbr := of_decide_eq_true hbr
    refine g_seq ?_
    refine g_region ?_
    refine l_assign rfl rfl ?_
    refine l_assign rfl rfl ?_
    refine l_nil ?_
    refine g_ret Try.func54 rfl (.tmp rfl (.tmp rfl .nil)) ?_
    (first | exact Gives.mki ⟨false, 170, W, h, q, tt, nt, ct, T, rfl, hW, rfl, hT, htt, rfl, .inl ⟨hqt, rfl, rfl, rfl, rfl, rfl⟩⟩ | exact Gives.mki ⟨true, 0, W, h, q, tt, nt, ct, T, rfl, hW, rfl, hT, htt, rfl, .inr (.inl ⟨hqf, by omega, rfl, rfl, rfl, rfl, rfl⟩)⟩ | exact Gives.mki ⟨false, e1, W1, h, q, some ⟨gt, 0, none⟩, nt, ct, T, rfl, hW1, rfl, hT, .inr ⟨_, rfl⟩, rfl, .inr (.inr ⟨hqf, hh9, hFr, .inl ⟨by omega, rfl, rfl, rfl⟩⟩)⟩ | exact Gives.mki ⟨_, 0, W1, h - 1, q, some ⟨gt, 0, none⟩, (h - 1).toNat, ct, T.take (h - 1).toNat, rfl, hW1, rfl, by rw [List.length_take]; omega, .inr ⟨_, rfl⟩, rfl, .inr (.inr ⟨hqf, hh9, (show e1 = 0 by omega) ▸ hFr, .inr ⟨rfl, rfl, rfl, rfl⟩⟩)⟩)
  intro hbr
  have hbr := of_decide_eq_false hbr
  refine g_skip ?_
  refine g_seq ?_
  refine gp_start mo (by kernel_rfl) (by kernel_rfl) ?_
  have hnt := hq0 hqf
  have hh9 : h ≠ 0 := (by omega)
  obtain ⟨gl, rfl⟩ := hal.resolve_left (by omega)
  obtain ⟨gt, rfl⟩ := htt.resolve_left (by omega)
  refine gp_quiet 0 rfl rfl rfl rfl rfl rfl (q_move rfl) ?_
  refine gp_quiet 1 rfl rfl rfl rfl rfl rfl (q_move rfl) ?_
  refine gp_quiet 2 rfl rfl rfl rfl rfl rfl (q_nilCheck rfl) ?_
  refine gp_quiet 3 rfl rfl rfl rfl rfl rfl (q_fieldAddr fa_104_0 rfl) ?_
  refine gp_quiet 4 rfl rfl rfl rfl rfl rfl (q_ld Try.isAgg23 rfl rfl) ?_
  refine gp_quiet 5 rfl rfl rfl rfl rfl rfl (q_move rfl) ?_
  refine gp_quiet 6 rfl rfl rfl rfl rfl rfl (q_nilCheck rfl) ?_
  refine gp_quiet 7 rfl rfl rfl rfl rfl rfl (q_fieldAddr fa_104_1 rfl) ?_
  first | refine gp_quiet 8 rfl rfl rfl rfl rfl rfl (q_ld Try.isAgg3 rfl rfl) ?_ | refine gp_quiet 8 rfl rfl rfl rfl rfl rfl (q_ldw Try.isAgg3 rfl (by omega)) ?_
  first | refine gp_quiet 9 rfl rfl rfl rfl rfl rfl (q_sub_ rfl rfl (w_i64 (by omega) (by omega))) ?_ | refine gp_quiet 9 rfl rfl rfl rfl rfl rfl (q_subw rfl rfl) ?_
  refine gp_quiet 10 rfl rfl rfl rfl rfl rfl (q_ixs Try.underlying23 Try.sizeOf3 rfl rfl (by omega) (by omega)) ?_
  refine gp_quiet 11 rfl rfl rfl rfl rfl rfl (q_ldw Try.isAgg3 rfl (by omega)) ?_
  refine gp_quiet 12 rfl rfl rfl rfl rfl rfl (q_move rfl) ?_
  refine gp_quiet 13 rfl rfl rfl rfl rfl rfl (q_nilCheck rfl) ?_
  refine gp_quiet 14 rfl rfl rfl rfl rfl rfl (q_fieldAddr fa_104_3 rfl) ?_
  refine gp_quiet 15 rfl rfl rfl rfl rfl rfl (q_ld Try.isAgg38 rfl rfl) ?_
  refine gp_quiet 16 rfl rfl rfl rfl rfl rfl (q_move rfl) ?_
  refine gp_quiet 17 rfl rfl rfl rfl rfl rfl (q_nilCheck rfl) ?_
  refine gp_quiet 18 rfl rfl rfl rfl rfl rfl (q_fieldAddr fa_104_1 rfl) ?_
  first | refine gp_quiet 19 rfl rfl rfl rfl rfl rfl (q_ld Try.isAgg3 rfl rfl) ?_ | refine gp_quiet 19 rfl rfl rfl rfl rfl rfl (q_ldw Try.isAgg3 rfl (by omega)) ?_
  first | refine gp_quiet 20 rfl rfl rfl rfl rfl rfl (q_sub_ rfl rfl (w_i64 (by omega) (by omega))) ?_ | refine gp_quiet 20 rfl rfl rfl rfl rfl rfl (q_subw rfl rfl) ?_
  refine gp_quiet 21 rfl rfl rfl rfl rfl rfl (q_ixs Try.underlying38 Try.sizeOf51 rfl rfl (by omega) (by omega)) ?_
  refine gp_quiet 22 rfl rfl rfl rfl rfl rfl (q_ldw Try.isAgg51 rfl (by omega)) ?_
  refine gp_fronto g ?_
  refine gp_frontb bm ?_
  refine gp_effa 23 [0, 11, 22] [21, 20, 19, 18, 17, 16, 15, 14, 13, 12, 10, 9, 8, 7, 6, 5, 4, 3, 2, 1] rfl rfl rfl rfl rfl rfl rfl (does_call Try.call42 rfl (rlfree_ok _ _ bm g n c W hW hc hn (L.getD (h - 1).toNat 0) (hLb _).1 (hLb _).2 (T.getD (h - 1).toNat 0))) ?_
  rintro _ _ ⟨e1, W1, rfl, hW1, rfl, hFr⟩
  refine ⟨?_, ?_⟩
  · refine .cons rfl rfl rfl rfl rfl (q_ixs Try.underlying38 Try.sizeOf51 rfl rfl (by omega) (by omega)) ?_
    first | refine .cons rfl rfl rfl rfl rfl (q_sub_ rfl rfl (w_i64 (by omega) (by omega))) ?_ | refine .cons rfl rfl rfl rfl rfl (q_subw rfl rfl) ?_
    first | refine .cons rfl rfl rfl rfl rfl (q_ld Try.isAgg3 rfl rfl) ?_ | refine .cons rfl rfl rfl rfl rfl (q_ldw Try.isAgg3 rfl (by omega)) ?_
    refine .cons rfl rfl rfl rfl rfl (q_fieldAddr fa_104_1 rfl) ?_
    refine .cons rfl rfl rfl rfl rfl (q_nilCheck rfl) ?_
    refine .cons rfl rfl rfl rfl rfl (q_move rfl) ?_
    refine .cons rfl rfl rfl rfl rfl (q_ld Try.isAgg38 rfl rfl) ?_
    refine .cons rfl rfl rfl rfl rfl (q_fieldAddr fa_104_3 rfl) ?_
    refine .cons rfl rfl rfl rfl rfl (q_nilCheck rfl) ?_
    refine .cons rfl rfl rfl rfl rfl (q_move rfl) ?_
    refine .cons rfl rfl rfl rfl rfl (q_ixs Try.underlying23 Try.sizeOf3 rfl rfl (by omega) (by omega)) ?_
    first | refine .cons rfl rfl rfl rfl rfl (q_sub_ rfl rfl (w_i64 (by omega) (by omega))) ?_ | refine .cons rfl rfl rfl rfl rfl (q_subw rfl rfl) ?_
    first | refine .cons rfl rfl rfl rfl rfl (q_ld Try.isAgg3 rfl rfl) ?_ | refine .cons rfl rfl rfl rfl rfl (q_ldw Try.isAgg3 rfl (by omega)) ?_
    refine .cons rfl rfl rfl rfl rfl (q_fieldAddr fa_104_1 rfl) ?_
    refine .cons rfl rfl rfl rfl rfl (q_nilCheck rfl) ?_
    refine .cons rfl rfl rfl rfl rfl (q_move rfl) ?_
    refine .cons rfl rfl rfl rfl rfl (q_ld Try.isAgg23 rfl rfl) ?_
    refine .cons rfl rfl rfl rfl rfl (q_fieldAddr fa_104_0 rfl) ?_
    refine .cons rfl rfl rfl rfl rfl (q_nilCheck rfl) ?_
    refine .cons rfl rfl rfl rfl rfl (q_move rfl) ?_
    exact .nil
  refine gp_quiet 24 rfl rfl rfl rfl rfl rfl (q_assign rfl) ?_
  refine gp_end rfl rfl ?_
  refine g_seq ?_
  refine g_seq ?_
  refine g_region ?_
  refine l_move rfl rfl ?_
  refine l_neq rfl rfl rfl ?_
  refine l_nil ?_
  refine g_cond rfl ?_ ?_
  · intro hbr
    have hbr := of_decide_eq_true hbr
    refine g_seq ?_
    refine g_region ?_
    refine l_move rfl rfl ?_
    refine l_assign rfl rfl ?_
    refine l_assign rfl rfl ?_
    refine l_nil ?_
    refine g_ret Try.func54 rfl (.tmp rfl (.tmp rfl .nil)) ?_
    (first | exact Gives.mki ⟨false, 170, W, h, q, tt, nt, ct, T, rfl, hW, rfl, hT, htt, rfl, .inl ⟨hqt, rfl, rfl, rfl, rfl, rfl⟩⟩ | exact Gives.mki ⟨true, 0, W, h, q, tt, nt, ct, T, rfl, hW, rfl, hT, htt, rfl, .inr (.inl ⟨hqf, by omega, rfl, rfl, rfl, rfl, rfl⟩)⟩ | exact Gives.mki ⟨false, e1, W1, h, q, some ⟨gt, 0, none⟩, nt, ct, T, rfl, hW1, rfl, hT, .inr ⟨_, rfl⟩, rfl, .inr (.inr ⟨hqf, hh9, hFr, .inl ⟨by omega, rfl, rfl, rfl⟩⟩)⟩ | exact Gives.mki ⟨_, 0, W1, h - 1, q, some ⟨gt, 0, none⟩, (h - 1).toNat, ct, T.take (h - 1).toNat, rfl, hW1, rfl, by rw [List.length_take]; omega, .inr ⟨_, rfl⟩, rfl, .inr (.inr ⟨hqf, hh9, (show e1 = 0 by omega) ▸ hFr, .inr ⟨rfl, rfl, rfl, rfl⟩⟩)⟩)
  intro hbr
  have hbr := of_decide_eq_false hbr
  refine g_skip ?_
  refine g_seq ?_
  refine g_region ?_
  refine l_fronto gt ?_
  refine l_fact (own_cases (mem_getO 0 rfl)) ?_; intro hown
  have hct : nt ≤ ct := by
    rcases hown.2.2 with ⟨h, _⟩ | ⟨g9, cp, h, h2⟩
    · cases h
    · cases h
      exact h2
  clear hown
  refine gl_heap (fun w hw => hw.as (own_shrink (k := (h - 1).toNat) (by omega)) (fun b hb => hb)) ?_
  rw [ints_take]
  refine l_move rfl rfl ?_
  refine l_nilCheck rfl rfl ?_
  refine l_fieldAddr rfl fa_104_1 rfl ?_
  first | refine l_ld rfl Try.isAgg3 rfl rfl ?_ | refine l_ldw rfl Try.isAgg3 rfl (by omega) ?_
  first | refine l_sub_ rfl rfl rfl (w_i64 (by omega) (by omega)) ?_ | refine l_subw rfl rfl rfl ?_
  refine l_nilCheck rfl rfl ?_
  refine l_fieldAddr rfl fa_104_1 rfl ?_
  first | refine l_st Try.sizeOf3 rfl rfl rfl rfl ?_ | refine l_stw Try.sizeOf3 rfl rfl (by omega) ?_
  refine l_nil ?_
  refine g_seq ?_
  refine gp_start mo (by kernel_rfl) (by kernel_rfl) ?_
  refine gp_quiet 0 rfl rfl rfl rfl rfl rfl (q_move rfl) ?_
  refine gp_quiet 1 rfl rfl rfl rfl rfl rfl (q_move rfl) ?_
  refine gp_quiet 2 rfl rfl rfl rfl rfl rfl (q_nilCheck rfl) ?_
  refine gp_quiet 3 rfl rfl rfl rfl rfl rfl (q_fieldAddr fa_104_3 rfl) ?_
  refine gp_quiet 4 rfl rfl rfl rfl rfl rfl (q_ld Try.isAgg38 rfl rfl) ?_
  refine gp_quiet 5 rfl rfl rfl rfl rfl rfl (q_move rfl) ?_
  refine gp_quiet 6 rfl rfl rfl rfl rfl rfl (q_nilCheck rfl) ?_
  refine gp_quiet 7 rfl rfl rfl rfl rfl rfl (q_fieldAddr fa_104_1 rfl) ?_
  first | refine gp_quiet 8 rfl rfl rfl rfl rfl rfl (q_ld Try.isAgg3 rfl rfl) ?_ | refine gp_quiet 8 rfl rfl rfl rfl rfl rfl (q_ldw Try.isAgg3 rfl (by omega)) ?_
  refine gp_quiet 9 rfl rfl rfl rfl rfl rfl (q_slice_hi Try.underlying38 Try.sizeOf51 rfl rfl (by omega) (by omega)) ?_
  refine gp_quiet 10 rfl rfl rfl rfl rfl rfl (q_nilCheck rfl) ?_
  refine gp_quiet 11 rfl rfl rfl rfl rfl rfl (q_fieldAddr fa_104_3 rfl) ?_
  refine gp_effa 12 [0, 1, 2, 3, 4, 5, 6, 7, 8, 9, 11] [10] rfl rfl rfl rfl rfl rfl rfl (does_st Try.sizeOf38 rfl rfl rfl rfl) ?_
  rintro _ _ ⟨rfl, rfl⟩
  refine ⟨?_, ?_⟩
  · refine .cons rfl rfl rfl rfl rfl (q_nilCheck rfl) ?_
    exact .nil
  refine gp_end rfl rfl ?_
  refine g_seq ?_
  refine g_region ?_
  refine l_move rfl rfl ?_
  refine l_nilCheck rfl rfl ?_
  refine l_fieldAddr rfl fa_104_1 rfl ?_
  first | refine l_ld rfl Try.isAgg3 rfl rfl ?_ | refine l_ldw rfl Try.isAgg3 rfl (by omega) ?_
  refine l_eql rfl rfl rfl ?_
  refine l_assign rfl rfl ?_
  refine l_assign rfl rfl ?_
  refine l_nil ?_
  refine g_ret Try.func54 rfl (.tmp rfl (.tmp rfl .nil)) ?_
  (first | exact Gives.mki ⟨false, 170, W, h, q, tt, nt, ct, T, rfl, hW, rfl, hT, htt, rfl, .inl ⟨hqt, rfl, rfl, rfl, rfl, rfl⟩⟩ | exact Gives.mki ⟨true, 0, W, h, q, tt, nt, ct, T, rfl, hW, rfl, hT, htt, rfl, .inr (.inl ⟨hqf, by omega, rfl, rfl, rfl, rfl, rfl⟩)⟩ | exact Gives.mki ⟨false, e1, W1, h, q, some ⟨gt, 0, none⟩, nt, ct, T, rfl, hW1, rfl, hT, .inr ⟨_, rfl⟩, rfl, .inr (.inr ⟨hqf, hh9, hFr, .inl ⟨by omega, rfl, rfl, rfl⟩⟩)⟩ | exact Gives.mki ⟨_, 0, W1, h - 1, q, some ⟨gt, 0, none⟩, (h - 1).toNat, ct, T.take (h - 1).toNat, rfl, hW1, rfl, by rw [List.length_take]; omega, .inr ⟨_, rfl⟩, rfl, .inr (.inr ⟨hqf, hh9, (show e1 = 0 by omega) ▸ hFr, .inr ⟨rfl, rfl, rfl, rfl⟩⟩)⟩)
theorem rchstate_ok (w0 : World) (F : List Atom) (b : Nat) (al : Option Addr) (cl : Nat) (L : List Int) (h : Int) (q : Bool) (tt : Option Addr) (nt ct : Nat) (T : List Int) (hT : T.length = nt) (hn : nt ≤ 8589934592) :
    CallK Try.prog 46 [.pointer (some ⟨b, 0, none⟩)] w0 (Blk b (.cells [Value.slice al L.length cl, .int .i64 h, .bool q, .slice tt nt ct].toArray 104 (0, 0)) :: Own 51 1 (.slice tt nt ct) nt (ints .u32 T) :: F) (Gives w0 fun v F2 => ∃ a2 c2, v = .tuple #[.int .i64 h, .bool q, .slice a2 nt c2] ∧ (nt = 0 ∨ ∃ g, a2 = some ⟨g, 0, none⟩) ∧ F2 = Own 51 1 (.slice a2 nt c2) nt (ints .u32 T) :: Blk b (.cells [Value.slice al L.length cl, .int .i64 h, .bool q, .slice tt nt ct].toArray 104 (0, 0)) :: Own 51 1 (.slice tt nt ct) nt (ints .u32 T) :: F) := by
  refine c_enter Try.func46 rfl rfl rfl ?_
  refine g_seq ?_
  refine g_region ?_
  refine l_assign rfl rfl ?_
  refine l_assign rfl rfl ?_
  refine l_assign rfl rfl ?_
  refine l_nil ?_
  refine g_seq ?_
  refine g_seq ?_
  refine g_region ?_
  refine l_move rfl rfl ?_
  refine l_eqpn rfl Try.underlying93 rfl rfl ?_
  refine l_nil ?_
  first | refine g_cond_f rfl ?_ | refine g_cond_f (congrArg (fun b => some (Value.bool b)) (decide_eq_false hbr)) ?_
  refine g_skip ?_
  refine g_seq ?_
  refine g_region ?_
  refine l_assign rfl rfl ?_
  refine l_nil ?_
  refine g_seq ?_
  refine g_region ?_
  refine l_fact (own_cases (mem_getO 1 rfl)) ?_
  intro hown
  refine l_move rfl rfl ?_
  refine l_move rfl rfl ?_
  refine l_nilCheck rfl rfl ?_
  refine l_fieldAddr rfl fa_104_3 rfl ?_
  refine l_ld rfl Try.isAgg38 rfl rfl ?_
  refine l_own_nil 51 1 ?_
  refine l_does rfl (does_apps 0 (by_ := 4) (kd := .u32) (V := []) (W := T) (m := 0) (m2 := nt) (m3 := nt) (V3 := T) Try.underlying38 Try.type51 rfl rfl rfl rfl rfl rfl rfl (Reads.own (E := 51) hown.1 (hown.2.2.imp id fun ⟨g, c, h, _⟩ => ⟨g, c, h⟩) (mem_getO 2 rfl)) (by omega) (by simp only [maxLen]; omega) (by omega) rfl (fun _ _ => rfl)) ?_
  rintro _ _ ⟨a13, c13, ha13, hn13, rfl, rfl⟩
  refine l_assign rfl rfl ?_
  refine l_nil ?_
  refine g_seq ?_
  refine gp_start mo (by kernel_rfl) (by kernel_rfl) ?_
  refine gp_quiet 0 rfl rfl rfl rfl rfl rfl (q_move rfl) ?_
  refine gp_quiet 1 rfl rfl rfl rfl rfl rfl (q_nilCheck rfl) ?_
  refine gp_quiet 2 rfl rfl rfl rfl rfl rfl (q_fieldAddr fa_104_1 rfl) ?_
  first | refine gp_quiet 3 rfl rfl rfl rfl rfl rfl (q_ld Try.isAgg3 rfl rfl) ?_ | refine gp_quiet 3 rfl rfl rfl rfl rfl rfl (q_ldw Try.isAgg3 rfl (by omega)) ?_
  refine gp_quiet 4 rfl rfl rfl rfl rfl rfl (q_move rfl) ?_
  refine gp_quiet 5 rfl rfl rfl rfl rfl rfl (q_nilCheck rfl) ?_
  refine gp_quiet 6 rfl rfl rfl rfl rfl rfl (q_fieldAddr fa_104_2 rfl) ?_
  refine gp_quiet 7 rfl rfl rfl rfl rfl rfl (q_ld Try.isAgg4 rfl rfl) ?_
  refine gp_quiet 8 rfl rfl rfl rfl rfl rfl (q_move rfl) ?_
  refine gp_quiet 9 rfl rfl rfl rfl rfl rfl (q_assign rfl) ?_
  refine gp_quiet 10 rfl rfl rfl rfl rfl rfl (q_assign rfl) ?_
  refine gp_quiet 11 rfl rfl rfl rfl rfl rfl (q_assign rfl) ?_
  refine gp_end rfl rfl ?_
  refine g_ret Try.func46 rfl (.tmp rfl (.tmp rfl (.tmp rfl .nil))) ?_
  exact Gives.mki ⟨a13, c13, rfl, ha13, rfl⟩
theorem rchall_ok (w0 : World) (F : List Atom) (b : Nat) (al : Option Addr) (cl : Nat) (L : List Int) (h : Int) (q : Bool) (tt : Option Addr) (nt ct : Nat) :
    CallK Try.prog 56 [.pointer (some ⟨b, 0, none⟩)] w0 (Blk b (.cells [Value.slice al L.length cl, .int .i64 h, .bool q, .slice tt nt ct].toArray 104 (0, 0)) :: F) (Gives w0 fun v F2 => v = .bool (decide (h = L.length)) ∧ F2 = Blk b (.cells [Value.slice al L.length cl, .int .i64 h, .bool q, .slice tt nt ct].toArray 104 (0, 0)) :: F) := by
  refine c_enter Try.func56 rfl rfl rfl ?_
  refine g_seq ?_
  refine g_region ?_
  refine l_assign rfl rfl ?_
  refine l_nil ?_
  refine g_seq ?_
  refine gp_start mo (by kernel_rfl) (by kernel_rfl) ?_
  refine gp_quiet 0 rfl rfl rfl rfl rfl rfl (q_move rfl) ?_
  refine gp_quiet 1 rfl rfl rfl rfl rfl rfl (q_nepn Try.underlying93 rfl rfl) ?_
  refine gp_quiet 2 rfl rfl rfl rfl rfl rfl (q_move rfl) ?_
  refine gp_quietg 3 rfl rfl rfl rfl rfl rfl (.yes rfl rfl (q_move rfl)) ?_
  refine gp_quietg 4 rfl rfl rfl rfl rfl rfl (.yes rfl rfl (q_nilCheck rfl)) ?_
  refine gp_quietg 5 rfl rfl rfl rfl rfl rfl (.yes rfl rfl (q_fieldAddr fa_104_1 rfl)) ?_
  first | refine gp_quietg 6 rfl rfl rfl rfl rfl rfl (.yes rfl rfl (q_ld Try.isAgg3 rfl rfl)) ?_ | refine gp_quietg 6 rfl rfl rfl rfl rfl rfl (.yes rfl rfl (q_ldw Try.isAgg3 rfl (by omega))) ?_
  refine gp_quietg 7 rfl rfl rfl rfl rfl rfl (.yes rfl rfl (q_move rfl)) ?_
  refine gp_quietg 8 rfl rfl rfl rfl rfl rfl (.yes rfl rfl (q_nilCheck rfl)) ?_
  refine gp_quietg 9 rfl rfl rfl rfl rfl rfl (.yes rfl rfl (q_fieldAddr fa_104_0 rfl)) ?_
  refine gp_quietg 10 rfl rfl rfl rfl rfl rfl (.yes rfl rfl (q_ld Try.isAgg23 rfl rfl)) ?_
  refine gp_quietg 11 rfl rfl rfl rfl rfl rfl (.yes rfl rfl (q_len Try.underlying23 rfl)) ?_
  refine gp_quietg 12 rfl rfl rfl rfl rfl rfl (.yes rfl rfl (q_eql rfl rfl)) ?_
  refine gp_quiet 13 rfl rfl rfl rfl rfl rfl (q_pick_t rfl rfl) ?_
  refine gp_quiet 14 rfl rfl rfl rfl rfl rfl (q_assign rfl) ?_
  refine gp_end rfl rfl ?_
  refine g_ret Try.func56 rfl (.tmp rfl .nil) ?_
  exact Gives.mki ⟨rfl, rfl⟩
end Go.Proofs.Ythemlddepepekaa.Fw
