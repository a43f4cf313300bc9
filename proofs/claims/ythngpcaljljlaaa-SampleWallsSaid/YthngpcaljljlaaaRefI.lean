import Derived.Test.YthngpcaljljlaaaRefH
namespace Go.Proofs.Ythngpcaljljlaaa.Fw
open Go Go.Proofs
set_option linter.unusedVariables false
set_option linter.unusedSimpArgs false
set_option maxRecDepth 10000
theorem fa_55_3 (a : Addr) (w : World) : (Instr.fieldAt 55 (.pointer (some a)) 3).run Try.prog w = .ok (.pointer (some (a.add 3))) w := by
  simp [Instr.fieldAt, Try.runUnderlying55, Instr.sureAddr, fieldPlace, Try.sizeOf29, Sem.run_bind, Sem.run_pure]
theorem fa_55_4 (a : Addr) (w : World) : (Instr.fieldAt 55 (.pointer (some a)) 4).run Try.prog w = .ok (.pointer (some (a.add 4))) w := by
  simp [Instr.fieldAt, Try.runUnderlying55, Instr.sureAddr, fieldPlace, Try.sizeOf34, Sem.run_bind, Sem.run_pure]
theorem fa_55_6 (a : Addr) (w : World) : (Instr.fieldAt 55 (.pointer (some a)) 6).run Try.prog w = .ok (.pointer (some (a.add 6))) w := by
  simp [Instr.fieldAt, Try.runUnderlying55, Instr.sureAddr, fieldPlace, Try.sizeOf4, Sem.run_bind, Sem.run_pure]
theorem fa_55_0 (a : Addr) (w : World) : (Instr.fieldAt 55 (.pointer (some a)) 0).run Try.prog w = .ok (.pointer (some (a.add 0))) w := by
  simp [Instr.fieldAt, Try.runUnderlying55, Instr.sureAddr, fieldPlace, Try.sizeOf3, Sem.run_bind, Sem.run_pure]
theorem fa_55_1 (a : Addr) (w : World) : (Instr.fieldAt 55 (.pointer (some a)) 1).run Try.prog w = .ok (.pointer (some (a.add 1))) w := by
  simp [Instr.fieldAt, Try.runUnderlying55, Instr.sureAddr, fieldPlace, Try.sizeOf3, Sem.run_bind, Sem.run_pure]
theorem fa_55_2 (a : Addr) (w : World) : (Instr.fieldAt 55 (.pointer (some a)) 2).run Try.prog w = .ok (.pointer (some (a.add 2))) w := by
  simp [Instr.fieldAt, Try.runUnderlying55, Instr.sureAddr, fieldPlace, Try.sizeOf3, Sem.run_bind, Sem.run_pure]
theorem fa_55_5 (a : Addr) (w : World) : (Instr.fieldAt 55 (.pointer (some a)) 5).run Try.prog w = .ok (.pointer (some (a.add 5))) w := by
  simp [Instr.fieldAt, Try.runUnderlying55, Instr.sureAddr, fieldPlace, Try.sizeOf28, Sem.run_bind, Sem.run_pure]
theorem rput_g (w0 : World) (F : List Atom) (b g n c : Nat) (W : List Int) (hW : W.length = n) (hc : n ≤ c) (hn : n ≤ 1073741824) (hU : W32s W) (h16 : n % 16 = 0) (at_ : Int) (at_0 : -9223372036854775808 ≤ at_) (at_1 : at_ ≤ 9223372036854775807) (wd : Int) (wd0 : -9223372036854775808 ≤ wd) (wd1 : wd ≤ 9223372036854775807) (a : Option Addr) (q qc : Nat) (M : List Int) (hM : IR w0 F .u32 a q M) (hMU : W32s M) (hq : q ≤ 9223372036854775807) : CallK Try.prog 38 [.pointer (some ⟨b, 0, none⟩), .int .i64 at_, .int .i64 wd, .slice a q qc] w0 (Blk b (.cells [Value.slice (some ⟨g, 0, none⟩) n c].toArray 58 (0, 0)) :: Own 28 1 (.slice (some ⟨g, 0, none⟩) n c) n (ints .u32 W) :: F) (Gives w0 fun v F2 => ∃ W2 e, v = .int .i64 e ∧ W2.length = n ∧ F2 = Blk b (.cells [Value.slice (some ⟨g, 0, none⟩) n c].toArray 58 (0, 0)) :: Own 28 1 (.slice (some ⟨g, 0, none⟩) n c) n (ints .u32 W2) :: F ∧ PutG W n at_ wd M W2 e) := by
  by_cases hi : inR n at_ (2 + wd)
  · exact rput_in w0 F b g n c W hW hc hn hU h16 at_ at_0 at_1 wd wd0 wd1 a q qc M hM hMU hq hi
  · exact rput_out w0 F b g n c W hW hc hn hU h16 at_ at_0 at_1 wd wd0 wd1 a q qc M hM hMU hq hi
theorem rstaged_g (w0 : World) (F : List Atom) (b g n c : Nat) (W : List Int) (hW : W.length = n) (hc : n ≤ c) (hn : n ≤ 1073741824) (hU : W32s W) (h16 : n % 16 = 0) (at_ : Int) (at_0 : -9223372036854775808 ≤ at_) (at_1 : at_ ≤ 9223372036854775807) (wd : Int) (wd0 : -9223372036854775808 ≤ wd) (wd1 : wd ≤ 9223372036854775807) : CallK Try.prog 39 [.pointer (some ⟨b, 0, none⟩), .int .i64 at_, .int .i64 wd] w0 (Blk b (.cells [Value.slice (some ⟨g, 0, none⟩) n c].toArray 58 (0, 0)) :: Own 28 1 (.slice (some ⟨g, 0, none⟩) n c) n (ints .u32 W) :: F) (Gives w0 fun v F2 => ∃ k e, v = .tuple #[.int .i64 k, .int .i64 e] ∧ F2 = Blk b (.cells [Value.slice (some ⟨g, 0, none⟩) n c].toArray 58 (0, 0)) :: Own 28 1 (.slice (some ⟨g, 0, none⟩) n c) n (ints .u32 W) :: F ∧ StgG W n at_ wd k e) := by
  by_cases hi : inR n at_ (2 + wd)
  · exact rstaged_in w0 F b g n c W hW hc hn hU h16 at_ at_0 at_1 wd wd0 wd1 hi
  · exact rstaged_out w0 F b g n c W hW hc hn hU h16 at_ at_0 at_1 wd wd0 wd1 hi
theorem rreadp_g (w0 : World) (F : List Atom) (b g n c : Nat) (W : List Int) (hW : W.length = n) (hc : n ≤ c) (hn : n ≤ 1073741824) (hU : W32s W) (h16 : n % 16 = 0) (at_ : Int) (at_0 : -9223372036854775808 ≤ at_) (at_1 : at_ ≤ 9223372036854775807) (wd : Int) (wd0 : -9223372036854775808 ≤ wd) (wd1 : wd ≤ 9223372036854775807) : CallK Try.prog 42 [.pointer (some ⟨b, 0, none⟩), .int .i64 at_, .int .i64 wd] w0 (Blk b (.cells [Value.slice (some ⟨g, 0, none⟩) n c].toArray 58 (0, 0)) :: Own 28 1 (.slice (some ⟨g, 0, none⟩) n c) n (ints .u32 W) :: F) (Gives w0 fun v F2 => ∃ a q c2 T fr th e a0 q0 c0 X0, v = .tuple #[.slice a q c2, .bool fr, .bool th, .int .i64 e] ∧ F2 = Own 28 1 (.slice a0 q0 c0) q0 (ints .u32 X0) :: Blk b (.cells [Value.slice (some ⟨g, 0, none⟩) n c].toArray 58 (0, 0)) :: Own 28 1 (.slice (some ⟨g, 0, none⟩) n c) n (ints .u32 W) :: F ∧ IR w0 F2 .u32 a q T ∧ RdpG W n at_ wd T fr th e) := by
  by_cases hi : inR n at_ (3 + wd)
  · exact rreadp_in w0 F b g n c W hW hc hn hU h16 at_ at_0 at_1 wd wd0 wd1 hi
  · exact rreadp_out w0 F b g n c W hW hc hn hU h16 at_ at_0 at_1 wd wd0 wd1 hi
theorem RdpG.u {W : List Int} {n : Nat} {at_ wd : Int} {T : List Int} {fr th : Bool} {e : Int} (hU : W32s W) (hn : W.length = n) (h : RdpG W n at_ wd T fr th e) : W32s T ∧ T.length ≤ n := by
  have k : ∀ e, ReadG W n at_ wd 3 T e → W32s T ∧ T.length ≤ n := by
    rintro e (⟨_, b, _⟩ | ⟨_, b, _⟩ | ⟨_, b, c⟩)
    · subst b; exact ⟨W32s.of (by simp), by simp⟩
    · subst b; exact ⟨W32s.of (by simp), by simp⟩
    · refine ⟨held_u32 c (hU.part _ _), ?_⟩
      have hl : (part W at_ (((3 : Nat) : Int) + wd)).length ≤ W.length := by unfold part; rw [List.length_take, List.length_drop]; omega
      rcases held_len c with h | h
      · omega
      · rw [h]; simp
  rcases h with ⟨_, _, c, _⟩ | ⟨_, _, _, _, h⟩ | ⟨_, _, _, _, h, _⟩
  · subst c; exact ⟨W32s.of (by simp), by simp⟩
  · exact k _ h
  · exact k _ h
set_option maxHeartbeats 4000000 in
theorem one_put (w0 : World) (F : List Atom) (b g n c b2 g2 c2 : Nat) (W : List Int) (hW : W.length = n) (hc : n ≤ c) (hc2 : n ≤ c2) (hn : n ≤ 1073741824) (hU : W32s W) (h16 : n % 16 = 0) (kd : Int) (at_ : Int) (at_0 : -9223372036854775808 ≤ at_) (at_1 : at_ ≤ 9223372036854775807) (wd : Int) (wd0 : -9223372036854775808 ≤ wd) (wd1 : wd ≤ 9223372036854775807) (x : Int) (x0 : 0 ≤ x) (x1 : x ≤ 4294967295) (nl : Bool) (am : Option Addr) (nm cm : Nat) (M : List Int) (hM : IR w0 F .u32 am nm M) (hMU : W32s M) (hnm : nm ≤ 9223372036854775807) (ap : Option Addr) (np cp : Nat) (P : List Int) (hI : IR w0 F .i64 ap np P) (hP : ∀ i, -9223372036854775808 ≤ P.getD i 0 ∧ P.getD i 0 ≤ 9223372036854775807) (hq : np ≤ 9223372036854775807) (hqc : np ≤ cp) (hk : kd = 0) :
    CallK Try.prog 25 [.pointer (some ⟨b, 0, none⟩), .pointer (some ⟨b2, 0, none⟩), .agg [Value.int .i64 kd, .int .i64 at_, .int .i64 wd, .slice am nm cm, .slice ap np cp, .int .u32 x, .bool nl].toArray] w0 (Blk b (.cells [Value.slice (some ⟨g, 0, none⟩) n c].toArray 63 (0, 0)) :: Own 28 1 (.slice (some ⟨g, 0, none⟩) n c) n (ints .u32 W) :: Blk b2 (.cells [Value.slice (some ⟨g2, 0, none⟩) n c2].toArray 58 (0, 0)) :: Own 28 1 (.slice (some ⟨g2, 0, none⟩) n c2) n (ints .u32 W) :: F) (Gives w0 fun v F2 => v = .bool true ∧ ∃ W2, F2 = Blk b (.cells [Value.slice (some ⟨g, 0, none⟩) n c].toArray 63 (0, 0)) :: Own 28 1 (.slice (some ⟨g, 0, none⟩) n c) n (ints .u32 W2) :: Blk b2 (.cells [Value.slice (some ⟨g2, 0, none⟩) n c2].toArray 58 (0, 0)) :: Own 28 1 (.slice (some ⟨g2, 0, none⟩) n c2) n (ints .u32 W2) :: F ∧ OneG n W kd at_ wd nl P np W2) := by
  refine c_enter Try.func25 rfl rfl rfl ?_
  refine g_seq ?_
  refine g_region ?_
  refine l_boxs rfl rfl ?_; intro b5
  refine l_assign rfl rfl ?_
  refine l_nil ?_
  refine g_seq ?_
  refine g_seq ?_
  refine g_region ?_
  refine l_fieldAddr rfl fa_55_3 rfl ?_
  refine l_ld rfl Try.isAgg29 rfl rfl ?_
  refine l_len rfl Try.underlying29 rfl ?_
  refine l_gtr rfl rfl rfl ?_
  refine l_move rfl rfl ?_
  refine l_split 28 rfl ?_ ?_
  · intro hbr
    have hbr := of_decide_eq_true hbr
    refine l_guard_no rfl rfl rfl ?_
    refine l_guard_no rfl rfl rfl ?_
    refine l_guard_no rfl rfl rfl ?_
    refine l_guard_no rfl rfl rfl ?_
    refine l_pick_t rfl rfl rfl ?_
    refine l_nil ?_
    refine g_cond_t rfl ?_
    refine g_seq ?_
    refine g_region ?_
    refine l_assign rfl rfl ?_
    refine l_nil ?_
    refine g_ret Try.func25 rfl (.tmp rfl .nil) ?_
    (first | ((have hnl : nl = false := hb35); subst hnl; subst hk; exact Gives.mki ⟨by simp [resVal], W2, rfl, hPut.one hW hU hMU⟩) | exact Gives.mki ⟨by simp [resVal], W, rfl, .stay hW hU⟩)
  intro hbr
  have hbr := of_decide_eq_false hbr
  refine l_guard_yes rfl rfl ?_
  refine l_fieldAddr rfl fa_55_4 rfl ?_
  refine l_guard_yes rfl rfl ?_
  refine l_ld rfl Try.isAgg34 rfl rfl ?_
  refine l_guard_yes rfl rfl ?_
  refine l_len rfl Try.underlying34 rfl ?_
  refine l_guard_yes rfl rfl ?_
  refine l_gtr rfl rfl rfl ?_
  refine l_pick_f rfl rfl rfl ?_
  refine l_nil ?_
  refine g_cond rfl ?_ ?_
  · intro hbr
    have hbr := of_decide_eq_true hbr
    refine g_seq ?_
    refine g_region ?_
    refine l_assign rfl rfl ?_
    refine l_nil ?_
    refine g_ret Try.func25 rfl (.tmp rfl .nil) ?_
    (first | ((have hnl : nl = false := hb35); subst hnl; subst hk; exact Gives.mki ⟨by simp [resVal], W2, rfl, hPut.one hW hU hMU⟩) | exact Gives.mki ⟨by simp [resVal], W, rfl, .stay hW hU⟩)
  intro hbr
  have hbr := of_decide_eq_false hbr
  refine g_skip ?_
  refine g_seq ?_
  refine g_seq ?_
  refine g_region ?_
  refine l_fieldAddr rfl fa_55_6 rfl ?_
  refine l_ld rfl Try.isAgg4 rfl rfl ?_
  refine l_nil ?_
  refine g_cond rfl ?_ ?_
  · intro hbr
    have hb35 := hbr
    refine g_seq ?_
    refine g_region ?_
    refine l_assign rfl rfl ?_
    refine l_nil ?_
    refine g_region ?_
    refine l_assign rfl rfl ?_
    refine l_nil ?_
    refine g_seq ?_
    refine g_seq ?_
    refine g_region ?_
    refine l_fieldAddr rfl fa_55_0 rfl ?_
    first | refine l_ld rfl Try.isAgg3 rfl rfl ?_ | refine l_ldw rfl Try.isAgg3 rfl (by omega) ?_
    refine l_nil ?_
    refine g_block ?_
    refine g_seq ?_
    refine g_region ?_
    refine l_eql rfl rfl rfl ?_
    refine l_assign rfl rfl ?_
    refine l_nil ?_
    refine g_cond rfl ?_ ?_
    · intro hbr
      have hbr := of_decide_eq_true hbr
      refine g_seq ?_
      refine g_region ?_
      refine l_fieldAddr rfl fa_55_3 rfl ?_
      refine l_ld rfl Try.isAgg29 rfl rfl ?_
      refine l_call rfl Try.call12 rfl (words_full _ _ am nm cm M hM.ex (by omega) hMU) ?_; rintro _ _ ⟨gh, X, rfl, hX, rfl⟩
      refine l_assign rfl rfl ?_
      refine l_nil ?_
      refine g_seq ?_
      refine g_region ?_
      refine l_move rfl rfl ?_
      refine l_fieldAddr rfl fa_55_1 rfl ?_
      first | refine l_ld rfl Try.isAgg3 rfl rfl ?_ | refine l_ldw rfl Try.isAgg3 rfl (by omega) ?_
      refine l_fieldAddr rfl fa_55_2 rfl ?_
      first | refine l_ld rfl Try.isAgg3 rfl rfl ?_ | refine l_ldw rfl Try.isAgg3 rfl (by omega) ?_
      refine l_move rfl rfl ?_
      refine l_call rfl Try.call9 rfl (put_nil _ _ at_ wd _ _ _) ?_; rintro _ _ ⟨rfl, rfl⟩
      refine l_assign rfl rfl ?_
      refine l_nil ?_
      refine g_seq ?_
      refine g_region ?_
      refine l_move rfl rfl ?_
      refine l_fieldAddr rfl fa_55_3 rfl ?_
      refine l_ld rfl Try.isAgg29 rfl rfl ?_
      refine l_fronto gh ?_
      refine l_call rfl Try.call13 rfl (words_kept _ _ gh X am nm cm M hM.ex (by omega) hMU hX) ?_; rintro _ _ ⟨rfl, rfl⟩
      refine l_move rfl rfl ?_
      refine l_guard_yes rfl rfl ?_
      refine l_move rfl rfl ?_
      refine l_guard_yes rfl rfl ?_
      refine l_move rfl rfl ?_
      refine l_guard_yes rfl rfl ?_
      refine l_fieldAddr rfl fa_55_1 rfl ?_
      refine l_guard_yes rfl rfl ?_
      first | refine l_ld rfl Try.isAgg3 rfl rfl ?_ | refine l_ldw rfl Try.isAgg3 rfl (by omega) ?_
      refine l_guard_yes rfl rfl ?_
      refine l_fieldAddr rfl fa_55_2 rfl ?_
      refine l_guard_yes rfl rfl ?_
      first | refine l_ld rfl Try.isAgg3 rfl rfl ?_ | refine l_ldw rfl Try.isAgg3 rfl (by omega) ?_
      refine l_guard_yes rfl rfl ?_
      refine l_fieldAddr rfl fa_55_3 rfl ?_
      refine l_guard_yes rfl rfl ?_
      refine l_ld rfl Try.isAgg29 rfl rfl ?_
      refine l_guard_yes rfl rfl ?_
      refine l_call rfl Try.call38 rfl (rput_nil _ _ at_ wd _ _ _) ?_; rintro _ _ ⟨rfl, rfl⟩
      refine l_guard_yes rfl rfl ?_
      refine l_eql rfl rfl rfl ?_
      refine l_pick_t rfl rfl rfl ?_
      refine l_assign rfl rfl ?_
      refine l_nil ?_
      refine g_ret Try.func25 rfl (.tmp rfl .nil) ?_
      (first | ((have hnl : nl = false := hb35); subst hnl; subst hk; exact Gives.mki ⟨by simp [resVal], W2, rfl, hPut.one hW hU hMU⟩) | exact Gives.mki ⟨by simp [resVal], W, rfl, .stay hW hU⟩)
    · intro hbr
      have hbr := of_decide_eq_false hbr
      (exfalso; omega)
  intro hbr
  have hb35 := hbr
  refine g_skip ?_
  refine g_seq ?_
  refine g_seq ?_
  refine g_region ?_
  refine l_fieldAddr rfl fa_55_0 rfl ?_
  first | refine l_ld rfl Try.isAgg3 rfl rfl ?_ | refine l_ldw rfl Try.isAgg3 rfl (by omega) ?_
  refine l_nil ?_
  refine g_block ?_
  refine g_seq ?_
  refine g_region ?_
  refine l_eql rfl rfl rfl ?_
  refine l_assign rfl rfl ?_
  refine l_nil ?_
  refine g_cond rfl ?_ ?_
  · intro hbr
    have hbr := of_decide_eq_true hbr
    refine g_seq ?_
    refine g_region ?_
    refine l_fieldAddr rfl fa_55_3 rfl ?_
    refine l_ld rfl Try.isAgg29 rfl rfl ?_
    refine l_call rfl Try.call12 rfl (words_full _ _ am nm cm M hM.ex (by omega) hMU) ?_; rintro _ _ ⟨gh, X, rfl, hX, rfl⟩
    refine l_assign rfl rfl ?_
    refine l_nil ?_
    refine g_seq ?_
    refine g_region ?_
    refine l_move rfl rfl ?_
    refine l_fieldAddr rfl fa_55_1 rfl ?_
    first | refine l_ld rfl Try.isAgg3 rfl rfl ?_ | refine l_ldw rfl Try.isAgg3 rfl (by omega) ?_
    refine l_fieldAddr rfl fa_55_2 rfl ?_
    first | refine l_ld rfl Try.isAgg3 rfl rfl ?_ | refine l_ldw rfl Try.isAgg3 rfl (by omega) ?_
    refine l_move rfl rfl ?_
    refine l_fronto g ?_
    refine l_frontb b ?_
    refine l_call rfl Try.call9 rfl (put_ok _ _ b g n c W hW hc hn hU h16 at_ at_0 at_1 wd wd0 wd1 (some ⟨gh, 0, none⟩) nm (nm + 70) M (ir_pre hM.1 (mem_getO 0 rfl) (hX.pre hM.1)) (by omega)) ?_; rintro _ _ ⟨W2, e, rfl, hW2, rfl, hPut⟩
    refine l_assign rfl rfl ?_
    refine l_nil ?_
    refine g_seq ?_
    refine g_region ?_
    refine l_move rfl rfl ?_
    refine l_fieldAddr rfl fa_55_3 rfl ?_
    refine l_ld rfl Try.isAgg29 rfl rfl ?_
    refine l_fronto gh ?_
    refine l_call rfl Try.call13 rfl (words_kept _ _ gh X am nm cm M hM.ex (by omega) hMU hX) ?_; rintro _ _ ⟨rfl, rfl⟩
    refine l_move rfl rfl ?_
    refine l_guard_yes rfl rfl ?_
    refine l_move rfl rfl ?_
    refine l_guard_yes rfl rfl ?_
    refine l_move rfl rfl ?_
    refine l_guard_yes rfl rfl ?_
    refine l_fieldAddr rfl fa_55_1 rfl ?_
    refine l_guard_yes rfl rfl ?_
    first | refine l_ld rfl Try.isAgg3 rfl rfl ?_ | refine l_ldw rfl Try.isAgg3 rfl (by omega) ?_
    refine l_guard_yes rfl rfl ?_
    refine l_fieldAddr rfl fa_55_2 rfl ?_
    refine l_guard_yes rfl rfl ?_
    first | refine l_ld rfl Try.isAgg3 rfl rfl ?_ | refine l_ldw rfl Try.isAgg3 rfl (by omega) ?_
    refine l_guard_yes rfl rfl ?_
    refine l_fieldAddr rfl fa_55_3 rfl ?_
    refine l_guard_yes rfl rfl ?_
    refine l_ld rfl Try.isAgg29 rfl rfl ?_
    refine l_guard_yes rfl rfl ?_
    refine l_fronto g2 ?_
    refine l_frontb b2 ?_
    refine l_call rfl Try.call38 rfl (rput_g _ _ b2 g2 n c2 W hW hc2 hn hU h16 at_ at_0 at_1 wd wd0 wd1 am nm cm M hM.ex hMU (by omega)) ?_; rintro _ _ ⟨W3, e3, rfl, hW3, rfl, hPut3⟩
    obtain ⟨rfl, rfl⟩ := hPut.same hPut3
    refine l_guard_yes rfl rfl ?_
    refine l_eql rfl rfl rfl ?_
    refine l_pick_t rfl rfl rfl ?_
    refine l_assign rfl rfl ?_
    refine l_nil ?_
    refine g_ret Try.func25 rfl (.tmp rfl .nil) ?_
    (first | ((have hnl : nl = false := hb35); subst hnl; subst hk; exact Gives.mki ⟨by simp [resVal], W2, rfl, hPut.one hW hU hMU⟩) | exact Gives.mki ⟨by simp [resVal], W, rfl, .stay hW hU⟩)
  · intro hbr
    have hbr := of_decide_eq_false hbr
    (exfalso; omega)
set_option maxHeartbeats 4000000 in
theorem one_stg (w0 : World) (F : List Atom) (b g n c b2 g2 c2 : Nat) (W : List Int) (hW : W.length = n) (hc : n ≤ c) (hc2 : n ≤ c2) (hn : n ≤ 1073741824) (hU : W32s W) (h16 : n % 16 = 0) (kd : Int) (at_ : Int) (at_0 : -9223372036854775808 ≤ at_) (at_1 : at_ ≤ 9223372036854775807) (wd : Int) (wd0 : -9223372036854775808 ≤ wd) (wd1 : wd ≤ 9223372036854775807) (x : Int) (x0 : 0 ≤ x) (x1 : x ≤ 4294967295) (nl : Bool) (am : Option Addr) (nm cm : Nat) (M : List Int) (hM : IR w0 F .u32 am nm M) (hMU : W32s M) (hnm : nm ≤ 9223372036854775807) (ap : Option Addr) (np cp : Nat) (P : List Int) (hI : IR w0 F .i64 ap np P) (hP : ∀ i, -9223372036854775808 ≤ P.getD i 0 ∧ P.getD i 0 ≤ 9223372036854775807) (hq : np ≤ 9223372036854775807) (hqc : np ≤ cp) (hk : kd = 1) :
    CallK Try.prog 25 [.pointer (some ⟨b, 0, none⟩), .pointer (some ⟨b2, 0, none⟩), .agg [Value.int .i64 kd, .int .i64 at_, .int .i64 wd, .slice am nm cm, .slice ap np cp, .int .u32 x, .bool nl].toArray] w0 (Blk b (.cells [Value.slice (some ⟨g, 0, none⟩) n c].toArray 63 (0, 0)) :: Own 28 1 (.slice (some ⟨g, 0, none⟩) n c) n (ints .u32 W) :: Blk b2 (.cells [Value.slice (some ⟨g2, 0, none⟩) n c2].toArray 58 (0, 0)) :: Own 28 1 (.slice (some ⟨g2, 0, none⟩) n c2) n (ints .u32 W) :: F) (Gives w0 fun v F2 => v = .bool true ∧ ∃ W2, F2 = Blk b (.cells [Value.slice (some ⟨g, 0, none⟩) n c].toArray 63 (0, 0)) :: Own 28 1 (.slice (some ⟨g, 0, none⟩) n c) n (ints .u32 W2) :: Blk b2 (.cells [Value.slice (some ⟨g2, 0, none⟩) n c2].toArray 58 (0, 0)) :: Own 28 1 (.slice (some ⟨g2, 0, none⟩) n c2) n (ints .u32 W2) :: F ∧ OneG n W kd at_ wd nl P np W2) := by
  refine c_enter Try.func25 rfl rfl rfl ?_
  refine g_seq ?_
  refine g_region ?_
  refine l_boxs rfl rfl ?_; intro b5
  refine l_assign rfl rfl ?_
  refine l_nil ?_
  refine g_seq ?_
  refine g_seq ?_
  refine g_region ?_
  refine l_fieldAddr rfl fa_55_3 rfl ?_
  refine l_ld rfl Try.isAgg29 rfl rfl ?_
  refine l_len rfl Try.underlying29 rfl ?_
  refine l_gtr rfl rfl rfl ?_
  refine l_move rfl rfl ?_
  refine l_split 28 rfl ?_ ?_
  · intro hbr
    have hbr := of_decide_eq_true hbr
    refine l_guard_no rfl rfl rfl ?_
    refine l_guard_no rfl rfl rfl ?_
    refine l_guard_no rfl rfl rfl ?_
    refine l_guard_no rfl rfl rfl ?_
    refine l_pick_t rfl rfl rfl ?_
    refine l_nil ?_
    refine g_cond_t rfl ?_
    refine g_seq ?_
    refine g_region ?_
    refine l_assign rfl rfl ?_
    refine l_nil ?_
    refine g_ret Try.func25 rfl (.tmp rfl .nil) ?_
    (first | exact Gives.mki ⟨by simp [resVal], W, rfl, .stay hW hU⟩)
  intro hbr
  have hbr := of_decide_eq_false hbr
  refine l_guard_yes rfl rfl ?_
  refine l_fieldAddr rfl fa_55_4 rfl ?_
  refine l_guard_yes rfl rfl ?_
  refine l_ld rfl Try.isAgg34 rfl rfl ?_
  refine l_guard_yes rfl rfl ?_
  refine l_len rfl Try.underlying34 rfl ?_
  refine l_guard_yes rfl rfl ?_
  refine l_gtr rfl rfl rfl ?_
  refine l_pick_f rfl rfl rfl ?_
  refine l_nil ?_
  refine g_cond rfl ?_ ?_
  · intro hbr
    have hbr := of_decide_eq_true hbr
    refine g_seq ?_
    refine g_region ?_
    refine l_assign rfl rfl ?_
    refine l_nil ?_
    refine g_ret Try.func25 rfl (.tmp rfl .nil) ?_
    (first | exact Gives.mki ⟨by simp [resVal], W, rfl, .stay hW hU⟩)
  intro hbr
  have hbr := of_decide_eq_false hbr
  refine g_skip ?_
  refine g_seq ?_
  refine g_seq ?_
  refine g_region ?_
  refine l_fieldAddr rfl fa_55_6 rfl ?_
  refine l_ld rfl Try.isAgg4 rfl rfl ?_
  refine l_nil ?_
  refine g_cond rfl ?_ ?_
  · intro hbr
    have hb35 := hbr
    refine g_seq ?_
    refine g_region ?_
    refine l_assign rfl rfl ?_
    refine l_nil ?_
    refine g_region ?_
    refine l_assign rfl rfl ?_
    refine l_nil ?_
    refine g_seq ?_
    refine g_seq ?_
    refine g_region ?_
    refine l_fieldAddr rfl fa_55_0 rfl ?_
    first | refine l_ld rfl Try.isAgg3 rfl rfl ?_ | refine l_ldw rfl Try.isAgg3 rfl (by omega) ?_
    refine l_nil ?_
    refine g_block ?_
    refine g_seq ?_
    refine g_region ?_
    refine l_eql rfl rfl rfl ?_
    refine l_assign rfl rfl ?_
    refine l_nil ?_
    refine g_cond rfl ?_ ?_
    · intro hbr
      have hbr := of_decide_eq_true hbr
      (exfalso; omega)
    intro hbr
    have hbr := of_decide_eq_false hbr
    refine g_seq ?_
    refine g_region ?_
    refine l_eql rfl rfl rfl ?_
    refine l_assign rfl rfl ?_
    refine l_nil ?_
    refine g_cond rfl ?_ ?_
    · intro hbr
      have hbr := of_decide_eq_true hbr
      refine g_seq ?_
      refine g_region ?_
      refine l_move rfl rfl ?_
      refine l_fieldAddr rfl fa_55_1 rfl ?_
      first | refine l_ld rfl Try.isAgg3 rfl rfl ?_ | refine l_ldw rfl Try.isAgg3 rfl (by omega) ?_
      refine l_fieldAddr rfl fa_55_2 rfl ?_
      first | refine l_ld rfl Try.isAgg3 rfl rfl ?_ | refine l_ldw rfl Try.isAgg3 rfl (by omega) ?_
      refine l_call rfl Try.call20 rfl (staged_nil _ _ at_ wd) ?_; rintro _ _ ⟨rfl, rfl⟩
      refine l_move rfl rfl ?_
      refine l_extract rfl rfl rfl ?_
      refine l_extract rfl rfl rfl ?_
      refine l_assign rfl rfl ?_
      refine l_assign rfl rfl ?_
      refine l_nil ?_
      refine g_seq ?_
      refine g_region ?_
      refine l_move rfl rfl ?_
      refine l_fieldAddr rfl fa_55_1 rfl ?_
      first | refine l_ld rfl Try.isAgg3 rfl rfl ?_ | refine l_ldw rfl Try.isAgg3 rfl (by omega) ?_
      refine l_fieldAddr rfl fa_55_2 rfl ?_
      first | refine l_ld rfl Try.isAgg3 rfl rfl ?_ | refine l_ldw rfl Try.isAgg3 rfl (by omega) ?_
      refine l_call rfl Try.call39 rfl (rstaged_nil _ _ at_ wd) ?_; rintro _ _ ⟨rfl, rfl⟩
      refine l_move rfl rfl ?_
      refine l_extract rfl rfl rfl ?_
      refine l_extract rfl rfl rfl ?_
      refine l_assign rfl rfl ?_
      refine l_assign rfl rfl ?_
      refine l_nil ?_
      refine g_seq ?_
      refine g_region ?_
      refine l_move rfl rfl ?_
      refine l_move rfl rfl ?_
      refine l_eql rfl rfl rfl ?_
      refine l_move rfl rfl ?_
      refine l_split 89 rfl ?_ ?_
      · intro hbr
        have hbr := of_decide_eq_true hbr
        refine l_guard_yes rfl rfl ?_
        refine l_move rfl rfl ?_
        refine l_guard_yes rfl rfl ?_
        refine l_move rfl rfl ?_
        refine l_guard_yes rfl rfl ?_
        refine l_eql rfl rfl rfl ?_
        refine l_pick_t rfl rfl rfl ?_
        refine l_assign rfl rfl ?_
        refine l_nil ?_
        refine g_ret Try.func25 rfl (.tmp rfl .nil) ?_
        (first | exact Gives.mki ⟨by simp [resVal], W, rfl, .stay hW hU⟩)
      · intro hbr
        have hbr := of_decide_eq_false hbr
        (exfalso; omega)
    · intro hbr
      have hbr := of_decide_eq_false hbr
      (exfalso; omega)
  intro hbr
  have hb35 := hbr
  refine g_skip ?_
  refine g_seq ?_
  refine g_seq ?_
  refine g_region ?_
  refine l_fieldAddr rfl fa_55_0 rfl ?_
  first | refine l_ld rfl Try.isAgg3 rfl rfl ?_ | refine l_ldw rfl Try.isAgg3 rfl (by omega) ?_
  refine l_nil ?_
  refine g_block ?_
  refine g_seq ?_
  refine g_region ?_
  refine l_eql rfl rfl rfl ?_
  refine l_assign rfl rfl ?_
  refine l_nil ?_
  refine g_cond rfl ?_ ?_
  · intro hbr
    have hbr := of_decide_eq_true hbr
    (exfalso; omega)
  intro hbr
  have hbr := of_decide_eq_false hbr
  refine g_seq ?_
  refine g_region ?_
  refine l_eql rfl rfl rfl ?_
  refine l_assign rfl rfl ?_
  refine l_nil ?_
  refine g_cond rfl ?_ ?_
  · intro hbr
    have hbr := of_decide_eq_true hbr
    refine g_seq ?_
    refine g_region ?_
    refine l_move rfl rfl ?_
    refine l_fieldAddr rfl fa_55_1 rfl ?_
    first | refine l_ld rfl Try.isAgg3 rfl rfl ?_ | refine l_ldw rfl Try.isAgg3 rfl (by omega) ?_
    refine l_fieldAddr rfl fa_55_2 rfl ?_
    first | refine l_ld rfl Try.isAgg3 rfl rfl ?_ | refine l_ldw rfl Try.isAgg3 rfl (by omega) ?_
    refine l_fronto g ?_
    refine l_frontb b ?_
    refine l_call rfl Try.call20 rfl (staged_ok _ _ b g n c W hW hc hn hU h16 at_ at_0 at_1 wd wd0 wd1) ?_; rintro _ _ ⟨k, e, rfl, rfl, hS⟩
    refine l_move rfl rfl ?_
    refine l_extract rfl rfl rfl ?_
    refine l_extract rfl rfl rfl ?_
    refine l_assign rfl rfl ?_
    refine l_assign rfl rfl ?_
    refine l_nil ?_
    refine g_seq ?_
    refine g_region ?_
    refine l_move rfl rfl ?_
    refine l_fieldAddr rfl fa_55_1 rfl ?_
    first | refine l_ld rfl Try.isAgg3 rfl rfl ?_ | refine l_ldw rfl Try.isAgg3 rfl (by omega) ?_
    refine l_fieldAddr rfl fa_55_2 rfl ?_
    first | refine l_ld rfl Try.isAgg3 rfl rfl ?_ | refine l_ldw rfl Try.isAgg3 rfl (by omega) ?_
    refine l_fronto g2 ?_
    refine l_frontb b2 ?_
    refine l_call rfl Try.call39 rfl (rstaged_g _ _ b2 g2 n c2 W hW hc2 hn hU h16 at_ at_0 at_1 wd wd0 wd1) ?_; rintro _ _ ⟨k3, e3, rfl, rfl, hS3⟩
    obtain ⟨rfl, rfl⟩ := hS.same hS3
    refine l_move rfl rfl ?_
    refine l_extract rfl rfl rfl ?_
    refine l_extract rfl rfl rfl ?_
    refine l_assign rfl rfl ?_
    refine l_assign rfl rfl ?_
    refine l_nil ?_
    refine g_seq ?_
    refine g_region ?_
    refine l_move rfl rfl ?_
    refine l_move rfl rfl ?_
    refine l_eql rfl rfl rfl ?_
    refine l_move rfl rfl ?_
    refine l_split 89 rfl ?_ ?_
    · intro hbr
      have hbr := of_decide_eq_true hbr
      refine l_guard_yes rfl rfl ?_
      refine l_move rfl rfl ?_
      refine l_guard_yes rfl rfl ?_
      refine l_move rfl rfl ?_
      refine l_guard_yes rfl rfl ?_
      refine l_eql rfl rfl rfl ?_
      refine l_pick_t rfl rfl rfl ?_
      refine l_assign rfl rfl ?_
      refine l_nil ?_
      refine g_ret Try.func25 rfl (.tmp rfl .nil) ?_
      (first | exact Gives.mki ⟨by simp [resVal], W, rfl, .stay hW hU⟩)
    · intro hbr
      have hbr := of_decide_eq_false hbr
      (exfalso; omega)
  · intro hbr
    have hbr := of_decide_eq_false hbr
    (exfalso; omega)
set_option maxHeartbeats 4000000 in
theorem one_del (w0 : World) (F : List Atom) (b g n c b2 g2 c2 : Nat) (W : List Int) (hW : W.length = n) (hc : n ≤ c) (hc2 : n ≤ c2) (hn : n ≤ 1073741824) (hU : W32s W) (h16 : n % 16 = 0) (kd : Int) (at_ : Int) (at_0 : -9223372036854775808 ≤ at_) (at_1 : at_ ≤ 9223372036854775807) (wd : Int) (wd0 : -9223372036854775808 ≤ wd) (wd1 : wd ≤ 9223372036854775807) (x : Int) (x0 : 0 ≤ x) (x1 : x ≤ 4294967295) (nl : Bool) (am : Option Addr) (nm cm : Nat) (M : List Int) (hM : IR w0 F .u32 am nm M) (hMU : W32s M) (hnm : nm ≤ 9223372036854775807) (ap : Option Addr) (np cp : Nat) (P : List Int) (hI : IR w0 F .i64 ap np P) (hP : ∀ i, -9223372036854775808 ≤ P.getD i 0 ∧ P.getD i 0 ≤ 9223372036854775807) (hq : np ≤ 9223372036854775807) (hqc : np ≤ cp) (hk : kd = 2) :
    CallK Try.prog 25 [.pointer (some ⟨b, 0, none⟩), .pointer (some ⟨b2, 0, none⟩), .agg [Value.int .i64 kd, .int .i64 at_, .int .i64 wd, .slice am nm cm, .slice ap np cp, .int .u32 x, .bool nl].toArray] w0 (Blk b (.cells [Value.slice (some ⟨g, 0, none⟩) n c].toArray 63 (0, 0)) :: Own 28 1 (.slice (some ⟨g, 0, none⟩) n c) n (ints .u32 W) :: Blk b2 (.cells [Value.slice (some ⟨g2, 0, none⟩) n c2].toArray 58 (0, 0)) :: Own 28 1 (.slice (some ⟨g2, 0, none⟩) n c2) n (ints .u32 W) :: F) (Gives w0 fun v F2 => v = .bool true ∧ ∃ W2, F2 = Blk b (.cells [Value.slice (some ⟨g, 0, none⟩) n c].toArray 63 (0, 0)) :: Own 28 1 (.slice (some ⟨g, 0, none⟩) n c) n (ints .u32 W2) :: Blk b2 (.cells [Value.slice (some ⟨g2, 0, none⟩) n c2].toArray 58 (0, 0)) :: Own 28 1 (.slice (some ⟨g2, 0, none⟩) n c2) n (ints .u32 W2) :: F ∧ OneG n W kd at_ wd nl P np W2) := by
  refine c_enter Try.func25 rfl rfl rfl ?_
  refine g_seq ?_
  refine g_region ?_
  refine l_boxs rfl rfl ?_; intro b5
  refine l_assign rfl rfl ?_
  refine l_nil ?_
  refine g_seq ?_
  refine g_seq ?_
  refine g_region ?_
  refine l_fieldAddr rfl fa_55_3 rfl ?_
  refine l_ld rfl Try.isAgg29 rfl rfl ?_
  refine l_len rfl Try.underlying29 rfl ?_
  refine l_gtr rfl rfl rfl ?_
  refine l_move rfl rfl ?_
  refine l_split 28 rfl ?_ ?_
  · intro hbr
    have hbr := of_decide_eq_true hbr
    refine l_guard_no rfl rfl rfl ?_
    refine l_guard_no rfl rfl rfl ?_
    refine l_guard_no rfl rfl rfl ?_
    refine l_guard_no rfl rfl rfl ?_
    refine l_pick_t rfl rfl rfl ?_
    refine l_nil ?_
    refine g_cond_t rfl ?_
    refine g_seq ?_
    refine g_region ?_
    refine l_assign rfl rfl ?_
    refine l_nil ?_
    refine g_ret Try.func25 rfl (.tmp rfl .nil) ?_
    (first | ((have hnl : nl = false := hb35); subst hnl; subst hk; exact Gives.mki ⟨by simp [resVal], W2, rfl, hD.one hW hU⟩) | exact Gives.mki ⟨by simp [resVal], W, rfl, .stay hW hU⟩)
  intro hbr
  have hbr := of_decide_eq_false hbr
  refine l_guard_yes rfl rfl ?_
  refine l_fieldAddr rfl fa_55_4 rfl ?_
  refine l_guard_yes rfl rfl ?_
  refine l_ld rfl Try.isAgg34 rfl rfl ?_
  refine l_guard_yes rfl rfl ?_
  refine l_len rfl Try.underlying34 rfl ?_
  refine l_guard_yes rfl rfl ?_
  refine l_gtr rfl rfl rfl ?_
  refine l_pick_f rfl rfl rfl ?_
  refine l_nil ?_
  refine g_cond rfl ?_ ?_
  · intro hbr
    have hbr := of_decide_eq_true hbr
    refine g_seq ?_
    refine g_region ?_
    refine l_assign rfl rfl ?_
    refine l_nil ?_
    refine g_ret Try.func25 rfl (.tmp rfl .nil) ?_
    (first | ((have hnl : nl = false := hb35); subst hnl; subst hk; exact Gives.mki ⟨by simp [resVal], W2, rfl, hD.one hW hU⟩) | exact Gives.mki ⟨by simp [resVal], W, rfl, .stay hW hU⟩)
  intro hbr
  have hbr := of_decide_eq_false hbr
  refine g_skip ?_
  refine g_seq ?_
  refine g_seq ?_
  refine g_region ?_
  refine l_fieldAddr rfl fa_55_6 rfl ?_
  refine l_ld rfl Try.isAgg4 rfl rfl ?_
  refine l_nil ?_
  refine g_cond rfl ?_ ?_
  · intro hbr
    have hb35 := hbr
    refine g_seq ?_
    refine g_region ?_
    refine l_assign rfl rfl ?_
    refine l_nil ?_
    refine g_region ?_
    refine l_assign rfl rfl ?_
    refine l_nil ?_
    refine g_seq ?_
    refine g_seq ?_
    refine g_region ?_
    refine l_fieldAddr rfl fa_55_0 rfl ?_
    first | refine l_ld rfl Try.isAgg3 rfl rfl ?_ | refine l_ldw rfl Try.isAgg3 rfl (by omega) ?_
    refine l_nil ?_
    refine g_block ?_
    refine g_seq ?_
    refine g_region ?_
    refine l_eql rfl rfl rfl ?_
    refine l_assign rfl rfl ?_
    refine l_nil ?_
    refine g_cond rfl ?_ ?_
    · intro hbr
      have hbr := of_decide_eq_true hbr
      (exfalso; omega)
    intro hbr
    have hbr := of_decide_eq_false hbr
    refine g_seq ?_
    refine g_region ?_
    refine l_eql rfl rfl rfl ?_
    refine l_assign rfl rfl ?_
    refine l_nil ?_
    refine g_cond rfl ?_ ?_
    · intro hbr
      have hbr := of_decide_eq_true hbr
      (exfalso; omega)
    intro hbr
    have hbr := of_decide_eq_false hbr
    refine g_seq ?_
    refine g_region ?_
    refine l_eql rfl rfl rfl ?_
    refine l_assign rfl rfl ?_
    refine l_nil ?_
    refine g_cond rfl ?_ ?_
    · intro hbr
      have hbr := of_decide_eq_true hbr
      refine g_seq ?_
      refine g_region ?_
      refine l_fieldAddr rfl fa_55_4 rfl ?_
      refine l_ld rfl Try.isAgg34 rfl rfl ?_
      refine l_call rfl Try.call15 rfl (ints_full _ _ ap np cp P hI.ex (by omega) hP) ?_; rintro _ _ ⟨gi, X, rfl, hX, rfl⟩
      refine l_assign rfl rfl ?_
      refine l_nil ?_
      refine g_seq ?_
      refine g_region ?_
      refine l_move rfl rfl ?_
      refine l_fieldAddr rfl fa_55_1 rfl ?_
      first | refine l_ld rfl Try.isAgg3 rfl rfl ?_ | refine l_ldw rfl Try.isAgg3 rfl (by omega) ?_
      refine l_fieldAddr rfl fa_55_2 rfl ?_
      first | refine l_ld rfl Try.isAgg3 rfl rfl ?_ | refine l_ldw rfl Try.isAgg3 rfl (by omega) ?_
      refine l_move rfl rfl ?_
      refine l_call rfl Try.call16 rfl (deliver_nil _ _ at_ wd _ _ _) ?_; rintro _ _ ⟨rfl, rfl⟩
      refine l_assign rfl rfl ?_
      refine l_nil ?_
      refine g_seq ?_
      refine g_region ?_
      refine l_move rfl rfl ?_
      refine l_fieldAddr rfl fa_55_4 rfl ?_
      refine l_ld rfl Try.isAgg34 rfl rfl ?_
      refine l_fronto gi ?_
      refine l_call rfl Try.call17 rfl (ints_kept _ _ gi X ap np cp P hI.ex (by omega) hP hX) ?_; rintro _ _ ⟨rfl, rfl⟩
      refine l_move rfl rfl ?_
      refine l_guard_yes rfl rfl ?_
      refine l_move rfl rfl ?_
      refine l_guard_yes rfl rfl ?_
      refine l_move rfl rfl ?_
      refine l_guard_yes rfl rfl ?_
      refine l_fieldAddr rfl fa_55_1 rfl ?_
      refine l_guard_yes rfl rfl ?_
      first | refine l_ld rfl Try.isAgg3 rfl rfl ?_ | refine l_ldw rfl Try.isAgg3 rfl (by omega) ?_
      refine l_guard_yes rfl rfl ?_
      refine l_fieldAddr rfl fa_55_2 rfl ?_
      refine l_guard_yes rfl rfl ?_
      first | refine l_ld rfl Try.isAgg3 rfl rfl ?_ | refine l_ldw rfl Try.isAgg3 rfl (by omega) ?_
      refine l_guard_yes rfl rfl ?_
      refine l_fieldAddr rfl fa_55_4 rfl ?_
      refine l_guard_yes rfl rfl ?_
      refine l_ld rfl Try.isAgg34 rfl rfl ?_
      refine l_guard_yes rfl rfl ?_
      refine l_call rfl Try.call40 rfl (rdeliver_nil _ _ at_ wd _ _ _) ?_; rintro _ _ ⟨rfl, rfl⟩
      refine l_guard_yes rfl rfl ?_
      refine l_eql rfl rfl rfl ?_
      refine l_pick_t rfl rfl rfl ?_
      refine l_assign rfl rfl ?_
      refine l_nil ?_
      refine g_ret Try.func25 rfl (.tmp rfl .nil) ?_
      (first | ((have hnl : nl = false := hb35); subst hnl; subst hk; exact Gives.mki ⟨by simp [resVal], W2, rfl, hD.one hW hU⟩) | exact Gives.mki ⟨by simp [resVal], W, rfl, .stay hW hU⟩)
    · intro hbr
      have hbr := of_decide_eq_false hbr
      (exfalso; omega)
  intro hbr
  have hb35 := hbr
  refine g_skip ?_
  refine g_seq ?_
  refine g_seq ?_
  refine g_region ?_
  refine l_fieldAddr rfl fa_55_0 rfl ?_
  first | refine l_ld rfl Try.isAgg3 rfl rfl ?_ | refine l_ldw rfl Try.isAgg3 rfl (by omega) ?_
  refine l_nil ?_
  refine g_block ?_
  refine g_seq ?_
  refine g_region ?_
  refine l_eql rfl rfl rfl ?_
  refine l_assign rfl rfl ?_
  refine l_nil ?_
  refine g_cond rfl ?_ ?_
  · intro hbr
    have hbr := of_decide_eq_true hbr
    (exfalso; omega)
  intro hbr
  have hbr := of_decide_eq_false hbr
  refine g_seq ?_
  refine g_region ?_
  refine l_eql rfl rfl rfl ?_
  refine l_assign rfl rfl ?_
  refine l_nil ?_
  refine g_cond rfl ?_ ?_
  · intro hbr
    have hbr := of_decide_eq_true hbr
    (exfalso; omega)
  intro hbr
  have hbr := of_decide_eq_false hbr
  refine g_seq ?_
  refine g_region ?_
  refine l_eql rfl rfl rfl ?_
  refine l_assign rfl rfl ?_
  refine l_nil ?_
  refine g_cond rfl ?_ ?_
  · intro hbr
    have hbr := of_decide_eq_true hbr
    refine g_seq ?_
    refine g_region ?_
    refine l_fieldAddr rfl fa_55_4 rfl ?_
    refine l_ld rfl Try.isAgg34 rfl rfl ?_
    refine l_call rfl Try.call15 rfl (ints_full _ _ ap np cp P hI.ex (by omega) hP) ?_; rintro _ _ ⟨gi, X, rfl, hX, rfl⟩
    refine l_assign rfl rfl ?_
    refine l_nil ?_
    refine g_seq ?_
    refine g_region ?_
    refine l_move rfl rfl ?_
    refine l_fieldAddr rfl fa_55_1 rfl ?_
    first | refine l_ld rfl Try.isAgg3 rfl rfl ?_ | refine l_ldw rfl Try.isAgg3 rfl (by omega) ?_
    refine l_fieldAddr rfl fa_55_2 rfl ?_
    first | refine l_ld rfl Try.isAgg3 rfl rfl ?_ | refine l_ldw rfl Try.isAgg3 rfl (by omega) ?_
    refine l_move rfl rfl ?_
    refine l_fronto g ?_
    refine l_frontb b ?_
    refine l_call rfl Try.call16 rfl (deliver_ok _ _ b g n c W hW hc hn hU h16 at_ at_0 at_1 wd wd0 wd1 (some ⟨gi, 0, none⟩) np (np + 70) P (ir_pre hI.1 (mem_getO 0 rfl) (hX.pre hI.1)) hP (by omega) (by omega)) ?_; rintro _ _ ⟨W2, e, rfl, hW2, rfl, hD⟩
    refine l_assign rfl rfl ?_
    refine l_nil ?_
    refine g_seq ?_
    refine g_region ?_
    refine l_move rfl rfl ?_
    refine l_fieldAddr rfl fa_55_4 rfl ?_
    refine l_ld rfl Try.isAgg34 rfl rfl ?_
    refine l_fronto gi ?_
    refine l_call rfl Try.call17 rfl (ints_kept _ _ gi X ap np cp P hI.ex (by omega) hP hX) ?_; rintro _ _ ⟨rfl, rfl⟩
    refine l_move rfl rfl ?_
    refine l_guard_yes rfl rfl ?_
    refine l_move rfl rfl ?_
    refine l_guard_yes rfl rfl ?_
    refine l_move rfl rfl ?_
    refine l_guard_yes rfl rfl ?_
    refine l_fieldAddr rfl fa_55_1 rfl ?_
    refine l_guard_yes rfl rfl ?_
    first | refine l_ld rfl Try.isAgg3 rfl rfl ?_ | refine l_ldw rfl Try.isAgg3 rfl (by omega) ?_
    refine l_guard_yes rfl rfl ?_
    refine l_fieldAddr rfl fa_55_2 rfl ?_
    refine l_guard_yes rfl rfl ?_
    first | refine l_ld rfl Try.isAgg3 rfl rfl ?_ | refine l_ldw rfl Try.isAgg3 rfl (by omega) ?_
    refine l_guard_yes rfl rfl ?_
    refine l_fieldAddr rfl fa_55_4 rfl ?_
    refine l_guard_yes rfl rfl ?_
    refine l_ld rfl Try.isAgg34 rfl rfl ?_
    refine l_guard_yes rfl rfl ?_
    refine l_fronto g2 ?_
    refine l_frontb b2 ?_
    refine l_call rfl Try.call40 rfl (rdeliver_ok _ _ b2 g2 n c2 W hW hc2 hn hU at_ at_0 at_1 wd wd0 wd1 ap np cp P hI.ex hP hq hqc) ?_; rintro _ _ ⟨W3, e3, rfl, hW3, rfl, hD3⟩
    obtain ⟨rfl, rfl⟩ := hD.same hD3
    refine l_guard_yes rfl rfl ?_
    refine l_eql rfl rfl rfl ?_
    refine l_pick_t rfl rfl rfl ?_
    refine l_assign rfl rfl ?_
    refine l_nil ?_
    refine g_ret Try.func25 rfl (.tmp rfl .nil) ?_
    (first | ((have hnl : nl = false := hb35); subst hnl; subst hk; exact Gives.mki ⟨by simp [resVal], W2, rfl, hD.one hW hU⟩) | exact Gives.mki ⟨by simp [resVal], W, rfl, .stay hW hU⟩)
  · intro hbr
    have hbr := of_decide_eq_false hbr
    (exfalso; omega)
set_option maxHeartbeats 4000000 in
theorem one_wr_ok (w0 : World) (F : List Atom) (b g n c b2 g2 c2 : Nat) (W : List Int) (hW : W.length = n) (hc : n ≤ c) (hc2 : n ≤ c2) (hn : n ≤ 1073741824) (hU : W32s W) (h16 : n % 16 = 0) (kd : Int) (at_ : Int) (at_0 : -9223372036854775808 ≤ at_) (at_1 : at_ ≤ 9223372036854775807) (wd : Int) (wd0 : -9223372036854775808 ≤ wd) (wd1 : wd ≤ 9223372036854775807) (x : Int) (x0 : 0 ≤ x) (x1 : x ≤ 4294967295) (nl : Bool) (am : Option Addr) (nm cm : Nat) (M : List Int) (hM : IR w0 F .u32 am nm M) (hMU : W32s M) (hnm : nm ≤ 9223372036854775807) (ap : Option Addr) (np cp : Nat) (P : List Int) (hI : IR w0 F .i64 ap np P) (hP : ∀ i, -9223372036854775808 ≤ P.getD i 0 ∧ P.getD i 0 ≤ 9223372036854775807) (hq : np ≤ 9223372036854775807) (hqc : np ≤ cp) (hk : kd = 4) (h : inR n at_ 1) :
    CallK Try.prog 25 [.pointer (some ⟨b, 0, none⟩), .pointer (some ⟨b2, 0, none⟩), .agg [Value.int .i64 kd, .int .i64 at_, .int .i64 wd, .slice am nm cm, .slice ap np cp, .int .u32 x, .bool nl].toArray] w0 (Blk b (.cells [Value.slice (some ⟨g, 0, none⟩) n c].toArray 63 (0, 0)) :: Own 28 1 (.slice (some ⟨g, 0, none⟩) n c) n (ints .u32 W) :: Blk b2 (.cells [Value.slice (some ⟨g2, 0, none⟩) n c2].toArray 58 (0, 0)) :: Own 28 1 (.slice (some ⟨g2, 0, none⟩) n c2) n (ints .u32 W) :: F) (Gives w0 fun v F2 => v = .bool true ∧ ∃ W2, F2 = Blk b (.cells [Value.slice (some ⟨g, 0, none⟩) n c].toArray 63 (0, 0)) :: Own 28 1 (.slice (some ⟨g, 0, none⟩) n c) n (ints .u32 W2) :: Blk b2 (.cells [Value.slice (some ⟨g2, 0, none⟩) n c2].toArray 58 (0, 0)) :: Own 28 1 (.slice (some ⟨g2, 0, none⟩) n c2) n (ints .u32 W2) :: F ∧ OneG n W kd at_ wd nl P np W2) := by
  refine c_enter Try.func25 rfl rfl rfl ?_
  refine g_seq ?_
  refine g_region ?_
  refine l_boxs rfl rfl ?_; intro b5
  refine l_assign rfl rfl ?_
  refine l_nil ?_
  refine g_seq ?_
  refine g_seq ?_
  refine g_region ?_
  refine l_fieldAddr rfl fa_55_3 rfl ?_
  refine l_ld rfl Try.isAgg29 rfl rfl ?_
  refine l_len rfl Try.underlying29 rfl ?_
  refine l_gtr rfl rfl rfl ?_
  refine l_move rfl rfl ?_
  refine l_split 28 rfl ?_ ?_
  · intro hbr
    have hbr := of_decide_eq_true hbr
    refine l_guard_no rfl rfl rfl ?_
    refine l_guard_no rfl rfl rfl ?_
    refine l_guard_no rfl rfl rfl ?_
    refine l_guard_no rfl rfl rfl ?_
    refine l_pick_t rfl rfl rfl ?_
    refine l_nil ?_
    refine g_cond_t rfl ?_
    refine g_seq ?_
    refine g_region ?_
    refine l_assign rfl rfl ?_
    refine l_nil ?_
    refine g_ret Try.func25 rfl (.tmp rfl .nil) ?_
    (first | ((have hnl : nl = false := hb35); subst hnl; subst hk; exact Gives.mki ⟨by simp [resVal], W.set at_.toNat x, rfl, .set hW hU x0 x1⟩) | exact Gives.mki ⟨by simp [resVal], W, rfl, .stay hW hU⟩)
  intro hbr
  have hbr := of_decide_eq_false hbr
  refine l_guard_yes rfl rfl ?_
  refine l_fieldAddr rfl fa_55_4 rfl ?_
  refine l_guard_yes rfl rfl ?_
  refine l_ld rfl Try.isAgg34 rfl rfl ?_
  refine l_guard_yes rfl rfl ?_
  refine l_len rfl Try.underlying34 rfl ?_
  refine l_guard_yes rfl rfl ?_
  refine l_gtr rfl rfl rfl ?_
  refine l_pick_f rfl rfl rfl ?_
  refine l_nil ?_
  refine g_cond rfl ?_ ?_
  · intro hbr
    have hbr := of_decide_eq_true hbr
    refine g_seq ?_
    refine g_region ?_
    refine l_assign rfl rfl ?_
    refine l_nil ?_
    refine g_ret Try.func25 rfl (.tmp rfl .nil) ?_
    (first | ((have hnl : nl = false := hb35); subst hnl; subst hk; exact Gives.mki ⟨by simp [resVal], W.set at_.toNat x, rfl, .set hW hU x0 x1⟩) | exact Gives.mki ⟨by simp [resVal], W, rfl, .stay hW hU⟩)
  intro hbr
  have hbr := of_decide_eq_false hbr
  refine g_skip ?_
  refine g_seq ?_
  refine g_seq ?_
  refine g_region ?_
  refine l_fieldAddr rfl fa_55_6 rfl ?_
  refine l_ld rfl Try.isAgg4 rfl rfl ?_
  refine l_nil ?_
  refine g_cond rfl ?_ ?_
  · intro hbr
    have hb35 := hbr
    refine g_seq ?_
    refine g_region ?_
    refine l_assign rfl rfl ?_
    refine l_nil ?_
    refine g_region ?_
    refine l_assign rfl rfl ?_
    refine l_nil ?_
    refine g_seq ?_
    refine g_seq ?_
    refine g_region ?_
    refine l_fieldAddr rfl fa_55_0 rfl ?_
    first | refine l_ld rfl Try.isAgg3 rfl rfl ?_ | refine l_ldw rfl Try.isAgg3 rfl (by omega) ?_
    refine l_nil ?_
    refine g_block ?_
    refine g_seq ?_
    refine g_region ?_
    refine l_eql rfl rfl rfl ?_
    refine l_assign rfl rfl ?_
    refine l_nil ?_
    refine g_cond rfl ?_ ?_
    · intro hbr
      have hbr := of_decide_eq_true hbr
      (exfalso; omega)
    intro hbr
    have hbr := of_decide_eq_false hbr
    refine g_seq ?_
    refine g_region ?_
    refine l_eql rfl rfl rfl ?_
    refine l_assign rfl rfl ?_
    refine l_nil ?_
    refine g_cond rfl ?_ ?_
    · intro hbr
      have hbr := of_decide_eq_true hbr
      (exfalso; omega)
    intro hbr
    have hbr := of_decide_eq_false hbr
    refine g_seq ?_
    refine g_region ?_
    refine l_eql rfl rfl rfl ?_
    refine l_assign rfl rfl ?_
    refine l_nil ?_
    refine g_cond rfl ?_ ?_
    · intro hbr
      have hbr := of_decide_eq_true hbr
      (exfalso; omega)
    intro hbr
    have hbr := of_decide_eq_false hbr
    refine g_seq ?_
    refine g_region ?_
    refine l_eql rfl rfl rfl ?_
    refine l_assign rfl rfl ?_
    refine l_nil ?_
    refine g_cond rfl ?_ ?_
    · intro hbr
      have hbr := of_decide_eq_true hbr
      refine g_seq ?_
      refine g_region ?_
      refine l_move rfl rfl ?_
      refine l_fieldAddr rfl fa_55_1 rfl ?_
      first | refine l_ld rfl Try.isAgg3 rfl rfl ?_ | refine l_ldw rfl Try.isAgg3 rfl (by omega) ?_
      refine l_fieldAddr rfl fa_55_5 rfl ?_
      first | refine l_ld rfl Try.isAgg28 rfl rfl ?_ | refine l_ldw rfl Try.isAgg28 rfl (by omega) ?_
      refine l_call rfl Try.call10 rfl (write_nil _ _ at_ x) ?_; rintro _ _ ⟨rfl, rfl⟩
      refine l_assign rfl rfl ?_
      refine l_nil ?_
      refine g_seq ?_
      refine g_region ?_
      refine l_move rfl rfl ?_
      refine l_move rfl rfl ?_
      refine l_fieldAddr rfl fa_55_1 rfl ?_
      first | refine l_ld rfl Try.isAgg3 rfl rfl ?_ | refine l_ldw rfl Try.isAgg3 rfl (by omega) ?_
      refine l_fieldAddr rfl fa_55_5 rfl ?_
      first | refine l_ld rfl Try.isAgg28 rfl rfl ?_ | refine l_ldw rfl Try.isAgg28 rfl (by omega) ?_
      refine l_call rfl Try.call41 rfl (rwrite_nil _ _ at_ x) ?_; rintro _ _ ⟨rfl, rfl⟩
      refine l_eql rfl rfl rfl ?_
      refine l_assign rfl rfl ?_
      refine l_nil ?_
      refine g_ret Try.func25 rfl (.tmp rfl .nil) ?_
      (first | ((have hnl : nl = false := hb35); subst hnl; subst hk; exact Gives.mki ⟨by simp [resVal], W.set at_.toNat x, rfl, .set hW hU x0 x1⟩) | exact Gives.mki ⟨by simp [resVal], W, rfl, .stay hW hU⟩)
    · intro hbr
      have hbr := of_decide_eq_false hbr
      (exfalso; omega)
  intro hbr
  have hb35 := hbr
  refine g_skip ?_
  refine g_seq ?_
  refine g_seq ?_
  refine g_region ?_
  refine l_fieldAddr rfl fa_55_0 rfl ?_
  first | refine l_ld rfl Try.isAgg3 rfl rfl ?_ | refine l_ldw rfl Try.isAgg3 rfl (by omega) ?_
  refine l_nil ?_
  refine g_block ?_
  refine g_seq ?_
  refine g_region ?_
  refine l_eql rfl rfl rfl ?_
  refine l_assign rfl rfl ?_
  refine l_nil ?_
  refine g_cond rfl ?_ ?_
  · intro hbr
    have hbr := of_decide_eq_true hbr
    (exfalso; omega)
  intro hbr
  have hbr := of_decide_eq_false hbr
  refine g_seq ?_
  refine g_region ?_
  refine l_eql rfl rfl rfl ?_
  refine l_assign rfl rfl ?_
  refine l_nil ?_
  refine g_cond rfl ?_ ?_
  · intro hbr
    have hbr := of_decide_eq_true hbr
    (exfalso; omega)
  intro hbr
  have hbr := of_decide_eq_false hbr
  refine g_seq ?_
  refine g_region ?_
  refine l_eql rfl rfl rfl ?_
  refine l_assign rfl rfl ?_
  refine l_nil ?_
  refine g_cond rfl ?_ ?_
  · intro hbr
    have hbr := of_decide_eq_true hbr
    (exfalso; omega)
  intro hbr
  have hbr := of_decide_eq_false hbr
  refine g_seq ?_
  refine g_region ?_
  refine l_eql rfl rfl rfl ?_
  refine l_assign rfl rfl ?_
  refine l_nil ?_
  refine g_cond rfl ?_ ?_
  · intro hbr
    have hbr := of_decide_eq_true hbr
    refine g_seq ?_
    refine g_region ?_
    refine l_move rfl rfl ?_
    refine l_fieldAddr rfl fa_55_1 rfl ?_
    first | refine l_ld rfl Try.isAgg3 rfl rfl ?_ | refine l_ldw rfl Try.isAgg3 rfl (by omega) ?_
    refine l_fieldAddr rfl fa_55_5 rfl ?_
    first | refine l_ld rfl Try.isAgg28 rfl rfl ?_ | refine l_ldw rfl Try.isAgg28 rfl (by omega) ?_
    refine l_fronto g ?_
    refine l_frontb b ?_
    refine l_call rfl Try.call10 rfl (write_ok _ _ b g n c W hW hc hn at_ x at_1 h) ?_; rintro _ _ ⟨rfl, rfl⟩
    refine l_assign rfl rfl ?_
    refine l_nil ?_
    refine g_seq ?_
    refine g_region ?_
    refine l_move rfl rfl ?_
    refine l_move rfl rfl ?_
    refine l_fieldAddr rfl fa_55_1 rfl ?_
    first | refine l_ld rfl Try.isAgg3 rfl rfl ?_ | refine l_ldw rfl Try.isAgg3 rfl (by omega) ?_
    refine l_fieldAddr rfl fa_55_5 rfl ?_
    first | refine l_ld rfl Try.isAgg28 rfl rfl ?_ | refine l_ldw rfl Try.isAgg28 rfl (by omega) ?_
    refine l_fronto g2 ?_
    refine l_frontb b2 ?_
    refine l_call rfl Try.call41 rfl (rwrite_ok _ _ b2 g2 n c2 W hW hc2 hn at_ x at_1 h) ?_; rintro _ _ ⟨rfl, rfl⟩
    refine l_eql rfl rfl rfl ?_
    refine l_assign rfl rfl ?_
    refine l_nil ?_
    refine g_ret Try.func25 rfl (.tmp rfl .nil) ?_
    (first | ((have hnl : nl = false := hb35); subst hnl; subst hk; exact Gives.mki ⟨by simp [resVal], W.set at_.toNat x, rfl, .set hW hU x0 x1⟩) | exact Gives.mki ⟨by simp [resVal], W, rfl, .stay hW hU⟩)
  · intro hbr
    have hbr := of_decide_eq_false hbr
    (exfalso; omega)
set_option maxHeartbeats 4000000 in
theorem one_wr_bad (w0 : World) (F : List Atom) (b g n c b2 g2 c2 : Nat) (W : List Int) (hW : W.length = n) (hc : n ≤ c) (hc2 : n ≤ c2) (hn : n ≤ 1073741824) (hU : W32s W) (h16 : n % 16 = 0) (kd : Int) (at_ : Int) (at_0 : -9223372036854775808 ≤ at_) (at_1 : at_ ≤ 9223372036854775807) (wd : Int) (wd0 : -9223372036854775808 ≤ wd) (wd1 : wd ≤ 9223372036854775807) (x : Int) (x0 : 0 ≤ x) (x1 : x ≤ 4294967295) (nl : Bool) (am : Option Addr) (nm cm : Nat) (M : List Int) (hM : IR w0 F .u32 am nm M) (hMU : W32s M) (hnm : nm ≤ 9223372036854775807) (ap : Option Addr) (np cp : Nat) (P : List Int) (hI : IR w0 F .i64 ap np P) (hP : ∀ i, -9223372036854775808 ≤ P.getD i 0 ∧ P.getD i 0 ≤ 9223372036854775807) (hq : np ≤ 9223372036854775807) (hqc : np ≤ cp) (hk : kd = 4) (h : ¬ inR n at_ 1) :
    CallK Try.prog 25 [.pointer (some ⟨b, 0, none⟩), .pointer (some ⟨b2, 0, none⟩), .agg [Value.int .i64 kd, .int .i64 at_, .int .i64 wd, .slice am nm cm, .slice ap np cp, .int .u32 x, .bool nl].toArray] w0 (Blk b (.cells [Value.slice (some ⟨g, 0, none⟩) n c].toArray 63 (0, 0)) :: Own 28 1 (.slice (some ⟨g, 0, none⟩) n c) n (ints .u32 W) :: Blk b2 (.cells [Value.slice (some ⟨g2, 0, none⟩) n c2].toArray 58 (0, 0)) :: Own 28 1 (.slice (some ⟨g2, 0, none⟩) n c2) n (ints .u32 W) :: F) (Gives w0 fun v F2 => v = .bool true ∧ ∃ W2, F2 = Blk b (.cells [Value.slice (some ⟨g, 0, none⟩) n c].toArray 63 (0, 0)) :: Own 28 1 (.slice (some ⟨g, 0, none⟩) n c) n (ints .u32 W2) :: Blk b2 (.cells [Value.slice (some ⟨g2, 0, none⟩) n c2].toArray 58 (0, 0)) :: Own 28 1 (.slice (some ⟨g2, 0, none⟩) n c2) n (ints .u32 W2) :: F ∧ OneG n W kd at_ wd nl P np W2) := by
  refine c_enter Try.func25 rfl rfl rfl ?_
  refine g_seq ?_
  refine g_region ?_
  refine l_boxs rfl rfl ?_; intro b5
  refine l_assign rfl rfl ?_
  refine l_nil ?_
  refine g_seq ?_
  refine g_seq ?_
  refine g_region ?_
  refine l_fieldAddr rfl fa_55_3 rfl ?_
  refine l_ld rfl Try.isAgg29 rfl rfl ?_
  refine l_len rfl Try.underlying29 rfl ?_
  refine l_gtr rfl rfl rfl ?_
  refine l_move rfl rfl ?_
  refine l_split 28 rfl ?_ ?_
  · intro hbr
    have hbr := of_decide_eq_true hbr
    refine l_guard_no rfl rfl rfl ?_
    refine l_guard_no rfl rfl rfl ?_
    refine l_guard_no rfl rfl rfl ?_
    refine l_guard_no rfl rfl rfl ?_
    refine l_pick_t rfl rfl rfl ?_
    refine l_nil ?_
    refine g_cond_t rfl ?_
    refine g_seq ?_
    refine g_region ?_
    refine l_assign rfl rfl ?_
    refine l_nil ?_
    refine g_ret Try.func25 rfl (.tmp rfl .nil) ?_
    (first | exact Gives.mki ⟨by simp [resVal], W, rfl, .stay hW hU⟩)
  intro hbr
  have hbr := of_decide_eq_false hbr
  refine l_guard_yes rfl rfl ?_
  refine l_fieldAddr rfl fa_55_4 rfl ?_
  refine l_guard_yes rfl rfl ?_
  refine l_ld rfl Try.isAgg34 rfl rfl ?_
  refine l_guard_yes rfl rfl ?_
  refine l_len rfl Try.underlying34 rfl ?_
  refine l_guard_yes rfl rfl ?_
  refine l_gtr rfl rfl rfl ?_
  refine l_pick_f rfl rfl rfl ?_
  refine l_nil ?_
  refine g_cond rfl ?_ ?_
  · intro hbr
    have hbr := of_decide_eq_true hbr
    refine g_seq ?_
    refine g_region ?_
    refine l_assign rfl rfl ?_
    refine l_nil ?_
    refine g_ret Try.func25 rfl (.tmp rfl .nil) ?_
    (first | exact Gives.mki ⟨by simp [resVal], W, rfl, .stay hW hU⟩)
  intro hbr
  have hbr := of_decide_eq_false hbr
  refine g_skip ?_
  refine g_seq ?_
  refine g_seq ?_
  refine g_region ?_
  refine l_fieldAddr rfl fa_55_6 rfl ?_
  refine l_ld rfl Try.isAgg4 rfl rfl ?_
  refine l_nil ?_
  refine g_cond rfl ?_ ?_
  · intro hbr
    have hb35 := hbr
    refine g_seq ?_
    refine g_region ?_
    refine l_assign rfl rfl ?_
    refine l_nil ?_
    refine g_region ?_
    refine l_assign rfl rfl ?_
    refine l_nil ?_
    refine g_seq ?_
    refine g_seq ?_
    refine g_region ?_
    refine l_fieldAddr rfl fa_55_0 rfl ?_
    first | refine l_ld rfl Try.isAgg3 rfl rfl ?_ | refine l_ldw rfl Try.isAgg3 rfl (by omega) ?_
    refine l_nil ?_
    refine g_block ?_
    refine g_seq ?_
    refine g_region ?_
    refine l_eql rfl rfl rfl ?_
    refine l_assign rfl rfl ?_
    refine l_nil ?_
    refine g_cond rfl ?_ ?_
    · intro hbr
      have hbr := of_decide_eq_true hbr
      (exfalso; omega)
    intro hbr
    have hbr := of_decide_eq_false hbr
    refine g_seq ?_
    refine g_region ?_
    refine l_eql rfl rfl rfl ?_
    refine l_assign rfl rfl ?_
    refine l_nil ?_
    refine g_cond rfl ?_ ?_
    · intro hbr
      have hbr := of_decide_eq_true hbr
      (exfalso; omega)
    intro hbr
    have hbr := of_decide_eq_false hbr
    refine g_seq ?_
    refine g_region ?_
    refine l_eql rfl rfl rfl ?_
    refine l_assign rfl rfl ?_
    refine l_nil ?_
    refine g_cond rfl ?_ ?_
    · intro hbr
      have hbr := of_decide_eq_true hbr
      (exfalso; omega)
    intro hbr
    have hbr := of_decide_eq_false hbr
    refine g_seq ?_
    refine g_region ?_
    refine l_eql rfl rfl rfl ?_
    refine l_assign rfl rfl ?_
    refine l_nil ?_
    refine g_cond rfl ?_ ?_
    · intro hbr
      have hbr := of_decide_eq_true hbr
      refine g_seq ?_
      refine g_region ?_
      refine l_move rfl rfl ?_
      refine l_fieldAddr rfl fa_55_1 rfl ?_
      first | refine l_ld rfl Try.isAgg3 rfl rfl ?_ | refine l_ldw rfl Try.isAgg3 rfl (by omega) ?_
      refine l_fieldAddr rfl fa_55_5 rfl ?_
      first | refine l_ld rfl Try.isAgg28 rfl rfl ?_ | refine l_ldw rfl Try.isAgg28 rfl (by omega) ?_
      refine l_call rfl Try.call10 rfl (write_nil _ _ at_ x) ?_; rintro _ _ ⟨rfl, rfl⟩
      refine l_assign rfl rfl ?_
      refine l_nil ?_
      refine g_seq ?_
      refine g_region ?_
      refine l_move rfl rfl ?_
      refine l_move rfl rfl ?_
      refine l_fieldAddr rfl fa_55_1 rfl ?_
      first | refine l_ld rfl Try.isAgg3 rfl rfl ?_ | refine l_ldw rfl Try.isAgg3 rfl (by omega) ?_
      refine l_fieldAddr rfl fa_55_5 rfl ?_
      first | refine l_ld rfl Try.isAgg28 rfl rfl ?_ | refine l_ldw rfl Try.isAgg28 rfl (by omega) ?_
      refine l_call rfl Try.call41 rfl (rwrite_nil _ _ at_ x) ?_; rintro _ _ ⟨rfl, rfl⟩
      refine l_eql rfl rfl rfl ?_
      refine l_assign rfl rfl ?_
      refine l_nil ?_
      refine g_ret Try.func25 rfl (.tmp rfl .nil) ?_
      (first | exact Gives.mki ⟨by simp [resVal], W, rfl, .stay hW hU⟩)
    · intro hbr
      have hbr := of_decide_eq_false hbr
      (exfalso; omega)
  intro hbr
  have hb35 := hbr
  refine g_skip ?_
  refine g_seq ?_
  refine g_seq ?_
  refine g_region ?_
  refine l_fieldAddr rfl fa_55_0 rfl ?_
  first | refine l_ld rfl Try.isAgg3 rfl rfl ?_ | refine l_ldw rfl Try.isAgg3 rfl (by omega) ?_
  refine l_nil ?_
  refine g_block ?_
  refine g_seq ?_
  refine g_region ?_
  refine l_eql rfl rfl rfl ?_
  refine l_assign rfl rfl ?_
  refine l_nil ?_
  refine g_cond rfl ?_ ?_
  · intro hbr
    have hbr := of_decide_eq_true hbr
    (exfalso; omega)
  intro hbr
  have hbr := of_decide_eq_false hbr
  refine g_seq ?_
  refine g_region ?_
  refine l_eql rfl rfl rfl ?_
  refine l_assign rfl rfl ?_
  refine l_nil ?_
  refine g_cond rfl ?_ ?_
  · intro hbr
    have hbr := of_decide_eq_true hbr
    (exfalso; omega)
  intro hbr
  have hbr := of_decide_eq_false hbr
  refine g_seq ?_
  refine g_region ?_
  refine l_eql rfl rfl rfl ?_
  refine l_assign rfl rfl ?_
  refine l_nil ?_
  refine g_cond rfl ?_ ?_
  · intro hbr
    have hbr := of_decide_eq_true hbr
    (exfalso; omega)
  intro hbr
  have hbr := of_decide_eq_false hbr
  refine g_seq ?_
  refine g_region ?_
  refine l_eql rfl rfl rfl ?_
  refine l_assign rfl rfl ?_
  refine l_nil ?_
  refine g_cond rfl ?_ ?_
  · intro hbr
    have hbr := of_decide_eq_true hbr
    refine g_seq ?_
    refine g_region ?_
    refine l_move rfl rfl ?_
    refine l_fieldAddr rfl fa_55_1 rfl ?_
    first | refine l_ld rfl Try.isAgg3 rfl rfl ?_ | refine l_ldw rfl Try.isAgg3 rfl (by omega) ?_
    refine l_fieldAddr rfl fa_55_5 rfl ?_
    first | refine l_ld rfl Try.isAgg28 rfl rfl ?_ | refine l_ldw rfl Try.isAgg28 rfl (by omega) ?_
    refine l_fronto g ?_
    refine l_frontb b ?_
    refine l_call rfl Try.call10 rfl (write_bad _ _ b g n c W hW hc hn x at_ at_0 at_1 h) ?_; rintro _ _ ⟨rfl, rfl⟩
    refine l_assign rfl rfl ?_
    refine l_nil ?_
    refine g_seq ?_
    refine g_region ?_
    refine l_move rfl rfl ?_
    refine l_move rfl rfl ?_
    refine l_fieldAddr rfl fa_55_1 rfl ?_
    first | refine l_ld rfl Try.isAgg3 rfl rfl ?_ | refine l_ldw rfl Try.isAgg3 rfl (by omega) ?_
    refine l_fieldAddr rfl fa_55_5 rfl ?_
    first | refine l_ld rfl Try.isAgg28 rfl rfl ?_ | refine l_ldw rfl Try.isAgg28 rfl (by omega) ?_
    refine l_fronto g2 ?_
    refine l_frontb b2 ?_
    refine l_call rfl Try.call41 rfl (rwrite_bad _ _ b2 g2 n c2 W hW hc2 hn x at_ at_0 at_1 h) ?_; rintro _ _ ⟨rfl, rfl⟩
    refine l_eql rfl rfl rfl ?_
    refine l_assign rfl rfl ?_
    refine l_nil ?_
    refine g_ret Try.func25 rfl (.tmp rfl .nil) ?_
    (first | exact Gives.mki ⟨by simp [resVal], W, rfl, .stay hW hU⟩)
  · intro hbr
    have hbr := of_decide_eq_false hbr
    (exfalso; omega)
set_option maxHeartbeats 4000000 in
theorem one_rd (w0 : World) (F : List Atom) (b g n c b2 g2 c2 : Nat) (W : List Int) (hW : W.length = n) (hc : n ≤ c) (hc2 : n ≤ c2) (hn : n ≤ 1073741824) (hU : W32s W) (h16 : n % 16 = 0) (kd : Int) (at_ : Int) (at_0 : -9223372036854775808 ≤ at_) (at_1 : at_ ≤ 9223372036854775807) (wd : Int) (wd0 : -9223372036854775808 ≤ wd) (wd1 : wd ≤ 9223372036854775807) (x : Int) (x0 : 0 ≤ x) (x1 : x ≤ 4294967295) (nl : Bool) (am : Option Addr) (nm cm : Nat) (M : List Int) (hM : IR w0 F .u32 am nm M) (hMU : W32s M) (hnm : nm ≤ 9223372036854775807) (ap : Option Addr) (np cp : Nat) (P : List Int) (hI : IR w0 F .i64 ap np P) (hP : ∀ i, -9223372036854775808 ≤ P.getD i 0 ∧ P.getD i 0 ≤ 9223372036854775807) (hq : np ≤ 9223372036854775807) (hqc : np ≤ cp) (hk : kd ≠ 0 ∧ kd ≠ 1 ∧ kd ≠ 2 ∧ kd ≠ 4) :
    CallK Try.prog 25 [.pointer (some ⟨b, 0, none⟩), .pointer (some ⟨b2, 0, none⟩), .agg [Value.int .i64 kd, .int .i64 at_, .int .i64 wd, .slice am nm cm, .slice ap np cp, .int .u32 x, .bool nl].toArray] w0 (Blk b (.cells [Value.slice (some ⟨g, 0, none⟩) n c].toArray 63 (0, 0)) :: Own 28 1 (.slice (some ⟨g, 0, none⟩) n c) n (ints .u32 W) :: Blk b2 (.cells [Value.slice (some ⟨g2, 0, none⟩) n c2].toArray 58 (0, 0)) :: Own 28 1 (.slice (some ⟨g2, 0, none⟩) n c2) n (ints .u32 W) :: F) (Gives w0 fun v F2 => v = .bool true ∧ ∃ W2, F2 = Blk b (.cells [Value.slice (some ⟨g, 0, none⟩) n c].toArray 63 (0, 0)) :: Own 28 1 (.slice (some ⟨g, 0, none⟩) n c) n (ints .u32 W2) :: Blk b2 (.cells [Value.slice (some ⟨g2, 0, none⟩) n c2].toArray 58 (0, 0)) :: Own 28 1 (.slice (some ⟨g2, 0, none⟩) n c2) n (ints .u32 W2) :: F ∧ OneG n W kd at_ wd nl P np W2) := by
  refine c_enter Try.func25 rfl rfl rfl ?_
  refine g_seq ?_
  refine g_region ?_
  refine l_boxs rfl rfl ?_; intro b5
  refine l_assign rfl rfl ?_
  refine l_nil ?_
  refine g_seq ?_
  refine g_seq ?_
  refine g_region ?_
  refine l_fieldAddr rfl fa_55_3 rfl ?_
  refine l_ld rfl Try.isAgg29 rfl rfl ?_
  refine l_len rfl Try.underlying29 rfl ?_
  refine l_gtr rfl rfl rfl ?_
  refine l_move rfl rfl ?_
  refine l_split 28 rfl ?_ ?_
  · intro hbr
    have hbr := of_decide_eq_true hbr
    refine l_guard_no rfl rfl rfl ?_
    refine l_guard_no rfl rfl rfl ?_
    refine l_guard_no rfl rfl rfl ?_
    refine l_guard_no rfl rfl rfl ?_
    refine l_pick_t rfl rfl rfl ?_
    refine l_nil ?_
    refine g_cond_t rfl ?_
    refine g_seq ?_
    refine g_region ?_
    refine l_assign rfl rfl ?_
    refine l_nil ?_
    refine g_ret Try.func25 rfl (.tmp rfl .nil) ?_
    (first | exact Gives.mki ⟨by simp [resVal], W, rfl, .stay hW hU⟩)
  intro hbr
  have hbr := of_decide_eq_false hbr
  refine l_guard_yes rfl rfl ?_
  refine l_fieldAddr rfl fa_55_4 rfl ?_
  refine l_guard_yes rfl rfl ?_
  refine l_ld rfl Try.isAgg34 rfl rfl ?_
  refine l_guard_yes rfl rfl ?_
  refine l_len rfl Try.underlying34 rfl ?_
  refine l_guard_yes rfl rfl ?_
  refine l_gtr rfl rfl rfl ?_
  refine l_pick_f rfl rfl rfl ?_
  refine l_nil ?_
  refine g_cond rfl ?_ ?_
  · intro hbr
    have hbr := of_decide_eq_true hbr
    refine g_seq ?_
    refine g_region ?_
    refine l_assign rfl rfl ?_
    refine l_nil ?_
    refine g_ret Try.func25 rfl (.tmp rfl .nil) ?_
    (first | exact Gives.mki ⟨by simp [resVal], W, rfl, .stay hW hU⟩)
  intro hbr
  have hbr := of_decide_eq_false hbr
  refine g_skip ?_
  refine g_seq ?_
  refine g_seq ?_
  refine g_region ?_
  refine l_fieldAddr rfl fa_55_6 rfl ?_
  refine l_ld rfl Try.isAgg4 rfl rfl ?_
  refine l_nil ?_
  refine g_cond rfl ?_ ?_
  · intro hbr
    have hb35 := hbr
    refine g_seq ?_
    refine g_region ?_
    refine l_assign rfl rfl ?_
    refine l_nil ?_
    refine g_region ?_
    refine l_assign rfl rfl ?_
    refine l_nil ?_
    refine g_seq ?_
    refine g_seq ?_
    refine g_region ?_
    refine l_fieldAddr rfl fa_55_0 rfl ?_
    first | refine l_ld rfl Try.isAgg3 rfl rfl ?_ | refine l_ldw rfl Try.isAgg3 rfl (by omega) ?_
    refine l_nil ?_
    refine g_block ?_
    refine g_seq ?_
    refine g_region ?_
    refine l_eql rfl rfl rfl ?_
    refine l_assign rfl rfl ?_
    refine l_nil ?_
    refine g_cond rfl ?_ ?_
    · intro hbr
      have hbr := of_decide_eq_true hbr
      (exfalso; omega)
    intro hbr
    have hbr := of_decide_eq_false hbr
    refine g_seq ?_
    refine g_region ?_
    refine l_eql rfl rfl rfl ?_
    refine l_assign rfl rfl ?_
    refine l_nil ?_
    refine g_cond rfl ?_ ?_
    · intro hbr
      have hbr := of_decide_eq_true hbr
      (exfalso; omega)
    intro hbr
    have hbr := of_decide_eq_false hbr
    refine g_seq ?_
    refine g_region ?_
    refine l_eql rfl rfl rfl ?_
    refine l_assign rfl rfl ?_
    refine l_nil ?_
    refine g_cond rfl ?_ ?_
    · intro hbr
      have hbr := of_decide_eq_true hbr
      (exfalso; omega)
    intro hbr
    have hbr := of_decide_eq_false hbr
    refine g_seq ?_
    refine g_region ?_
    refine l_eql rfl rfl rfl ?_
    refine l_assign rfl rfl ?_
    refine l_nil ?_
    refine g_cond rfl ?_ ?_
    · intro hbr
      have hbr := of_decide_eq_true hbr
      (exfalso; omega)
    intro hbr
    have hbr := of_decide_eq_false hbr
    refine g_skip ?_
    refine g_inBlock ?_
    refine g_seq ?_
    refine g_region ?_
    refine l_move rfl rfl ?_
    refine l_fieldAddr rfl fa_55_1 rfl ?_
    first | refine l_ld rfl Try.isAgg3 rfl rfl ?_ | refine l_ldw rfl Try.isAgg3 rfl (by omega) ?_
    refine l_fieldAddr rfl fa_55_2 rfl ?_
    first | refine l_ld rfl Try.isAgg3 rfl rfl ?_ | refine l_ldw rfl Try.isAgg3 rfl (by omega) ?_
    refine l_call rfl Try.call18 rfl (readp_nil _ _ at_ wd) ?_; rintro _ _ ⟨rfl, rfl⟩
    refine l_move rfl rfl ?_
    refine l_extract rfl rfl rfl ?_
    refine l_extract rfl rfl rfl ?_
    refine l_extract rfl rfl rfl ?_
    refine l_extract rfl rfl rfl ?_
    refine l_assign rfl rfl ?_
    refine l_assign rfl rfl ?_
    refine l_assign rfl rfl ?_
    refine l_assign rfl rfl ?_
    refine l_nil ?_
    refine g_seq ?_
    refine g_region ?_
    refine l_move rfl rfl ?_
    refine l_fieldAddr rfl fa_55_1 rfl ?_
    first | refine l_ld rfl Try.isAgg3 rfl rfl ?_ | refine l_ldw rfl Try.isAgg3 rfl (by omega) ?_
    refine l_fieldAddr rfl fa_55_2 rfl ?_
    first | refine l_ld rfl Try.isAgg3 rfl rfl ?_ | refine l_ldw rfl Try.isAgg3 rfl (by omega) ?_
    refine l_call rfl Try.call42 rfl (rreadp_nil _ _ at_ wd) ?_; rintro _ _ ⟨rfl, rfl⟩
    refine l_move rfl rfl ?_
    refine l_extract rfl rfl rfl ?_
    refine l_extract rfl rfl rfl ?_
    refine l_extract rfl rfl rfl ?_
    refine l_extract rfl rfl rfl ?_
    refine l_assign rfl rfl ?_
    refine l_assign rfl rfl ?_
    refine l_assign rfl rfl ?_
    refine l_assign rfl rfl ?_
    refine l_nil ?_
    refine g_seq ?_
    refine g_region ?_
    refine l_move rfl rfl ?_
    refine l_move rfl rfl ?_
    refine l_eql rfl rfl rfl ?_
    refine l_move rfl rfl ?_
    refine l_split 163 rfl ?_ ?_
    · intro hbr
      have hbr := of_decide_eq_true hbr
      refine l_guard_yes rfl rfl ?_
      refine l_move rfl rfl ?_
      refine l_guard_yes rfl rfl ?_
      refine l_move rfl rfl ?_
      refine l_guard_yes rfl rfl ?_
      refine l_eqlb rfl Try.underlying4 rfl rfl ?_
      (first | rw [show (fr == fr) = true by simp] | skip)
      refine l_pick_t rfl rfl rfl ?_
      refine l_move rfl rfl ?_
      refine l_guard_yes rfl rfl ?_
      refine l_move rfl rfl ?_
      refine l_guard_yes rfl rfl ?_
      refine l_move rfl rfl ?_
      refine l_guard_yes rfl rfl ?_
      refine l_eqlb rfl Try.underlying4 rfl rfl ?_
      (first | rw [show (th == th) = true by simp] | skip)
      refine l_pick_t rfl rfl rfl ?_
      refine l_move rfl rfl ?_
      refine l_guard_yes rfl rfl ?_
      refine l_move rfl rfl ?_
      refine l_guard_yes rfl rfl ?_
      refine l_move rfl rfl ?_
      refine l_guard_yes rfl rfl ?_
      refine l_call rfl Try.call19 rfl (same_words _ _ none none 0 0 0 [] ⟨rfl, .inl rfl⟩ ⟨rfl, .inl rfl⟩ (W32s.of (by simp)) (by omega)) ?_; rintro _ _ ⟨rfl, rfl⟩
      refine l_pick_t rfl rfl rfl ?_
      refine l_assign rfl rfl ?_
      refine l_nil ?_
      refine g_ret Try.func25 rfl (.tmp rfl .nil) ?_
      (first | exact Gives.mki ⟨by simp [resVal], W, rfl, .stay hW hU⟩)
    · intro hbr
      have hbr := of_decide_eq_false hbr
      (exfalso; omega)
  intro hbr
  have hb35 := hbr
  refine g_skip ?_
  refine g_seq ?_
  refine g_seq ?_
  refine g_region ?_
  refine l_fieldAddr rfl fa_55_0 rfl ?_
  first | refine l_ld rfl Try.isAgg3 rfl rfl ?_ | refine l_ldw rfl Try.isAgg3 rfl (by omega) ?_
  refine l_nil ?_
  refine g_block ?_
  refine g_seq ?_
  refine g_region ?_
  refine l_eql rfl rfl rfl ?_
  refine l_assign rfl rfl ?_
  refine l_nil ?_
  refine g_cond rfl ?_ ?_
  · intro hbr
    have hbr := of_decide_eq_true hbr
    (exfalso; omega)
  intro hbr
  have hbr := of_decide_eq_false hbr
  refine g_seq ?_
  refine g_region ?_
  refine l_eql rfl rfl rfl ?_
  refine l_assign rfl rfl ?_
  refine l_nil ?_
  refine g_cond rfl ?_ ?_
  · intro hbr
    have hbr := of_decide_eq_true hbr
    (exfalso; omega)
  intro hbr
  have hbr := of_decide_eq_false hbr
  refine g_seq ?_
  refine g_region ?_
  refine l_eql rfl rfl rfl ?_
  refine l_assign rfl rfl ?_
  refine l_nil ?_
  refine g_cond rfl ?_ ?_
  · intro hbr
    have hbr := of_decide_eq_true hbr
    (exfalso; omega)
  intro hbr
  have hbr := of_decide_eq_false hbr
  refine g_seq ?_
  refine g_region ?_
  refine l_eql rfl rfl rfl ?_
  refine l_assign rfl rfl ?_
  refine l_nil ?_
  refine g_cond rfl ?_ ?_
  · intro hbr
    have hbr := of_decide_eq_true hbr
    (exfalso; omega)
  intro hbr
  have hbr := of_decide_eq_false hbr
  refine g_skip ?_
  refine g_inBlock ?_
  refine g_seq ?_
  refine g_region ?_
  refine l_move rfl rfl ?_
  refine l_fieldAddr rfl fa_55_1 rfl ?_
  first | refine l_ld rfl Try.isAgg3 rfl rfl ?_ | refine l_ldw rfl Try.isAgg3 rfl (by omega) ?_
  refine l_fieldAddr rfl fa_55_2 rfl ?_
  first | refine l_ld rfl Try.isAgg3 rfl rfl ?_ | refine l_ldw rfl Try.isAgg3 rfl (by omega) ?_
  refine l_fronto g ?_
  refine l_frontb b ?_
  refine l_call rfl Try.call18 rfl (readp_ok _ _ b g n c W hW hc hn hU h16 at_ at_0 at_1 wd wd0 wd1) ?_; rintro _ _ ⟨a1, q1, c1, T, fr, th, e, rfl, hT, ha1, rfl, hR⟩
  refine l_move rfl rfl ?_
  refine l_extract rfl rfl rfl ?_
  refine l_extract rfl rfl rfl ?_
  refine l_extract rfl rfl rfl ?_
  refine l_extract rfl rfl rfl ?_
  refine l_assign rfl rfl ?_
  refine l_assign rfl rfl ?_
  refine l_assign rfl rfl ?_
  refine l_assign rfl rfl ?_
  refine l_nil ?_
  refine g_seq ?_
  refine g_region ?_
  refine l_move rfl rfl ?_
  refine l_fieldAddr rfl fa_55_1 rfl ?_
  first | refine l_ld rfl Try.isAgg3 rfl rfl ?_ | refine l_ldw rfl Try.isAgg3 rfl (by omega) ?_
  refine l_fieldAddr rfl fa_55_2 rfl ?_
  first | refine l_ld rfl Try.isAgg3 rfl rfl ?_ | refine l_ldw rfl Try.isAgg3 rfl (by omega) ?_
  refine l_fronto g2 ?_
  refine l_frontb b2 ?_
  refine l_call rfl Try.call42 rfl (rreadp_g _ _ b2 g2 n c2 W hW hc2 hn hU h16 at_ at_0 at_1 wd wd0 wd1) ?_; rintro _ _ ⟨a3, q3, c3, T3, fr3, th3, e3, a4, q4, c4, X4, rfl, rfl, hI3, hR3⟩
  obtain ⟨rfl, rfl, rfl, rfl⟩ := hR.same hR3
  obtain rfl : q1 = q3 := hT.symm.trans hI3.1
  obtain ⟨hTU, hTn⟩ := hR.u hU hW
  refine l_move rfl rfl ?_
  refine l_extract rfl rfl rfl ?_
  refine l_extract rfl rfl rfl ?_
  refine l_extract rfl rfl rfl ?_
  refine l_extract rfl rfl rfl ?_
  refine l_assign rfl rfl ?_
  refine l_assign rfl rfl ?_
  refine l_assign rfl rfl ?_
  refine l_assign rfl rfl ?_
  refine l_nil ?_
  refine g_seq ?_
  refine g_region ?_
  refine l_move rfl rfl ?_
  refine l_move rfl rfl ?_
  refine l_eql rfl rfl rfl ?_
  refine l_move rfl rfl ?_
  refine l_split 163 rfl ?_ ?_
  · intro hbr
    have hbr := of_decide_eq_true hbr
    refine l_guard_yes rfl rfl ?_
    refine l_move rfl rfl ?_
    refine l_guard_yes rfl rfl ?_
    refine l_move rfl rfl ?_
    refine l_guard_yes rfl rfl ?_
    refine l_eqlb rfl Try.underlying4 rfl rfl ?_
    (first | rw [show (fr == fr) = true by simp] | skip)
    refine l_pick_t rfl rfl rfl ?_
    refine l_move rfl rfl ?_
    refine l_guard_yes rfl rfl ?_
    refine l_move rfl rfl ?_
    refine l_guard_yes rfl rfl ?_
    refine l_move rfl rfl ?_
    refine l_guard_yes rfl rfl ?_
    refine l_eqlb rfl Try.underlying4 rfl rfl ?_
    (first | rw [show (th == th) = true by simp] | skip)
    refine l_pick_t rfl rfl rfl ?_
    refine l_move rfl rfl ?_
    refine l_guard_yes rfl rfl ?_
    refine l_move rfl rfl ?_
    refine l_guard_yes rfl rfl ?_
    refine l_move rfl rfl ?_
    refine l_guard_yes rfl rfl ?_
    have hsw := hI3.2
    refine l_call rfl Try.call19 rfl (same_words _ _ a1 a3 q1 c1 c3 T (IR.own hT (by first | exact mem_getO 0 rfl | exact mem_getO 1 rfl | exact mem_getO 2 rfl | exact mem_getO 3 rfl | exact mem_getO 4 rfl | exact mem_getO 5 rfl | exact mem_getO 6 rfl | exact mem_getO 7 rfl | exact mem_getO 8 rfl) ha1) hI3.ex hTU (by omega)) ?_; rintro _ _ ⟨rfl, rfl⟩
    refine l_pick_t rfl rfl rfl ?_
    refine l_assign rfl rfl ?_
    refine l_nil ?_
    refine g_ret Try.func25 rfl (.tmp rfl .nil) ?_
    (first | exact Gives.mki ⟨by simp [resVal], W, rfl, .stay hW hU⟩)
  · intro hbr
    have hbr := of_decide_eq_false hbr
    (exfalso; omega)
theorem one_any (w0 : World) (F : List Atom) (b g n c b2 g2 c2 : Nat) (W : List Int) (hW : W.length = n) (hc : n ≤ c) (hc2 : n ≤ c2) (hn : n ≤ 1073741824) (hU : W32s W) (h16 : n % 16 = 0) (kd : Int) (at_ : Int) (at_0 : -9223372036854775808 ≤ at_) (at_1 : at_ ≤ 9223372036854775807) (wd : Int) (wd0 : -9223372036854775808 ≤ wd) (wd1 : wd ≤ 9223372036854775807) (x : Int) (x0 : 0 ≤ x) (x1 : x ≤ 4294967295) (nl : Bool) (am : Option Addr) (nm cm : Nat) (M : List Int) (hM : IR w0 F .u32 am nm M) (hMU : W32s M) (hnm : nm ≤ 9223372036854775807) (ap : Option Addr) (np cp : Nat) (P : List Int) (hI : IR w0 F .i64 ap np P) (hP : ∀ i, -9223372036854775808 ≤ P.getD i 0 ∧ P.getD i 0 ≤ 9223372036854775807) (hq : np ≤ 9223372036854775807) (hqc : np ≤ cp) : CallK Try.prog 25 [.pointer (some ⟨b, 0, none⟩), .pointer (some ⟨b2, 0, none⟩), .agg [Value.int .i64 kd, .int .i64 at_, .int .i64 wd, .slice am nm cm, .slice ap np cp, .int .u32 x, .bool nl].toArray] w0 (Blk b (.cells [Value.slice (some ⟨g, 0, none⟩) n c].toArray 63 (0, 0)) :: Own 28 1 (.slice (some ⟨g, 0, none⟩) n c) n (ints .u32 W) :: Blk b2 (.cells [Value.slice (some ⟨g2, 0, none⟩) n c2].toArray 58 (0, 0)) :: Own 28 1 (.slice (some ⟨g2, 0, none⟩) n c2) n (ints .u32 W) :: F) (Gives w0 fun v F2 => v = .bool true ∧ ∃ W2, F2 = Blk b (.cells [Value.slice (some ⟨g, 0, none⟩) n c].toArray 63 (0, 0)) :: Own 28 1 (.slice (some ⟨g, 0, none⟩) n c) n (ints .u32 W2) :: Blk b2 (.cells [Value.slice (some ⟨g2, 0, none⟩) n c2].toArray 58 (0, 0)) :: Own 28 1 (.slice (some ⟨g2, 0, none⟩) n c2) n (ints .u32 W2) :: F ∧ OneG n W kd at_ wd nl P np W2) := by
  by_cases h0 : kd = 0
  · exact one_put w0 F b g n c b2 g2 c2 W hW hc hc2 hn hU h16 kd at_ at_0 at_1 wd wd0 wd1 x x0 x1 nl am nm cm M hM hMU hnm ap np cp P hI hP hq hqc h0
  by_cases h1 : kd = 1
  · exact one_stg w0 F b g n c b2 g2 c2 W hW hc hc2 hn hU h16 kd at_ at_0 at_1 wd wd0 wd1 x x0 x1 nl am nm cm M hM hMU hnm ap np cp P hI hP hq hqc h1
  by_cases h2 : kd = 2
  · exact one_del w0 F b g n c b2 g2 c2 W hW hc hc2 hn hU h16 kd at_ at_0 at_1 wd wd0 wd1 x x0 x1 nl am nm cm M hM hMU hnm ap np cp P hI hP hq hqc h2
  by_cases h4 : kd = 4
  · by_cases h : inR n at_ 1
    · exact one_wr_ok w0 F b g n c b2 g2 c2 W hW hc hc2 hn hU h16 kd at_ at_0 at_1 wd wd0 wd1 x x0 x1 nl am nm cm M hM hMU hnm ap np cp P hI hP hq hqc h4 h
    · exact one_wr_bad w0 F b g n c b2 g2 c2 W hW hc hc2 hn hU h16 kd at_ at_0 at_1 wd wd0 wd1 x x0 x1 nl am nm cm M hM hMU hnm ap np cp P hI hP hq hqc h4 h
  exact one_rd w0 F b g n c b2 g2 c2 W hW hc hc2 hn hU h16 kd at_ at_0 at_1 wd wd0 wd1 x x0 x1 nl am nm cm M hM hMU hnm ap np cp P hI hP hq hqc ⟨h0, h1, h2, h4⟩
end Go.Proofs.Ythngpcaljljlaaa.Fw
