import Derived.Test.YtlgcghhjgcdigaaWorld
import Derived.Test.YtlgcghhjgcdigaaAny5
import Derived.Test.YtlgcghhjgcdigaaLent
import Derived.Test.YtlgcghhjgcdigaaFw33
namespace Go.Proofs.Ytlgcghhjgcdigaa.Fw
open Go Go.Proofs
set_option linter.unusedVariables false
set_option linter.unusedSimpArgs false
set_option maxRecDepth 10000
theorem fa_65_1 (a : Addr) (w : World) : (Instr.fieldAt 65 (.pointer (some a)) 1).run Try.prog w = .ok (.pointer (some (a.add 1))) w := by
  simp [Instr.fieldAt, Try.runUnderlying65, Instr.sureAddr, fieldPlace, Try.sizeOf3, Sem.run_bind, Sem.run_pure]
theorem fa_65_0 (a : Addr) (w : World) : (Instr.fieldAt 65 (.pointer (some a)) 0).run Try.prog w = .ok (.pointer (some (a.add 0))) w := by
  simp [Instr.fieldAt, Try.runUnderlying65, Instr.sureAddr, fieldPlace, Try.sizeOf3, Sem.run_bind, Sem.run_pure]
theorem fa_94_0 (a : Addr) (w : World) : (Instr.fieldAt 94 (.pointer (some a)) 0).run Try.prog w = .ok (.pointer (some (a.add 0))) w := by
  simp [Instr.fieldAt, Try.runUnderlying94, Instr.sureAddr, fieldPlace, Try.sizeOf25, Sem.run_bind, Sem.run_pure]
theorem fa_65_3 (a : Addr) (w : World) : (Instr.fieldAt 65 (.pointer (some a)) 3).run Try.prog w = .ok (.pointer (some (a.add 3))) w := by
  simp [Instr.fieldAt, Try.runUnderlying65, Instr.sureAddr, fieldPlace, Try.sizeOf3, Sem.run_bind, Sem.run_pure]
theorem fa_94_1 (a : Addr) (w : World) : (Instr.fieldAt 94 (.pointer (some a)) 1).run Try.prog w = .ok (.pointer (some (a.add 1))) w := by
  simp [Instr.fieldAt, Try.runUnderlying94, Instr.sureAddr, fieldPlace, Try.sizeOf87, Sem.run_bind, Sem.run_pure]
theorem fa_65_6 (a : Addr) (w : World) : (Instr.fieldAt 65 (.pointer (some a)) 6).run Try.prog w = .ok (.pointer (some (a.add 6))) w := by
  simp [Instr.fieldAt, Try.runUnderlying65, Instr.sureAddr, fieldPlace, Try.sizeOf30, Sem.run_bind, Sem.run_pure]
theorem fa_65_4 (a : Addr) (w : World) : (Instr.fieldAt 65 (.pointer (some a)) 4).run Try.prog w = .ok (.pointer (some (a.add 4))) w := by
  simp [Instr.fieldAt, Try.runUnderlying65, Instr.sureAddr, fieldPlace, Try.sizeOf3, Sem.run_bind, Sem.run_pure]
theorem fa_74_2 (a : Addr) (w : World) : (Instr.fieldAt 74 (.pointer (some a)) 2).run Try.prog w = .ok (.pointer (some (a.add 2))) w := by
  simp [Instr.fieldAt, Try.runUnderlying74, Instr.sureAddr, fieldPlace, Try.sizeOf72, Sem.run_bind, Sem.run_pure]
theorem fa_65_7 (a : Addr) (w : World) : (Instr.fieldAt 65 (.pointer (some a)) 7).run Try.prog w = .ok (.pointer (some (a.add 7))) w := by
  simp [Instr.fieldAt, Try.runUnderlying65, Instr.sureAddr, fieldPlace, Try.sizeOf23, Sem.run_bind, Sem.run_pure]
theorem fa_65_5 (a : Addr) (w : World) : (Instr.fieldAt 65 (.pointer (some a)) 5).run Try.prog w = .ok (.pointer (some (a.add 5))) w := by
  simp [Instr.fieldAt, Try.runUnderlying65, Instr.sureAddr, fieldPlace, Try.sizeOf3, Sem.run_bind, Sem.run_pure]
theorem mp_row {w0 : World} {F : List Atom} {g N c i : Nat} {M : Nat → MP} {m : MP} (hm : Own 94 2 (.slice (some ⟨g, 0, none⟩) N c) N (rowsN N (fun j => mpR (M j))) ∈ F) (hi : i < N) (hx : M i = m) : RowAt w0 F g (0 + (i : Int).toNat * 2) (mpR m) := by
  have h := rn_row (w0 := w0) (f := fun j => mpR (M j)) (k := i) hm (mpR_len M N) hi
  rw [Int.toNat_natCast, ← hx]
  exact h
section
variable {P : Program} {f : Fr} {w0 : World} {K : Post} {n' : Nat} {d' : List Deferred} {ops : Array Oper} {rest : List Oper} {k : List Item} {e : Env} {F : List Atom} {N i x g c y h d n : Nat} {V V2 : List Int} {M : Nat → MP}
theorem l_openm (hi : i < N) (hm : M i = ⟨x, g, c, y, h, d, n, V⟩) (hk : GL P f w0 K n' d' ops rest k e (Blk x (.cells [Value.slice (some ⟨g, 0, none⟩) n c].toArray 77 (0, 0)) :: Own 30 1 (.slice (some ⟨g, 0, none⟩) n c) n (ints .u32 V) :: Blk y (.cells [Value.slice (some ⟨h, 0, none⟩) n d].toArray 104 (0, 0)) :: Own 30 1 (.slice (some ⟨h, 0, none⟩) n d) n (ints .u32 V) :: BigBut N i (fun j => mpA (M j)) :: F)) : GL P f w0 K n' d' ops rest k e (BigF N (fun j => mpA (M j)) :: F) := by
  refine l_focus (A := fun j => mpA (M j)) i hi ?_
  rw [hm]
  exact l_quad hk
theorem g_closem (hk : G P f w0 K n' d' k e (BigF N (fun j => mpA (upF M i ⟨x, g, c, y, h, d, n, V2⟩ j)) :: F)) : G P f w0 K n' d' k e (Blk x (.cells [Value.slice (some ⟨g, 0, none⟩) n c].toArray 77 (0, 0)) :: Own 30 1 (.slice (some ⟨g, 0, none⟩) n c) n (ints .u32 V2) :: Blk y (.cells [Value.slice (some ⟨h, 0, none⟩) n d].toArray 104 (0, 0)) :: Own 30 1 (.slice (some ⟨h, 0, none⟩) n d) n (ints .u32 V2) :: BigBut N i (fun j => mpA (M j)) :: F) := by
  refine g_unquad ?_
  exact g_unfocus (fun j => mpA (upF M i ⟨x, g, c, y, h, d, n, V2⟩ j)) (by simp only [upF_at]; rfl) (fun k _ hk => by simp only [upF_ne hk]) hk
end
theorem wr_ok {V : List Int} {n : Nat} (hV : V.length = n) (hU : W32s V) (a x : Int) (x0 : 0 ≤ x) (x1 : x ≤ 4294967295) : (wrW V n a x).length = n ∧ W32s (wrW V n a x) := by
  unfold wrW
  split
  · exact ⟨by simpa using hV, hU.set _ ⟨x0, x1⟩⟩
  · exact ⟨hV, hU⟩
theorem ly_ok {V Y : List Int} {n : Nat} (hV : V.length = n) (hU : W32s V) (hY : W32s Y) (a : Int) : (lyW V Y n a).length = n ∧ W32s (lyW V Y n a) := by
  unfold lyW
  split
  · rename_i h
    unfold inR at h
    exact ⟨by rw [spl_length (by omega)]; exact hV, hU.spl hY _⟩
  · exact ⟨hV, hU⟩
theorem fl_ok {V : List Int} {n : Nat} (hV : V.length = n) (hU : W32s V) (a k x : Int) (x0 : 0 ≤ x) (x1 : x ≤ 4294967295) : (flW V n a k x).length = n ∧ W32s (flW V n a k x) := by
  unfold flW
  split
  · rename_i h
    unfold inR at h
    exact ⟨by rw [spl_length (by simp; omega)]; exact hV, hU.spl (.rep _ ⟨x0, x1⟩) _⟩
  · exact ⟨hV, hU⟩
theorem mv_ok {V : List Int} {n : Nat} (hV : V.length = n) (hU : W32s V) (a f k : Int) : (mvW V n a f k).length = n ∧ W32s (mvW V n a f k) := by
  unfold mvW
  split
  · rename_i h
    have hp := part_len hV h.2
    have h1 := h.1
    unfold inR at h1
    exact ⟨by rw [spl_length (by omega)]; exact hV, hU.spl (part_w32 hU _ _) _⟩
  · exact ⟨hV, hU⟩
set_option maxHeartbeats 16000000 in
theorem works_ok (w0 : World) (F : List Atom) (wb : Nat) (S : WS) (hS : SOk S) (hN1 : 1 ≤ S.N) (hK : S.K ≤ 1099511627000) (kd : Int) (kd0 : -9223372036854775808 ≤ kd) (kd1 : kd ≤ 9223372036854775807) (who : Int) (who0 : -9223372036854775808 ≤ who) (who1 : who ≤ 9223372036854775807) (oth : Int) (oth0 : -9223372036854775808 ≤ oth) (oth1 : oth ≤ 9223372036854775807) (oa : Int) (oa0 : -9223372036854775808 ≤ oa) (oa1 : oa ≤ 9223372036854775807) (ob : Int) (ob0 : -9223372036854775808 ≤ ob) (ob1 : ob ≤ 9223372036854775807) (oc : Int) (oc0 : -9223372036854775808 ≤ oc) (oc1 : oc ≤ 9223372036854775807) (ox : Int) (ox0 : 0 ≤ ox) (ox1 : ox ≤ 4294967295) (sa : Option Addr) (sn sc : Nat) (Y : List Int) (hY : Y.length = sn) (hsn : sn ≤ 2147483647) (hR : IR w0 F .u32 sa sn Y) (hYU : W32s Y) :
    CallK Try.prog 27 [.pointer (some ⟨wb, 0, none⟩), .agg [Value.int .i64 kd, .int .i64 who, .int .i64 oth, .int .i64 oa, .int .i64 ob, .int .i64 oc, .int .u32 ox, .slice sa sn sc].toArray] w0 (Blk wb (.cells [Value.slice S.la S.N S.lc, .slice S.ia S.J S.ic, .slice S.ka S.K S.kc].toArray 74 (0, 0)) :: Own 94 2 (.slice S.la S.N S.lc) S.N (rowsN S.N (fun j => mpR (S.M j))) :: BigF S.N (fun j => mpA (S.M j)) :: Own 102 3 (.slice S.ia S.J S.ic) S.J (rowsN S.J (fun j => kiR (S.T j))) :: BigF S.J (fun j => kiA (S.T j)) :: Own 107 4 (.slice S.ka S.K S.kc) S.K (rowsN S.K (fun j => bkR (S.B j))) :: BigF S.K (fun j => bkA (S.B j)) :: F) (Gives w0 fun v F2 => ∃ S' : WS, v = .bool true ∧ SOk S' ∧ S.N ≤ S'.N ∧ S'.J ≤ S.J + 0 ∧ S'.K ≤ S.K + 2 ∧ F2 = Blk wb (.cells [Value.slice S'.la S'.N S'.lc, .slice S'.ia S'.J S'.ic, .slice S'.ka S'.K S'.kc].toArray 74 (0, 0)) :: Own 94 2 (.slice S'.la S'.N S'.lc) S'.N (rowsN S'.N (fun j => mpR (S'.M j))) :: BigF S'.N (fun j => mpA (S'.M j)) :: Own 102 3 (.slice S'.ia S'.J S'.ic) S'.J (rowsN S'.J (fun j => kiR (S'.T j))) :: BigF S'.J (fun j => kiA (S'.T j)) :: Own 107 4 (.slice S'.ka S'.K S'.kc) S'.K (rowsN S'.K (fun j => bkR (S'.B j))) :: BigF S'.K (fun j => bkA (S'.B j)) :: F) := by
  have hN := hS.hN
  obtain ⟨i, hi⟩ : ∃ q : Nat, pk who (S.N : Int) = (q : Int) := ⟨(pk who (S.N : Int)).toNat, by have := pk_lt who (n := (S.N : Int)) (by omega); omega⟩
  have hiN : i < S.N := by have := pk_lt who (n := (S.N : Int)) (by omega); omega
  obtain ⟨⟨x, g, c, y, h, d, n, V⟩, hm⟩ : ∃ q, S.M i = q := ⟨_, rfl⟩
  have hmo := hS.hM i hiN
  rw [hm] at hmo
  obtain ⟨m1, m2, m3, m4, m5, m6⟩ := hmo
  simp only at m1 m2 m3 m4 m5 m6
  obtain ⟨gl, hgl⟩ := hS.hla.resolve_left (by omega)
  refine c_enter Try.func27 rfl rfl rfl ?_
  refine g_seq ?_
  refine g_region ?_
  refine l_boxs rfl rfl ?_; intro b3
  refine l_assign rfl rfl ?_
  refine l_nil ?_
  refine g_seq ?_
  refine gp_start mo (by kernel_rfl) (by kernel_rfl) ?_
  rw [hgl]
  refine gp_quiet 0 rfl rfl rfl rfl rfl rfl (q_move rfl) ?_
  refine gp_quiet 1 rfl rfl rfl rfl rfl rfl (q_nilCheck rfl) ?_
  refine gp_quiet 2 rfl rfl rfl rfl rfl rfl (q_fieldAddr fa_74_0 rfl) ?_
  refine gp_quiet 3 rfl rfl rfl rfl rfl rfl (q_ld Try.isAgg68 rfl rfl) ?_
  refine gp_quiet 4 rfl rfl rfl rfl rfl rfl (q_fieldAddr fa_65_1 rfl) ?_
  first | refine gp_quiet 5 rfl rfl rfl rfl rfl rfl (q_ld Try.isAgg3 rfl rfl) ?_ | refine gp_quiet 5 rfl rfl rfl rfl rfl rfl (q_ldw Try.isAgg3 rfl (by omega)) ?_
  refine gp_quiet 6 rfl rfl rfl rfl rfl rfl (q_move rfl) ?_
  refine gp_quiet 7 rfl rfl rfl rfl rfl rfl (q_nilCheck rfl) ?_
  refine gp_quiet 8 rfl rfl rfl rfl rfl rfl (q_fieldAddr fa_74_0 rfl) ?_
  refine gp_quiet 9 rfl rfl rfl rfl rfl rfl (q_ld Try.isAgg68 rfl rfl) ?_
  refine gp_quiet 10 rfl rfl rfl rfl rfl rfl (q_len Try.underlying68 rfl) ?_
  refine gp_two 11 [5, 10] [9, 8, 7, 6, 4, 3, 2, 1, 0] 14 [] [10, 9, 8, 7, 6, 5, 4, 3, 2, 1, 0] rfl rfl rfl rfl rfl rfl (does_call Try.call8 rfl (pick_ok _ _ who (S.N : Int) (by omega) (by omega) (by omega) (by omega))) (does_allocs Try.zeroValue94) ?_ ?_
  · rintro _ _ ⟨rfl, rfl⟩
    rw [hi]
    refine ⟨?_, ?_⟩
    · refine .cons rfl rfl rfl rfl rfl (q_ld Try.isAgg68 rfl rfl) ?_
      refine .cons rfl rfl rfl rfl rfl (q_fieldAddr fa_74_0 rfl) ?_
      refine .cons rfl rfl rfl rfl rfl (q_nilCheck rfl) ?_
      refine .cons rfl rfl rfl rfl rfl (q_move rfl) ?_
      refine .cons rfl rfl rfl rfl rfl (q_fieldAddr fa_65_1 rfl) ?_
      refine .cons rfl rfl rfl rfl rfl (q_ld Try.isAgg68 rfl rfl) ?_
      refine .cons rfl rfl rfl rfl rfl (q_fieldAddr fa_74_0 rfl) ?_
      refine .cons rfl rfl rfl rfl rfl (q_nilCheck rfl) ?_
      refine .cons rfl rfl rfl rfl rfl (q_move rfl) ?_
      exact .nil
    refine gp_quiet 12 rfl rfl rfl rfl rfl rfl (q_ixs Try.underlying68 Try.sizeOf94 rfl rfl (by omega) (by omega)) ?_
    refine gp_quiet 13 rfl rfl rfl rfl rfl rfl (q_loadr (l := [.pointer (some ⟨x, 0, none⟩), .pointer (some ⟨y, 0, none⟩)]) Try.isAgg94 Try.sizeOf94 rfl rfl (mp_row (by first | exact mem_getO 0 rfl | exact mem_getO 1 rfl | exact mem_getO 2 rfl | exact mem_getO 3 rfl | exact mem_getO 4 rfl | exact mem_getO 5 rfl | exact mem_getO 6 rfl | exact mem_getO 7 rfl | exact mem_getO 8 rfl | exact mem_getO 9 rfl | exact mem_getO 10 rfl | exact mem_getO 11 rfl) hiN hm)) ?_
    refine gp_eff 14 rfl rfl rfl rfl rfl rfl (does_allocs Try.zeroValue94) ?_
    rintro _ _ ⟨b5, rfl, rfl⟩
    refine ⟨?_, ?_⟩
    · refine .cons rfl rfl rfl rfl rfl (q_loadr (l := [.pointer (some ⟨x, 0, none⟩), .pointer (some ⟨y, 0, none⟩)]) Try.isAgg94 Try.sizeOf94 rfl rfl (mp_row (by first | exact mem_getO 0 rfl | exact mem_getO 1 rfl | exact mem_getO 2 rfl | exact mem_getO 3 rfl | exact mem_getO 4 rfl | exact mem_getO 5 rfl | exact mem_getO 6 rfl | exact mem_getO 7 rfl | exact mem_getO 8 rfl | exact mem_getO 9 rfl | exact mem_getO 10 rfl | exact mem_getO 11 rfl) hiN hm)) ?_
      refine .cons rfl rfl rfl rfl rfl (q_ixs Try.underlying68 Try.sizeOf94 rfl rfl (by omega) (by omega)) ?_
      refine .cons rfl rfl rfl rfl rfl (q_ld Try.isAgg68 rfl rfl) ?_
      refine .cons rfl rfl rfl rfl rfl (q_fieldAddr fa_74_0 rfl) ?_
      refine .cons rfl rfl rfl rfl rfl (q_nilCheck rfl) ?_
      refine .cons rfl rfl rfl rfl rfl (q_move rfl) ?_
      refine .cons rfl rfl rfl rfl rfl (q_fieldAddr fa_65_1 rfl) ?_
      refine .cons rfl rfl rfl rfl rfl (q_ld Try.isAgg68 rfl rfl) ?_
      refine .cons rfl rfl rfl rfl rfl (q_fieldAddr fa_74_0 rfl) ?_
      refine .cons rfl rfl rfl rfl rfl (q_nilCheck rfl) ?_
      refine .cons rfl rfl rfl rfl rfl (q_move rfl) ?_
      exact .nil
    refine gp_effa 15 [0, 1, 2, 3, 4, 6, 7, 8, 9, 12, 13] [] rfl rfl rfl rfl rfl rfl rfl (does_sts Try.sizeOf94 rfl rfl rfl rfl rfl) ?_
    rintro _ _ ⟨rfl, rfl⟩
    refine ⟨?_, ?_⟩
    · exact .nil
    refine gp_end rfl rfl ?_
    refine g_seq ?_
    refine g_seq ?_
    refine g_region ?_
    rw [← hgl]
    refine l_take (BigF S.N (fun j => mpA (S.M j))) ?_
    refine l_openm hiN hm ?_
    refine l_fieldAddr rfl fa_65_0 rfl ?_
    first | refine l_ld rfl Try.isAgg3 rfl rfl ?_ | refine l_ldw rfl Try.isAgg3 rfl (by omega) ?_
    refine l_nil ?_
    refine g_block ?_
    refine g_seq ?_
    refine g_region ?_
    refine l_eql rfl rfl rfl ?_
    refine l_assign rfl rfl ?_
    refine l_nil ?_
    refine g_cond rfl ?_ ?_
    · intro hbr
      have hbr := of_decide_eq_true hbr
      refine g_seq ?_
      refine g_region ?_
      refine l_fieldAddr rfl fa_94_0 rfl ?_
      refine l_ld rfl Try.isAgg25 rfl rfl ?_
      refine l_fieldAddr rfl fa_65_3 rfl ?_
      first | refine l_ld rfl Try.isAgg3 rfl rfl ?_ | refine l_ldw rfl Try.isAgg3 rfl (by omega) ?_
      refine l_take (Own 30 1 (.slice (some ⟨g, 0, none⟩) n c) n (ints .u32 V)) ?_
      refine l_take (Blk x (.cells [Value.slice (some ⟨g, 0, none⟩) n c].toArray 77 (0, 0))) ?_
      refine l_call rfl Try.call12 rfl (read_any _ _ x g n c V m1 m2 (by omega) oa oa0 oa1) ?_; rintro _ _ ⟨rfl, rfl⟩
      refine l_move rfl rfl ?_
      refine l_extract rfl rfl rfl ?_
      refine l_extract rfl rfl rfl ?_
      refine l_assign rfl rfl ?_
      refine l_assign rfl rfl ?_
      refine l_nil ?_
      refine g_seq ?_
      refine g_region ?_
      refine l_fieldAddr rfl fa_94_1 rfl ?_
      refine l_ld rfl Try.isAgg87 rfl rfl ?_
      refine l_fieldAddr rfl fa_65_3 rfl ?_
      first | refine l_ld rfl Try.isAgg3 rfl rfl ?_ | refine l_ldw rfl Try.isAgg3 rfl (by omega) ?_
      refine l_take (Own 30 1 (.slice (some ⟨h, 0, none⟩) n d) n (ints .u32 V)) ?_
      refine l_take (Blk y (.cells [Value.slice (some ⟨h, 0, none⟩) n d].toArray 104 (0, 0))) ?_
      refine l_call rfl Try.call50 rfl (rread_any _ _ y h n d V m1 m3 (by omega) oa oa0 oa1) ?_; rintro _ _ ⟨rfl, rfl⟩
      refine l_move rfl rfl ?_
      refine l_extract rfl rfl rfl ?_
      refine l_extract rfl rfl rfl ?_
      refine l_assign rfl rfl ?_
      refine l_assign rfl rfl ?_
      refine l_nil ?_
      refine g_seq ?_
      refine g_region ?_
      refine l_move rfl rfl ?_
      refine l_move rfl rfl ?_
      refine l_eql rfl rfl rfl ?_
      refine l_move rfl rfl ?_
      refine l_split 66 rfl ?_ ?_
      · intro hbr
        have hbr := of_decide_eq_true hbr
        refine l_guard_yes rfl rfl ?_
        refine l_move rfl rfl ?_
        refine l_guard_yes rfl rfl ?_
        refine l_move rfl rfl ?_
        refine l_guard_yes rfl rfl ?_
        refine l_eql rfl rfl rfl ?_
        refine l_pick_t rfl rfl rfl ?_
        refine l_assign rfl rfl ?_
        refine l_nil ?_
        refine g_take (BigBut S.N i (fun j => mpA (S.M j))) ?_
        refine g_take (Own 30 1 (.slice (some ⟨h, 0, none⟩) n d) n (ints .u32 V)) ?_
        refine g_take (Blk y (.cells [Value.slice (some ⟨h, 0, none⟩) n d].toArray 104 (0, 0))) ?_
        refine g_take (Own 30 1 (.slice (some ⟨g, 0, none⟩) n c) n (ints .u32 V)) ?_
        refine g_take (Blk x (.cells [Value.slice (some ⟨g, 0, none⟩) n c].toArray 77 (0, 0))) ?_
        refine g_closem ?_
        rw [mp_rows (i := i) (m := ⟨x, g, c, y, h, d, n, V⟩) (by rw [hm] <;> rfl)]
        refine g_ret Try.func27 rfl (.tmp rfl .nil) ?_
        exact Gives.mki ⟨⟨S.N, upF S.M i ⟨x, g, c, y, h, d, n, V⟩, S.la, S.lc, S.J, S.T, S.ia, S.ic, S.K, S.B, S.ka, S.kc⟩, (by first | rfl | exact congrArg Value.bool (decide_eq_true rfl) | (simp [resVal]; done)), (hS.put (i := i) (m := ⟨x, g, c, y, h, d, n, V⟩) ⟨m1, m2, m3, m4, m5, m6⟩ (by rw [hm])), Nat.le_refl _, by simp only; omega, by simp only; omega, rfl⟩
      · intro hbr
        have hbr := of_decide_eq_false hbr
        (exfalso; first | omega | (simp at hbr; done))
    intro hbr
    have hbr := of_decide_eq_false hbr
    refine g_seq ?_
    refine g_region ?_
    refine l_eql rfl rfl rfl ?_
    refine l_assign rfl rfl ?_
    refine l_nil ?_
    refine g_cond rfl ?_ ?_
    · intro hbr
      have hbr := of_decide_eq_true hbr
      refine g_seq ?_
      refine g_region ?_
      refine l_fieldAddr rfl fa_94_0 rfl ?_
      refine l_ld rfl Try.isAgg25 rfl rfl ?_
      refine l_fieldAddr rfl fa_65_3 rfl ?_
      first | refine l_ld rfl Try.isAgg3 rfl rfl ?_ | refine l_ldw rfl Try.isAgg3 rfl (by omega) ?_
      refine l_fieldAddr rfl fa_65_6 rfl ?_
      first | refine l_ld rfl Try.isAgg30 rfl rfl ?_ | refine l_ldw rfl Try.isAgg30 rfl (by omega) ?_
      refine l_take (Own 30 1 (.slice (some ⟨g, 0, none⟩) n c) n (ints .u32 V)) ?_
      refine l_take (Blk x (.cells [Value.slice (some ⟨g, 0, none⟩) n c].toArray 77 (0, 0))) ?_
      refine l_call rfl Try.call10 rfl (write_any _ _ x g n c V m1 m2 (by omega) oa oa0 oa1 ox) ?_; rintro _ _ ⟨rfl, rfl⟩
      refine l_assign rfl rfl ?_
      refine l_nil ?_
      refine g_seq ?_
      refine g_region ?_
      refine l_move rfl rfl ?_
      refine l_fieldAddr rfl fa_94_1 rfl ?_
      refine l_ld rfl Try.isAgg87 rfl rfl ?_
      refine l_fieldAddr rfl fa_65_3 rfl ?_
      first | refine l_ld rfl Try.isAgg3 rfl rfl ?_ | refine l_ldw rfl Try.isAgg3 rfl (by omega) ?_
      refine l_fieldAddr rfl fa_65_6 rfl ?_
      first | refine l_ld rfl Try.isAgg30 rfl rfl ?_ | refine l_ldw rfl Try.isAgg30 rfl (by omega) ?_
      refine l_take (Own 30 1 (.slice (some ⟨h, 0, none⟩) n d) n (ints .u32 V)) ?_
      refine l_take (Blk y (.cells [Value.slice (some ⟨h, 0, none⟩) n d].toArray 104 (0, 0))) ?_
      refine l_call rfl Try.call51 rfl (rwrite_any _ _ y h n d V m1 m3 (by omega) oa oa0 oa1 ox) ?_; rintro _ _ ⟨rfl, rfl⟩
      refine l_eql rfl rfl rfl ?_
      refine l_assign rfl rfl ?_
      refine l_nil ?_
      refine g_take (BigBut S.N i (fun j => mpA (S.M j))) ?_
      refine g_take (Own 30 1 (.slice (some ⟨h, 0, none⟩) n d) n (ints .u32 (wrW V n oa ox))) ?_
      refine g_take (Blk y (.cells [Value.slice (some ⟨h, 0, none⟩) n d].toArray 104 (0, 0))) ?_
      refine g_take (Own 30 1 (.slice (some ⟨g, 0, none⟩) n c) n (ints .u32 (wrW V n oa ox))) ?_
      refine g_take (Blk x (.cells [Value.slice (some ⟨g, 0, none⟩) n c].toArray 77 (0, 0))) ?_
      refine g_closem ?_
      rw [mp_rows (i := i) (m := ⟨x, g, c, y, h, d, n, (wrW V n oa ox)⟩) (by rw [hm] <;> rfl)]
      refine g_ret Try.func27 rfl (.tmp rfl .nil) ?_
      exact Gives.mki ⟨⟨S.N, upF S.M i ⟨x, g, c, y, h, d, n, (wrW V n oa ox)⟩, S.la, S.lc, S.J, S.T, S.ia, S.ic, S.K, S.B, S.ka, S.kc⟩, (by first | rfl | exact congrArg Value.bool (decide_eq_true rfl) | (simp [resVal]; done)), (hS.put (i := i) (m := ⟨x, g, c, y, h, d, n, (wrW V n oa ox)⟩) ⟨(wr_ok m1 m6 oa ox ox0 ox1).1, m2, m3, m4, m5, (wr_ok m1 m6 oa ox ox0 ox1).2⟩ (by rw [hm])), Nat.le_refl _, by simp only; omega, by simp only; omega, rfl⟩
    intro hbr
    have hbr := of_decide_eq_false hbr
    refine g_seq ?_
    refine g_region ?_
    refine l_eql rfl rfl rfl ?_
    refine l_assign rfl rfl ?_
    refine l_nil ?_
    refine g_cond rfl ?_ ?_
    · intro hbr
      have hbr := of_decide_eq_true hbr
      refine g_seq ?_
      refine g_region ?_
      refine l_fieldAddr rfl fa_94_0 rfl ?_
      refine l_ld rfl Try.isAgg25 rfl rfl ?_
      refine l_fieldAddr rfl fa_65_3 rfl ?_
      first | refine l_ld rfl Try.isAgg3 rfl rfl ?_ | refine l_ldw rfl Try.isAgg3 rfl (by omega) ?_
      refine l_fieldAddr rfl fa_65_4 rfl ?_
      first | refine l_ld rfl Try.isAgg3 rfl rfl ?_ | refine l_ldw rfl Try.isAgg3 rfl (by omega) ?_
      refine l_take (Own 30 1 (.slice (some ⟨g, 0, none⟩) n c) n (ints .u32 V)) ?_
      refine l_take (Blk x (.cells [Value.slice (some ⟨g, 0, none⟩) n c].toArray 77 (0, 0))) ?_
      refine l_call rfl Try.call49 rfl (take_any _ _ x g n c V m1 m2 (by omega) oa oa0 oa1 ob ob0 ob1) ?_; rintro _ _ ⟨a11, c11, rfl, ha11, rfl⟩
      refine l_move rfl rfl ?_
      refine l_extract rfl rfl rfl ?_
      refine l_extract rfl rfl rfl ?_
      refine l_assign rfl rfl ?_
      refine l_assign rfl rfl ?_
      refine l_nil ?_
      refine g_seq ?_
      refine g_region ?_
      refine l_fieldAddr rfl fa_94_0 rfl ?_
      refine l_ld rfl Try.isAgg25 rfl rfl ?_
      refine l_fieldAddr rfl fa_65_3 rfl ?_
      first | refine l_ld rfl Try.isAgg3 rfl rfl ?_ | refine l_ldw rfl Try.isAgg3 rfl (by omega) ?_
      refine l_fieldAddr rfl fa_65_4 rfl ?_
      first | refine l_ld rfl Try.isAgg3 rfl rfl ?_ | refine l_ldw rfl Try.isAgg3 rfl (by omega) ?_
      refine l_take (Own 30 1 (.slice (some ⟨g, 0, none⟩) n c) n (ints .u32 V)) ?_
      refine l_take (Blk x (.cells [Value.slice (some ⟨g, 0, none⟩) n c].toArray 77 (0, 0))) ?_
      refine l_call rfl Try.call49 rfl (take_any _ _ x g n c V m1 m2 (by omega) oa oa0 oa1 ob ob0 ob1) ?_; rintro _ _ ⟨a13, c13, rfl, ha13, rfl⟩
      refine l_move rfl rfl ?_
      refine l_extract rfl rfl rfl ?_
      refine l_extract rfl rfl rfl ?_
      refine l_assign rfl rfl ?_
      refine l_assign rfl rfl ?_
      refine l_nil ?_
      refine g_seq ?_
      refine g_region ?_
      refine l_fieldAddr rfl fa_94_1 rfl ?_
      refine l_ld rfl Try.isAgg87 rfl rfl ?_
      refine l_fieldAddr rfl fa_65_3 rfl ?_
      first | refine l_ld rfl Try.isAgg3 rfl rfl ?_ | refine l_ldw rfl Try.isAgg3 rfl (by omega) ?_
      refine l_fieldAddr rfl fa_65_4 rfl ?_
      first | refine l_ld rfl Try.isAgg3 rfl rfl ?_ | refine l_ldw rfl Try.isAgg3 rfl (by omega) ?_
      refine l_take (Own 30 1 (.slice (some ⟨h, 0, none⟩) n d) n (ints .u32 V)) ?_
      refine l_take (Blk y (.cells [Value.slice (some ⟨h, 0, none⟩) n d].toArray 104 (0, 0))) ?_
      refine l_call rfl Try.call52 rfl (rtake_any _ _ y h n d V m1 m3 (by omega) oa oa0 oa1 ob ob0 ob1) ?_; rintro _ _ ⟨a15, c15, rfl, ha15, rfl⟩
      refine l_fact (own_cases (mem_getO 0 rfl)) ?_
      intro hown15
      refine l_move rfl rfl ?_
      refine l_extract rfl rfl rfl ?_
      refine l_extract rfl rfl rfl ?_
      refine l_assign rfl rfl ?_
      refine l_assign rfl rfl ?_
      refine l_nil ?_
      refine g_seq ?_
      refine g_region ?_
      refine l_move rfl rfl ?_
      refine l_nilCheck rfl rfl ?_
      refine l_fieldAddr rfl fa_74_2 rfl ?_
      refine l_move rfl rfl ?_
      refine l_move rfl rfl ?_
      refine l_take (Own 30 1 (.slice a11 (tkN n oa ob) c11) (tkN n oa ob) (ints .u32 (tkW V n oa ob))) ?_
      refine l_take (BigF S.K (fun j => bkA (S.B j))) ?_
      refine l_take (Own 107 4 (.slice S.ka S.K S.kc) S.K (rowsN S.K (fun j => bkR (S.B j)))) ?_
      refine l_take (Blk wb (.cells [Value.slice S.la S.N S.lc, .slice S.ia S.J S.ic, .slice S.ka S.K S.kc].toArray 74 (0, 0))) ?_
      refine l_call rfl Try.call53 rfl (keepw_ok _ _ wb _ _ S.ka S.K S.kc S.B hS.hB (by omega) a11 a15 (tkN n oa ob) c11 c15 (tkW V n oa ob) (tk_len m1 oa ob) (by have := tk_le (n := n) oa ob; omega) (tk_w m6 n oa ob) ha11 (Reads.own (E := 30) hown15.1 (hown15.2.2.imp id fun ⟨g, c, h, _⟩ => ⟨g, c, h⟩) (by first | exact mem_getO 0 rfl | exact mem_getO 1 rfl | exact mem_getO 2 rfl | exact mem_getO 3 rfl | exact mem_getO 4 rfl | exact mem_getO 5 rfl | exact mem_getO 6 rfl | exact mem_getO 7 rfl | exact mem_getO 8 rfl | exact mem_getO 9 rfl | exact mem_getO 10 rfl | exact mem_getO 11 rfl))) ?_; rintro _ _ ⟨B1, ka1, kc1, rfl, hB1, hka1, rfl⟩
      refine l_assign rfl rfl ?_
      refine l_nil ?_
      refine g_seq ?_
      refine g_region ?_
      refine l_move rfl rfl ?_
      refine l_nilCheck rfl rfl ?_
      refine l_fieldAddr rfl fa_74_2 rfl ?_
      refine l_move rfl rfl ?_
      refine l_move rfl rfl ?_
      refine l_take (Own 30 1 (.slice a13 (tkN n oa ob) c13) (tkN n oa ob) (ints .u32 (tkW V n oa ob))) ?_
      refine l_take (BigF (S.K + 1) (fun j => bkA (B1 j))) ?_
      refine l_take (Own 107 4 (.slice ka1 (S.K + 1) kc1) (S.K + 1) (rowsN (S.K + 1) (fun j => bkR (B1 j)))) ?_
      refine l_take (Blk wb (.cells [Value.slice S.la S.N S.lc, .slice S.ia S.J S.ic, .slice ka1 (S.K + 1) kc1].toArray 74 (0, 0))) ?_
      refine l_call rfl Try.call53 rfl (keepw_ok _ _ wb _ _ ka1 (S.K + 1) kc1 B1 hB1 (by omega) a13 a15 (tkN n oa ob) c13 c15 (tkW V n oa ob) (tk_len m1 oa ob) (by have := tk_le (n := n) oa ob; omega) (tk_w m6 n oa ob) ha13 (Reads.own (E := 30) hown15.1 (hown15.2.2.imp id fun ⟨g, c, h, _⟩ => ⟨g, c, h⟩) (by first | exact mem_getO 0 rfl | exact mem_getO 1 rfl | exact mem_getO 2 rfl | exact mem_getO 3 rfl | exact mem_getO 4 rfl | exact mem_getO 5 rfl | exact mem_getO 6 rfl | exact mem_getO 7 rfl | exact mem_getO 8 rfl | exact mem_getO 9 rfl | exact mem_getO 10 rfl | exact mem_getO 11 rfl))) ?_; rintro _ _ ⟨B2, ka2, kc2, rfl, hB2, hka2, rfl⟩
      refine l_assign rfl rfl ?_
      refine l_nil ?_
      refine g_seq ?_
      refine g_region ?_
      refine l_move rfl rfl ?_
      refine l_move rfl rfl ?_
      refine l_guard_yes rfl rfl ?_
      refine l_move rfl rfl ?_
      refine l_pick_t rfl rfl rfl ?_
      refine l_move rfl rfl ?_
      refine l_guard_yes rfl rfl ?_
      refine l_move rfl rfl ?_
      refine l_guard_yes rfl rfl ?_
      refine l_move rfl rfl ?_
      refine l_guard_yes rfl rfl ?_
      refine l_eql rfl rfl rfl ?_
      refine l_pick_t rfl rfl rfl ?_
      refine l_move rfl rfl ?_
      refine l_split 142 rfl ?_ ?_
      · intro hbr
        have hbr := of_decide_eq_true hbr
        refine l_guard_yes rfl rfl ?_
        refine l_move rfl rfl ?_
        refine l_guard_yes rfl rfl ?_
        refine l_move rfl rfl ?_
        refine l_guard_yes rfl rfl ?_
        refine l_eql rfl rfl rfl ?_
        refine l_pick_t rfl rfl rfl ?_
        refine l_assign rfl rfl ?_
        refine l_nil ?_
        refine g_take (BigBut S.N i (fun j => mpA (S.M j))) ?_
        refine g_take (Own 30 1 (.slice (some ⟨h, 0, none⟩) n d) n (ints .u32 V)) ?_
        refine g_take (Blk y (.cells [Value.slice (some ⟨h, 0, none⟩) n d].toArray 104 (0, 0))) ?_
        refine g_take (Own 30 1 (.slice (some ⟨g, 0, none⟩) n c) n (ints .u32 V)) ?_
        refine g_take (Blk x (.cells [Value.slice (some ⟨g, 0, none⟩) n c].toArray 77 (0, 0))) ?_
        refine g_closem ?_
        rw [mp_rows (i := i) (m := ⟨x, g, c, y, h, d, n, V⟩) (by rw [hm] <;> rfl)]
        refine g_ret Try.func27 rfl (.tmp rfl .nil) ?_
        exact Gives.mki ⟨⟨S.N, upF S.M i ⟨x, g, c, y, h, d, n, V⟩, S.la, S.lc, S.J, S.T, S.ia, S.ic, S.K + 1 + 1, B2, ka2, kc2⟩, (by first | rfl | exact congrArg Value.bool (decide_eq_true rfl) | (simp [resVal]; done)), ((hS.put (i := i) (m := ⟨x, g, c, y, h, d, n, V⟩) ⟨m1, m2, m3, m4, m5, m6⟩ (by rw [hm])).bk hB2 hka2 kc2), Nat.le_refl _, by simp only; omega, by simp only; omega, rfl⟩
      · intro hbr
        have hbr := of_decide_eq_false hbr
        (exfalso; first | omega | (simp at hbr; done))
    intro hbr
    have hbr := of_decide_eq_false hbr
    refine g_seq ?_
    refine g_region ?_
    refine l_eql rfl rfl rfl ?_
    refine l_assign rfl rfl ?_
    refine l_nil ?_
    refine g_cond rfl ?_ ?_
    · intro hbr
      have hbr := of_decide_eq_true hbr
      refine g_seq ?_
      refine g_region ?_
      refine l_fieldAddr rfl fa_65_7 rfl ?_
      refine l_ld rfl Try.isAgg23 rfl rfl ?_
      refine l_call rfl Try.call42 rfl (lent_ok _ _ sa sn sc Y hY hR.ex hsn hYU) ?_; rintro _ _ ⟨gq, X, rfl, hX, rfl⟩
      refine l_assign rfl rfl ?_
      refine l_nil ?_
      refine g_seq ?_
      refine g_region ?_
      refine l_fieldAddr rfl fa_94_0 rfl ?_
      refine l_ld rfl Try.isAgg25 rfl rfl ?_
      refine l_fieldAddr rfl fa_65_3 rfl ?_
      first | refine l_ld rfl Try.isAgg3 rfl rfl ?_ | refine l_ldw rfl Try.isAgg3 rfl (by omega) ?_
      refine l_move rfl rfl ?_
      refine l_take (Own 30 1 (.slice (some ⟨g, 0, none⟩) n c) n (ints .u32 V)) ?_
      refine l_take (Blk x (.cells [Value.slice (some ⟨g, 0, none⟩) n c].toArray 77 (0, 0))) ?_
      refine l_call rfl Try.call36 rfl (lay_any _ _ x g n c V m1 m2 (by omega) oa oa0 oa1 Y sn hY hsn gq 0 (sn + 9) (lent_row (E := 30) hX hY (by first | exact mem_getO 0 rfl | exact mem_getO 1 rfl | exact mem_getO 2 rfl | exact mem_getO 3 rfl | exact mem_getO 4 rfl | exact mem_getO 5 rfl | exact mem_getO 6 rfl | exact mem_getO 7 rfl | exact mem_getO 8 rfl | exact mem_getO 9 rfl | exact mem_getO 10 rfl | exact mem_getO 11 rfl))) ?_; rintro _ _ ⟨rfl, rfl⟩
      refine l_assign rfl rfl ?_
      refine l_nil ?_
      refine g_seq ?_
      refine g_region ?_
      refine l_move rfl rfl ?_
      refine l_fieldAddr rfl fa_65_7 rfl ?_
      refine l_ld rfl Try.isAgg23 rfl rfl ?_
      refine l_take (Own 30 1 (.slice (some ⟨gq, 0, none⟩) (sn + 9) (sn + 9)) (sn + 9) (ints .u32 X)) ?_
      refine l_call rfl Try.call44 rfl (back_ok _ _ gq X sa sn sc Y hY hR.ex hsn hYU hX) ?_; rintro _ _ ⟨rfl, rfl⟩
      refine l_assign rfl rfl ?_
      refine l_nil ?_
      refine g_seq ?_
      refine g_region ?_
      refine l_move rfl rfl ?_
      refine l_move rfl rfl ?_
      refine l_split 163 rfl ?_ ?_
      · intro hbr
        have hb163 := hbr
        refine l_guard_yes rfl rfl ?_
        refine l_move rfl rfl ?_
        refine l_guard_yes rfl rfl ?_
        refine l_fieldAddr rfl fa_94_1 rfl ?_
        refine l_guard_yes rfl rfl ?_
        refine l_ld rfl Try.isAgg87 rfl rfl ?_
        refine l_guard_yes rfl rfl ?_
        refine l_fieldAddr rfl fa_65_3 rfl ?_
        refine l_guard_yes rfl rfl ?_
        first | refine l_ld rfl Try.isAgg3 rfl rfl ?_ | refine l_ldw rfl Try.isAgg3 rfl (by omega) ?_
        refine l_guard_yes rfl rfl ?_
        refine l_fieldAddr rfl fa_65_7 rfl ?_
        refine l_guard_yes rfl rfl ?_
        refine l_ld rfl Try.isAgg23 rfl rfl ?_
        refine l_guard_yes rfl rfl ?_
        refine l_take (Own 30 1 (.slice (some ⟨h, 0, none⟩) n d) n (ints .u32 V)) ?_
        refine l_take (Blk y (.cells [Value.slice (some ⟨h, 0, none⟩) n d].toArray 104 (0, 0))) ?_
        refine l_call rfl Try.call54 rfl (rlay_any _ _ y h n d V m1 m3 (by omega) oa oa0 oa1 Y sn hY hsn sa sc hR.ex hYU) ?_; rintro _ _ ⟨rfl, rfl⟩
        refine l_guard_yes rfl rfl ?_
        refine l_eql rfl rfl rfl ?_
        refine l_pick_t rfl rfl rfl ?_
        refine l_assign rfl rfl ?_
        refine l_nil ?_
        refine g_take (BigBut S.N i (fun j => mpA (S.M j))) ?_
        refine g_take (Own 30 1 (.slice (some ⟨h, 0, none⟩) n d) n (ints .u32 (lyW V Y n oa))) ?_
        refine g_take (Blk y (.cells [Value.slice (some ⟨h, 0, none⟩) n d].toArray 104 (0, 0))) ?_
        refine g_take (Own 30 1 (.slice (some ⟨g, 0, none⟩) n c) n (ints .u32 (lyW V Y n oa))) ?_
        refine g_take (Blk x (.cells [Value.slice (some ⟨g, 0, none⟩) n c].toArray 77 (0, 0))) ?_
        refine g_closem ?_
        rw [mp_rows (i := i) (m := ⟨x, g, c, y, h, d, n, (lyW V Y n oa)⟩) (by rw [hm] <;> rfl)]
        refine g_ret Try.func27 rfl (.tmp rfl .nil) ?_
        exact Gives.mki ⟨⟨S.N, upF S.M i ⟨x, g, c, y, h, d, n, (lyW V Y n oa)⟩, S.la, S.lc, S.J, S.T, S.ia, S.ic, S.K, S.B, S.ka, S.kc⟩, (by first | rfl | exact congrArg Value.bool (decide_eq_true rfl) | (simp [resVal]; done)), (hS.put (i := i) (m := ⟨x, g, c, y, h, d, n, (lyW V Y n oa)⟩) ⟨(ly_ok m1 m6 hYU oa).1, m2, m3, m4, m5, (ly_ok m1 m6 hYU oa).2⟩ (by rw [hm])), Nat.le_refl _, by simp only; omega, by simp only; omega, rfl⟩
      · intro hbr
        first | (exfalso; simp at hbr; done) | (exfalso; simp at hbr; omega) | (exfalso; first | omega | (simp at hbr; done))
    intro hbr
    have hbr := of_decide_eq_false hbr
    refine g_seq ?_
    refine g_region ?_
    refine l_eql rfl rfl rfl ?_
    refine l_assign rfl rfl ?_
    refine l_nil ?_
    refine g_cond rfl ?_ ?_
    · intro hbr
      have hbr := of_decide_eq_true hbr
      refine g_seq ?_
      refine g_region ?_
      refine l_fieldAddr rfl fa_94_0 rfl ?_
      refine l_ld rfl Try.isAgg25 rfl rfl ?_
      refine l_fieldAddr rfl fa_65_3 rfl ?_
      first | refine l_ld rfl Try.isAgg3 rfl rfl ?_ | refine l_ldw rfl Try.isAgg3 rfl (by omega) ?_
      refine l_fieldAddr rfl fa_65_4 rfl ?_
      first | refine l_ld rfl Try.isAgg3 rfl rfl ?_ | refine l_ldw rfl Try.isAgg3 rfl (by omega) ?_
      refine l_fieldAddr rfl fa_65_6 rfl ?_
      first | refine l_ld rfl Try.isAgg30 rfl rfl ?_ | refine l_ldw rfl Try.isAgg30 rfl (by omega) ?_
      refine l_take (Own 30 1 (.slice (some ⟨g, 0, none⟩) n c) n (ints .u32 V)) ?_
      refine l_take (Blk x (.cells [Value.slice (some ⟨g, 0, none⟩) n c].toArray 77 (0, 0))) ?_
      refine l_call rfl Try.call37 rfl (fill_any _ _ x g n c V m1 m2 (by omega) oa oa0 oa1 ob ob0 ob1 ox) ?_; rintro _ _ ⟨rfl, rfl⟩
      refine l_assign rfl rfl ?_
      refine l_nil ?_
      refine g_seq ?_
      refine g_region ?_
      refine l_move rfl rfl ?_
      refine l_fieldAddr rfl fa_94_1 rfl ?_
      refine l_ld rfl Try.isAgg87 rfl rfl ?_
      refine l_fieldAddr rfl fa_65_3 rfl ?_
      first | refine l_ld rfl Try.isAgg3 rfl rfl ?_ | refine l_ldw rfl Try.isAgg3 rfl (by omega) ?_
      refine l_fieldAddr rfl fa_65_4 rfl ?_
      first | refine l_ld rfl Try.isAgg3 rfl rfl ?_ | refine l_ldw rfl Try.isAgg3 rfl (by omega) ?_
      refine l_fieldAddr rfl fa_65_6 rfl ?_
      first | refine l_ld rfl Try.isAgg30 rfl rfl ?_ | refine l_ldw rfl Try.isAgg30 rfl (by omega) ?_
      refine l_take (Own 30 1 (.slice (some ⟨h, 0, none⟩) n d) n (ints .u32 V)) ?_
      refine l_take (Blk y (.cells [Value.slice (some ⟨h, 0, none⟩) n d].toArray 104 (0, 0))) ?_
      refine l_call rfl Try.call55 rfl (rfill_any _ _ y h n d V m1 m3 (by omega) oa oa0 oa1 ob ob0 ob1 ox) ?_; rintro _ _ ⟨rfl, rfl⟩
      refine l_eql rfl rfl rfl ?_
      refine l_assign rfl rfl ?_
      refine l_nil ?_
      refine g_take (BigBut S.N i (fun j => mpA (S.M j))) ?_
      refine g_take (Own 30 1 (.slice (some ⟨h, 0, none⟩) n d) n (ints .u32 (flW V n oa ob ox))) ?_
      refine g_take (Blk y (.cells [Value.slice (some ⟨h, 0, none⟩) n d].toArray 104 (0, 0))) ?_
      refine g_take (Own 30 1 (.slice (some ⟨g, 0, none⟩) n c) n (ints .u32 (flW V n oa ob ox))) ?_
      refine g_take (Blk x (.cells [Value.slice (some ⟨g, 0, none⟩) n c].toArray 77 (0, 0))) ?_
      refine g_closem ?_
      rw [mp_rows (i := i) (m := ⟨x, g, c, y, h, d, n, (flW V n oa ob ox)⟩) (by rw [hm] <;> rfl)]
      refine g_ret Try.func27 rfl (.tmp rfl .nil) ?_
      exact Gives.mki ⟨⟨S.N, upF S.M i ⟨x, g, c, y, h, d, n, (flW V n oa ob ox)⟩, S.la, S.lc, S.J, S.T, S.ia, S.ic, S.K, S.B, S.ka, S.kc⟩, (by first | rfl | exact congrArg Value.bool (decide_eq_true rfl) | (simp [resVal]; done)), (hS.put (i := i) (m := ⟨x, g, c, y, h, d, n, (flW V n oa ob ox)⟩) ⟨(fl_ok m1 m6 oa ob ox ox0 ox1).1, m2, m3, m4, m5, (fl_ok m1 m6 oa ob ox ox0 ox1).2⟩ (by rw [hm])), Nat.le_refl _, by simp only; omega, by simp only; omega, rfl⟩
    intro hbr
    have hbr := of_decide_eq_false hbr
    refine g_seq ?_
    refine g_region ?_
    refine l_eql rfl rfl rfl ?_
    refine l_assign rfl rfl ?_
    refine l_nil ?_
    refine g_cond rfl ?_ ?_
    · intro hbr
      have hbr := of_decide_eq_true hbr
      refine g_seq ?_
      refine g_region ?_
      refine l_fieldAddr rfl fa_94_0 rfl ?_
      refine l_ld rfl Try.isAgg25 rfl rfl ?_
      refine l_fieldAddr rfl fa_65_3 rfl ?_
      first | refine l_ld rfl Try.isAgg3 rfl rfl ?_ | refine l_ldw rfl Try.isAgg3 rfl (by omega) ?_
      refine l_fieldAddr rfl fa_65_4 rfl ?_
      first | refine l_ld rfl Try.isAgg3 rfl rfl ?_ | refine l_ldw rfl Try.isAgg3 rfl (by omega) ?_
      refine l_fieldAddr rfl fa_65_5 rfl ?_
      first | refine l_ld rfl Try.isAgg3 rfl rfl ?_ | refine l_ldw rfl Try.isAgg3 rfl (by omega) ?_
      refine l_take (Own 30 1 (.slice (some ⟨g, 0, none⟩) n c) n (ints .u32 V)) ?_
      refine l_take (Blk x (.cells [Value.slice (some ⟨g, 0, none⟩) n c].toArray 77 (0, 0))) ?_
      refine l_call rfl Try.call38 rfl (move_any _ _ x g n c V m1 m2 (by omega) oa oa0 oa1 ob ob0 ob1 oc oc0 oc1) ?_; rintro _ _ ⟨rfl, rfl⟩
      refine l_assign rfl rfl ?_
      refine l_nil ?_
      refine g_seq ?_
      refine g_region ?_
      refine l_move rfl rfl ?_
      refine l_fieldAddr rfl fa_94_1 rfl ?_
      refine l_ld rfl Try.isAgg87 rfl rfl ?_
      refine l_fieldAddr rfl fa_65_3 rfl ?_
      first | refine l_ld rfl Try.isAgg3 rfl rfl ?_ | refine l_ldw rfl Try.isAgg3 rfl (by omega) ?_
      refine l_fieldAddr rfl fa_65_4 rfl ?_
      first | refine l_ld rfl Try.isAgg3 rfl rfl ?_ | refine l_ldw rfl Try.isAgg3 rfl (by omega) ?_
      refine l_fieldAddr rfl fa_65_5 rfl ?_
      first | refine l_ld rfl Try.isAgg3 rfl rfl ?_ | refine l_ldw rfl Try.isAgg3 rfl (by omega) ?_
      refine l_take (Own 30 1 (.slice (some ⟨h, 0, none⟩) n d) n (ints .u32 V)) ?_
      refine l_take (Blk y (.cells [Value.slice (some ⟨h, 0, none⟩) n d].toArray 104 (0, 0))) ?_
      refine l_call rfl Try.call56 rfl (rmove_any _ _ y h n d V m1 m3 (by omega) m6 oa oa0 oa1 ob ob0 ob1 oc oc0 oc1) ?_; rintro _ _ ⟨rfl, rfl⟩
      refine l_eql rfl rfl rfl ?_
      refine l_assign rfl rfl ?_
      refine l_nil ?_
      refine g_take (BigBut S.N i (fun j => mpA (S.M j))) ?_
      refine g_take (Own 30 1 (.slice (some ⟨h, 0, none⟩) n d) n (ints .u32 (mvW V n oa ob oc))) ?_
      refine g_take (Blk y (.cells [Value.slice (some ⟨h, 0, none⟩) n d].toArray 104 (0, 0))) ?_
      refine g_take (Own 30 1 (.slice (some ⟨g, 0, none⟩) n c) n (ints .u32 (mvW V n oa ob oc))) ?_
      refine g_take (Blk x (.cells [Value.slice (some ⟨g, 0, none⟩) n c].toArray 77 (0, 0))) ?_
      refine g_closem ?_
      rw [mp_rows (i := i) (m := ⟨x, g, c, y, h, d, n, (mvW V n oa ob oc)⟩) (by rw [hm] <;> rfl)]
      refine g_ret Try.func27 rfl (.tmp rfl .nil) ?_
      exact Gives.mki ⟨⟨S.N, upF S.M i ⟨x, g, c, y, h, d, n, (mvW V n oa ob oc)⟩, S.la, S.lc, S.J, S.T, S.ia, S.ic, S.K, S.B, S.ka, S.kc⟩, (by first | rfl | exact congrArg Value.bool (decide_eq_true rfl) | (simp [resVal]; done)), (hS.put (i := i) (m := ⟨x, g, c, y, h, d, n, (mvW V n oa ob oc)⟩) ⟨(mv_ok m1 m6 oa ob oc).1, m2, m3, m4, m5, (mv_ok m1 m6 oa ob oc).2⟩ (by rw [hm])), Nat.le_refl _, by simp only; omega, by simp only; omega, rfl⟩
    intro hbr
    have hbr := of_decide_eq_false hbr
    refine g_seq ?_
    refine g_region ?_
    refine l_eql rfl rfl rfl ?_
    refine l_assign rfl rfl ?_
    refine l_nil ?_
    refine g_cond rfl ?_ ?_
    · intro hbr
      have hbr := of_decide_eq_true hbr
      refine g_seq ?_
      refine g_region ?_
      refine l_fieldAddr rfl fa_94_0 rfl ?_
      refine l_ld rfl Try.isAgg25 rfl rfl ?_
      refine l_take (Own 30 1 (.slice (some ⟨g, 0, none⟩) n c) n (ints .u32 V)) ?_
      refine l_take (Blk x (.cells [Value.slice (some ⟨g, 0, none⟩) n c].toArray 77 (0, 0))) ?_
      refine l_call rfl Try.call17 rfl (frames_ok _ _ x g n c V m1 m2 (by omega)) ?_; rintro _ _ ⟨rfl, rfl⟩
      refine l_assign rfl rfl ?_
      refine l_nil ?_
      refine g_seq ?_
      refine g_region ?_
      refine l_fieldAddr rfl fa_94_0 rfl ?_
      refine l_ld rfl Try.isAgg25 rfl rfl ?_
      refine l_take (Own 30 1 (.slice (some ⟨g, 0, none⟩) n c) n (ints .u32 V)) ?_
      refine l_take (Blk x (.cells [Value.slice (some ⟨g, 0, none⟩) n c].toArray 77 (0, 0))) ?_
      refine l_call rfl Try.call18 rfl (words_ok _ _ x g n c V m1 m2 (by omega)) ?_; rintro _ _ ⟨q25, c25, rfl, hc25, rfl⟩
      refine l_assign rfl rfl ?_
      refine l_nil ?_
      refine g_seq ?_
      refine g_region ?_
      refine l_fieldAddr rfl fa_94_0 rfl ?_
      refine l_ld rfl Try.isAgg25 rfl rfl ?_
      refine l_take (Own 30 1 (.slice (some ⟨g, 0, none⟩) n c) n (ints .u32 V)) ?_
      refine l_take (Blk x (.cells [Value.slice (some ⟨g, 0, none⟩) n c].toArray 77 (0, 0))) ?_
      refine l_call rfl Try.call18 rfl (words_ok _ _ x g n c V m1 m2 (by omega)) ?_; rintro _ _ ⟨q26, c26, rfl, hc26, rfl⟩
      refine l_assign rfl rfl ?_
      refine l_nil ?_
      refine g_seq ?_
      refine gp_start mo (by kernel_rfl) (by kernel_rfl) ?_
      refine gp_quiet 0 rfl rfl rfl rfl rfl rfl (q_move rfl) ?_
      refine gp_quiet 1 rfl rfl rfl rfl rfl rfl (q_nilCheck rfl) ?_
      refine gp_quiet 2 rfl rfl rfl rfl rfl rfl (q_fieldAddr fa_74_2 rfl) ?_
      refine gp_quiet 3 rfl rfl rfl rfl rfl rfl (q_move rfl) ?_
      refine gp_quiet 4 rfl rfl rfl rfl rfl rfl (q_fieldAddr fa_94_1 rfl) ?_
      refine gp_quiet 5 rfl rfl rfl rfl rfl rfl (q_ld Try.isAgg87 rfl rfl) ?_
      refine gp_quiet 6 rfl rfl rfl rfl rfl rfl (q_nilCheck rfl) ?_
      refine gp_quiet 7 rfl rfl rfl rfl rfl rfl (q_fieldAddr fa_104_0 rfl) ?_
      refine gp_quiet 8 rfl rfl rfl rfl rfl rfl (q_ld Try.isAgg23 rfl rfl) ?_
      refine gp_take (Own 30 1 (.slice (some ⟨q25, 0, none⟩) n c25) n (ints .u32 V)) ?_
      refine gp_take (BigF S.K (fun j => bkA (S.B j))) ?_
      refine gp_take (Own 107 4 (.slice S.ka S.K S.kc) S.K (rowsN S.K (fun j => bkR (S.B j)))) ?_
      refine gp_take (Blk wb (.cells [Value.slice S.la S.N S.lc, .slice S.ia S.J S.ic, .slice S.ka S.K S.kc].toArray 74 (0, 0))) ?_
      refine gp_effa 9 [2, 3, 8] [7, 6, 5, 4, 1, 0] rfl rfl rfl rfl rfl rfl rfl (does_call Try.call53 rfl (keepw_ok _ _ wb _ _ S.ka S.K S.kc S.B hS.hB (by omega) (some ⟨q25, 0, none⟩) (some ⟨h, 0, none⟩) n c25 d V m1 (by omega) m6 (.inr ⟨_, rfl⟩) (Reads.own (E := 30) (by rw [ints_length]; omega) (.inr ⟨_, _, rfl⟩) (by first | exact mem_getO 0 rfl | exact mem_getO 1 rfl | exact mem_getO 2 rfl | exact mem_getO 3 rfl | exact mem_getO 4 rfl | exact mem_getO 5 rfl | exact mem_getO 6 rfl | exact mem_getO 7 rfl | exact mem_getO 8 rfl | exact mem_getO 9 rfl | exact mem_getO 10 rfl | exact mem_getO 11 rfl)))) ?_
      rintro _ _ ⟨B1, ka1, kc1, rfl, hB1, hka1, rfl⟩
      refine ⟨?_, ?_⟩
      · refine .cons rfl rfl rfl rfl rfl (q_fieldAddr fa_104_0 rfl) ?_
        refine .cons rfl rfl rfl rfl rfl (q_nilCheck rfl) ?_
        refine .cons rfl rfl rfl rfl rfl (q_ld Try.isAgg87 rfl rfl) ?_
        refine .cons rfl rfl rfl rfl rfl (q_fieldAddr fa_94_1 rfl) ?_
        refine .cons rfl rfl rfl rfl rfl (q_nilCheck rfl) ?_
        refine .cons rfl rfl rfl rfl rfl (q_move rfl) ?_
        exact .nil
      refine gp_quiet 10 rfl rfl rfl rfl rfl rfl (q_assign rfl) ?_
      refine gp_end rfl rfl ?_
      refine g_seq ?_
      refine gp_start mo (by kernel_rfl) (by kernel_rfl) ?_
      refine gp_quiet 0 rfl rfl rfl rfl rfl rfl (q_move rfl) ?_
      refine gp_quiet 1 rfl rfl rfl rfl rfl rfl (q_nilCheck rfl) ?_
      refine gp_quiet 2 rfl rfl rfl rfl rfl rfl (q_fieldAddr fa_74_2 rfl) ?_
      refine gp_quiet 3 rfl rfl rfl rfl rfl rfl (q_move rfl) ?_
      refine gp_quiet 4 rfl rfl rfl rfl rfl rfl (q_fieldAddr fa_94_1 rfl) ?_
      refine gp_quiet 5 rfl rfl rfl rfl rfl rfl (q_ld Try.isAgg87 rfl rfl) ?_
      refine gp_quiet 6 rfl rfl rfl rfl rfl rfl (q_nilCheck rfl) ?_
      refine gp_quiet 7 rfl rfl rfl rfl rfl rfl (q_fieldAddr fa_104_0 rfl) ?_
      refine gp_quiet 8 rfl rfl rfl rfl rfl rfl (q_ld Try.isAgg23 rfl rfl) ?_
      refine gp_take (Own 30 1 (.slice (some ⟨q26, 0, none⟩) n c26) n (ints .u32 V)) ?_
      refine gp_take (BigF (S.K + 1) (fun j => bkA (B1 j))) ?_
      refine gp_take (Own 107 4 (.slice ka1 (S.K + 1) kc1) (S.K + 1) (rowsN (S.K + 1) (fun j => bkR (B1 j)))) ?_
      refine gp_take (Blk wb (.cells [Value.slice S.la S.N S.lc, .slice S.ia S.J S.ic, .slice ka1 (S.K + 1) kc1].toArray 74 (0, 0))) ?_
      refine gp_effa 9 [2, 3, 8] [7, 6, 5, 4, 1, 0] rfl rfl rfl rfl rfl rfl rfl (does_call Try.call53 rfl (keepw_ok _ _ wb _ _ ka1 (S.K + 1) kc1 B1 hB1 (by omega) (some ⟨q26, 0, none⟩) (some ⟨h, 0, none⟩) n c26 d V m1 (by omega) m6 (.inr ⟨_, rfl⟩) (Reads.own (E := 30) (by rw [ints_length]; omega) (.inr ⟨_, _, rfl⟩) (by first | exact mem_getO 0 rfl | exact mem_getO 1 rfl | exact mem_getO 2 rfl | exact mem_getO 3 rfl | exact mem_getO 4 rfl | exact mem_getO 5 rfl | exact mem_getO 6 rfl | exact mem_getO 7 rfl | exact mem_getO 8 rfl | exact mem_getO 9 rfl | exact mem_getO 10 rfl | exact mem_getO 11 rfl)))) ?_
      rintro _ _ ⟨B2, ka2, kc2, rfl, hB2, hka2, rfl⟩
      refine ⟨?_, ?_⟩
      · refine .cons rfl rfl rfl rfl rfl (q_fieldAddr fa_104_0 rfl) ?_
        refine .cons rfl rfl rfl rfl rfl (q_nilCheck rfl) ?_
        refine .cons rfl rfl rfl rfl rfl (q_ld Try.isAgg87 rfl rfl) ?_
        refine .cons rfl rfl rfl rfl rfl (q_fieldAddr fa_94_1 rfl) ?_
        refine .cons rfl rfl rfl rfl rfl (q_nilCheck rfl) ?_
        refine .cons rfl rfl rfl rfl rfl (q_move rfl) ?_
        exact .nil
      refine gp_quiet 10 rfl rfl rfl rfl rfl rfl (q_assign rfl) ?_
      refine gp_end rfl rfl ?_
      refine g_seq ?_
      refine g_region ?_
      refine l_move rfl rfl ?_
      refine l_fieldAddr rfl fa_94_1 rfl ?_
      refine l_ld rfl Try.isAgg87 rfl rfl ?_
      refine l_take (Own 30 1 (.slice (some ⟨h, 0, none⟩) n d) n (ints .u32 V)) ?_
      refine l_take (Blk y (.cells [Value.slice (some ⟨h, 0, none⟩) n d].toArray 104 (0, 0))) ?_
      refine l_call rfl Try.call57 rfl (rframes_ok _ _ y h n d V m1 m3 (by omega)) ?_; rintro _ _ ⟨rfl, rfl⟩
      refine l_eql rfl rfl rfl ?_
      refine l_move rfl rfl ?_
      refine l_split 254 rfl ?_ ?_
      · intro hbr
        have hbr := of_decide_eq_true hbr
        refine l_guard_yes rfl rfl ?_
        refine l_move rfl rfl ?_
        refine l_pick_t rfl rfl rfl ?_
        refine l_move rfl rfl ?_
        refine l_guard_yes rfl rfl ?_
        refine l_move rfl rfl ?_
        refine l_pick_t rfl rfl rfl ?_
        refine l_assign rfl rfl ?_
        refine l_nil ?_
        refine g_take (BigBut S.N i (fun j => mpA (S.M j))) ?_
        refine g_take (Own 30 1 (.slice (some ⟨h, 0, none⟩) n d) n (ints .u32 V)) ?_
        refine g_take (Blk y (.cells [Value.slice (some ⟨h, 0, none⟩) n d].toArray 104 (0, 0))) ?_
        refine g_take (Own 30 1 (.slice (some ⟨g, 0, none⟩) n c) n (ints .u32 V)) ?_
        refine g_take (Blk x (.cells [Value.slice (some ⟨g, 0, none⟩) n c].toArray 77 (0, 0))) ?_
        refine g_closem ?_
        rw [mp_rows (i := i) (m := ⟨x, g, c, y, h, d, n, V⟩) (by rw [hm] <;> rfl)]
        refine g_ret Try.func27 rfl (.tmp rfl .nil) ?_
        exact Gives.mki ⟨⟨S.N, upF S.M i ⟨x, g, c, y, h, d, n, V⟩, S.la, S.lc, S.J, S.T, S.ia, S.ic, S.K + 1 + 1, B2, ka2, kc2⟩, (by first | rfl | exact congrArg Value.bool (decide_eq_true rfl) | (simp [resVal]; done)), ((hS.put (i := i) (m := ⟨x, g, c, y, h, d, n, V⟩) ⟨m1, m2, m3, m4, m5, m6⟩ (by rw [hm])).bk hB2 hka2 kc2), Nat.le_refl _, by simp only; omega, by simp only; omega, rfl⟩
      · intro hbr
        have hbr := of_decide_eq_false hbr
        (exfalso; first | omega | (simp at hbr; done))
    intro hbr
    have hbr := of_decide_eq_false hbr
    refine g_skip ?_
    refine g_inBlock ?_
    refine g_seq ?_
    refine g_region ?_
    refine l_assign rfl rfl ?_
    refine l_nil ?_
    refine g_take (BigBut S.N i (fun j => mpA (S.M j))) ?_
    refine g_take (Own 30 1 (.slice (some ⟨h, 0, none⟩) n d) n (ints .u32 V)) ?_
    refine g_take (Blk y (.cells [Value.slice (some ⟨h, 0, none⟩) n d].toArray 104 (0, 0))) ?_
    refine g_take (Own 30 1 (.slice (some ⟨g, 0, none⟩) n c) n (ints .u32 V)) ?_
    refine g_take (Blk x (.cells [Value.slice (some ⟨g, 0, none⟩) n c].toArray 77 (0, 0))) ?_
    refine g_closem ?_
    rw [mp_rows (i := i) (m := ⟨x, g, c, y, h, d, n, V⟩) (by rw [hm] <;> rfl)]
    refine g_ret Try.func27 rfl (.tmp rfl .nil) ?_
    exact Gives.mki ⟨⟨S.N, upF S.M i ⟨x, g, c, y, h, d, n, V⟩, S.la, S.lc, S.J, S.T, S.ia, S.ic, S.K, S.B, S.ka, S.kc⟩, (by first | rfl | exact congrArg Value.bool (decide_eq_true rfl) | (simp [resVal]; done)), (hS.put (i := i) (m := ⟨x, g, c, y, h, d, n, V⟩) ⟨m1, m2, m3, m4, m5, m6⟩ (by rw [hm])), Nat.le_refl _, by simp only; omega, by simp only; omega, rfl⟩
  · rintro _ _ ⟨b5, rfl, rfl⟩
    refine ⟨?_, ?_⟩
    · refine .cons rfl rfl rfl rfl rfl (q_len Try.underlying68 rfl) ?_
      refine .cons rfl rfl rfl rfl rfl (q_ld Try.isAgg68 rfl rfl) ?_
      refine .cons rfl rfl rfl rfl rfl (q_fieldAddr fa_74_0 rfl) ?_
      refine .cons rfl rfl rfl rfl rfl (q_nilCheck rfl) ?_
      refine .cons rfl rfl rfl rfl rfl (q_move rfl) ?_
      first | refine .cons rfl rfl rfl rfl rfl (q_ld Try.isAgg3 rfl rfl) ?_ | refine .cons rfl rfl rfl rfl rfl (q_ldw Try.isAgg3 rfl (by omega)) ?_
      refine .cons rfl rfl rfl rfl rfl (q_fieldAddr fa_65_1 rfl) ?_
      refine .cons rfl rfl rfl rfl rfl (q_ld Try.isAgg68 rfl rfl) ?_
      refine .cons rfl rfl rfl rfl rfl (q_fieldAddr fa_74_0 rfl) ?_
      refine .cons rfl rfl rfl rfl rfl (q_nilCheck rfl) ?_
      refine .cons rfl rfl rfl rfl rfl (q_move rfl) ?_
      exact .nil
    refine gp_effa 11 [5, 10] [9, 8, 7, 6, 4, 3, 2, 1, 0] rfl rfl rfl rfl rfl rfl rfl (does_call Try.call8 rfl (pick_ok _ _ who (S.N : Int) (by omega) (by omega) (by omega) (by omega))) ?_
    rintro _ _ ⟨rfl, rfl⟩
    rw [hi]
    refine ⟨?_, ?_⟩
    · refine .cons rfl rfl rfl rfl rfl (q_ld Try.isAgg68 rfl rfl) ?_
      refine .cons rfl rfl rfl rfl rfl (q_fieldAddr fa_74_0 rfl) ?_
      refine .cons rfl rfl rfl rfl rfl (q_nilCheck rfl) ?_
      refine .cons rfl rfl rfl rfl rfl (q_move rfl) ?_
      refine .cons rfl rfl rfl rfl rfl (q_fieldAddr fa_65_1 rfl) ?_
      refine .cons rfl rfl rfl rfl rfl (q_ld Try.isAgg68 rfl rfl) ?_
      refine .cons rfl rfl rfl rfl rfl (q_fieldAddr fa_74_0 rfl) ?_
      refine .cons rfl rfl rfl rfl rfl (q_nilCheck rfl) ?_
      refine .cons rfl rfl rfl rfl rfl (q_move rfl) ?_
      exact .nil
    refine gp_quiet 12 rfl rfl rfl rfl rfl rfl (q_ixs Try.underlying68 Try.sizeOf94 rfl rfl (by omega) (by omega)) ?_
    refine gp_quiet 13 rfl rfl rfl rfl rfl rfl (q_loadr (l := [.pointer (some ⟨x, 0, none⟩), .pointer (some ⟨y, 0, none⟩)]) Try.isAgg94 Try.sizeOf94 rfl rfl (mp_row (by first | exact mem_getO 0 rfl | exact mem_getO 1 rfl | exact mem_getO 2 rfl | exact mem_getO 3 rfl | exact mem_getO 4 rfl | exact mem_getO 5 rfl | exact mem_getO 6 rfl | exact mem_getO 7 rfl | exact mem_getO 8 rfl | exact mem_getO 9 rfl | exact mem_getO 10 rfl | exact mem_getO 11 rfl) hiN hm)) ?_
    refine gp_effa 15 [0, 1, 2, 3, 4, 6, 7, 8, 9, 12, 13] [] rfl rfl rfl rfl rfl rfl rfl (does_sts Try.sizeOf94 rfl rfl rfl rfl rfl) ?_
    rintro _ _ ⟨rfl, rfl⟩
    refine ⟨?_, ?_⟩
    · exact .nil
    refine gp_end rfl rfl ?_
    refine g_seq ?_
    refine g_seq ?_
    refine g_region ?_
    rw [← hgl]
    refine l_take (BigF S.N (fun j => mpA (S.M j))) ?_
    refine l_openm hiN hm ?_
    refine l_fieldAddr rfl fa_65_0 rfl ?_
    first | refine l_ld rfl Try.isAgg3 rfl rfl ?_ | refine l_ldw rfl Try.isAgg3 rfl (by omega) ?_
    refine l_nil ?_
    refine g_block ?_
    refine g_seq ?_
    refine g_region ?_
    refine l_eql rfl rfl rfl ?_
    refine l_assign rfl rfl ?_
    refine l_nil ?_
    refine g_cond rfl ?_ ?_
    · intro hbr
      have hbr := of_decide_eq_true hbr
      refine g_seq ?_
      refine g_region ?_
      refine l_fieldAddr rfl fa_94_0 rfl ?_
      refine l_ld rfl Try.isAgg25 rfl rfl ?_
      refine l_fieldAddr rfl fa_65_3 rfl ?_
      first | refine l_ld rfl Try.isAgg3 rfl rfl ?_ | refine l_ldw rfl Try.isAgg3 rfl (by omega) ?_
      refine l_take (Own 30 1 (.slice (some ⟨g, 0, none⟩) n c) n (ints .u32 V)) ?_
      refine l_take (Blk x (.cells [Value.slice (some ⟨g, 0, none⟩) n c].toArray 77 (0, 0))) ?_
      refine l_call rfl Try.call12 rfl (read_any _ _ x g n c V m1 m2 (by omega) oa oa0 oa1) ?_; rintro _ _ ⟨rfl, rfl⟩
      refine l_move rfl rfl ?_
      refine l_extract rfl rfl rfl ?_
      refine l_extract rfl rfl rfl ?_
      refine l_assign rfl rfl ?_
      refine l_assign rfl rfl ?_
      refine l_nil ?_
      refine g_seq ?_
      refine g_region ?_
      refine l_fieldAddr rfl fa_94_1 rfl ?_
      refine l_ld rfl Try.isAgg87 rfl rfl ?_
      refine l_fieldAddr rfl fa_65_3 rfl ?_
      first | refine l_ld rfl Try.isAgg3 rfl rfl ?_ | refine l_ldw rfl Try.isAgg3 rfl (by omega) ?_
      refine l_take (Own 30 1 (.slice (some ⟨h, 0, none⟩) n d) n (ints .u32 V)) ?_
      refine l_take (Blk y (.cells [Value.slice (some ⟨h, 0, none⟩) n d].toArray 104 (0, 0))) ?_
      refine l_call rfl Try.call50 rfl (rread_any _ _ y h n d V m1 m3 (by omega) oa oa0 oa1) ?_; rintro _ _ ⟨rfl, rfl⟩
      refine l_move rfl rfl ?_
      refine l_extract rfl rfl rfl ?_
      refine l_extract rfl rfl rfl ?_
      refine l_assign rfl rfl ?_
      refine l_assign rfl rfl ?_
      refine l_nil ?_
      refine g_seq ?_
      refine g_region ?_
      refine l_move rfl rfl ?_
      refine l_move rfl rfl ?_
      refine l_eql rfl rfl rfl ?_
      refine l_move rfl rfl ?_
      refine l_split 66 rfl ?_ ?_
      · intro hbr
        have hbr := of_decide_eq_true hbr
        refine l_guard_yes rfl rfl ?_
        refine l_move rfl rfl ?_
        refine l_guard_yes rfl rfl ?_
        refine l_move rfl rfl ?_
        refine l_guard_yes rfl rfl ?_
        refine l_eql rfl rfl rfl ?_
        refine l_pick_t rfl rfl rfl ?_
        refine l_assign rfl rfl ?_
        refine l_nil ?_
        refine g_take (BigBut S.N i (fun j => mpA (S.M j))) ?_
        refine g_take (Own 30 1 (.slice (some ⟨h, 0, none⟩) n d) n (ints .u32 V)) ?_
        refine g_take (Blk y (.cells [Value.slice (some ⟨h, 0, none⟩) n d].toArray 104 (0, 0))) ?_
        refine g_take (Own 30 1 (.slice (some ⟨g, 0, none⟩) n c) n (ints .u32 V)) ?_
        refine g_take (Blk x (.cells [Value.slice (some ⟨g, 0, none⟩) n c].toArray 77 (0, 0))) ?_
        refine g_closem ?_
        rw [mp_rows (i := i) (m := ⟨x, g, c, y, h, d, n, V⟩) (by rw [hm] <;> rfl)]
        refine g_ret Try.func27 rfl (.tmp rfl .nil) ?_
        exact Gives.mki ⟨⟨S.N, upF S.M i ⟨x, g, c, y, h, d, n, V⟩, S.la, S.lc, S.J, S.T, S.ia, S.ic, S.K, S.B, S.ka, S.kc⟩, (by first | rfl | exact congrArg Value.bool (decide_eq_true rfl) | (simp [resVal]; done)), (hS.put (i := i) (m := ⟨x, g, c, y, h, d, n, V⟩) ⟨m1, m2, m3, m4, m5, m6⟩ (by rw [hm])), Nat.le_refl _, by simp only; omega, by simp only; omega, rfl⟩
      · intro hbr
        have hbr := of_decide_eq_false hbr
        (exfalso; first | omega | (simp at hbr; done))
    intro hbr
    have hbr := of_decide_eq_false hbr
    refine g_seq ?_
    refine g_region ?_
    refine l_eql rfl rfl rfl ?_
    refine l_assign rfl rfl ?_
    refine l_nil ?_
    refine g_cond rfl ?_ ?_
    · intro hbr
      have hbr := of_decide_eq_true hbr
      refine g_seq ?_
      refine g_region ?_
      refine l_fieldAddr rfl fa_94_0 rfl ?_
      refine l_ld rfl Try.isAgg25 rfl rfl ?_
      refine l_fieldAddr rfl fa_65_3 rfl ?_
      first | refine l_ld rfl Try.isAgg3 rfl rfl ?_ | refine l_ldw rfl Try.isAgg3 rfl (by omega) ?_
      refine l_fieldAddr rfl fa_65_6 rfl ?_
      first | refine l_ld rfl Try.isAgg30 rfl rfl ?_ | refine l_ldw rfl Try.isAgg30 rfl (by omega) ?_
      refine l_take (Own 30 1 (.slice (some ⟨g, 0, none⟩) n c) n (ints .u32 V)) ?_
      refine l_take (Blk x (.cells [Value.slice (some ⟨g, 0, none⟩) n c].toArray 77 (0, 0))) ?_
      refine l_call rfl Try.call10 rfl (write_any _ _ x g n c V m1 m2 (by omega) oa oa0 oa1 ox) ?_; rintro _ _ ⟨rfl, rfl⟩
      refine l_assign rfl rfl ?_
      refine l_nil ?_
      refine g_seq ?_
      refine g_region ?_
      refine l_move rfl rfl ?_
      refine l_fieldAddr rfl fa_94_1 rfl ?_
      refine l_ld rfl Try.isAgg87 rfl rfl ?_
      refine l_fieldAddr rfl fa_65_3 rfl ?_
      first | refine l_ld rfl Try.isAgg3 rfl rfl ?_ | refine l_ldw rfl Try.isAgg3 rfl (by omega) ?_
      refine l_fieldAddr rfl fa_65_6 rfl ?_
      first | refine l_ld rfl Try.isAgg30 rfl rfl ?_ | refine l_ldw rfl Try.isAgg30 rfl (by omega) ?_
      refine l_take (Own 30 1 (.slice (some ⟨h, 0, none⟩) n d) n (ints .u32 V)) ?_
      refine l_take (Blk y (.cells [Value.slice (some ⟨h, 0, none⟩) n d].toArray 104 (0, 0))) ?_
      refine l_call rfl Try.call51 rfl (rwrite_any _ _ y h n d V m1 m3 (by omega) oa oa0 oa1 ox) ?_; rintro _ _ ⟨rfl, rfl⟩
      refine l_eql rfl rfl rfl ?_
      refine l_assign rfl rfl ?_
      refine l_nil ?_
      refine g_take (BigBut S.N i (fun j => mpA (S.M j))) ?_
      refine g_take (Own 30 1 (.slice (some ⟨h, 0, none⟩) n d) n (ints .u32 (wrW V n oa ox))) ?_
      refine g_take (Blk y (.cells [Value.slice (some ⟨h, 0, none⟩) n d].toArray 104 (0, 0))) ?_
      refine g_take (Own 30 1 (.slice (some ⟨g, 0, none⟩) n c) n (ints .u32 (wrW V n oa ox))) ?_
      refine g_take (Blk x (.cells [Value.slice (some ⟨g, 0, none⟩) n c].toArray 77 (0, 0))) ?_
      refine g_closem ?_
      rw [mp_rows (i := i) (m := ⟨x, g, c, y, h, d, n, (wrW V n oa ox)⟩) (by rw [hm] <;> rfl)]
      refine g_ret Try.func27 rfl (.tmp rfl .nil) ?_
      exact Gives.mki ⟨⟨S.N, upF S.M i ⟨x, g, c, y, h, d, n, (wrW V n oa ox)⟩, S.la, S.lc, S.J, S.T, S.ia, S.ic, S.K, S.B, S.ka, S.kc⟩, (by first | rfl | exact congrArg Value.bool (decide_eq_true rfl) | (simp [resVal]; done)), (hS.put (i := i) (m := ⟨x, g, c, y, h, d, n, (wrW V n oa ox)⟩) ⟨(wr_ok m1 m6 oa ox ox0 ox1).1, m2, m3, m4, m5, (wr_ok m1 m6 oa ox ox0 ox1).2⟩ (by rw [hm])), Nat.le_refl _, by simp only; omega, by simp only; omega, rfl⟩
    intro hbr
    have hbr := of_decide_eq_false hbr
    refine g_seq ?_
    refine g_region ?_
    refine l_eql rfl rfl rfl ?_
    refine l_assign rfl rfl ?_
    refine l_nil ?_
    refine g_cond rfl ?_ ?_
    · intro hbr
      have hbr := of_decide_eq_true hbr
      refine g_seq ?_
      refine g_region ?_
      refine l_fieldAddr rfl fa_94_0 rfl ?_
      refine l_ld rfl Try.isAgg25 rfl rfl ?_
      refine l_fieldAddr rfl fa_65_3 rfl ?_
      first | refine l_ld rfl Try.isAgg3 rfl rfl ?_ | refine l_ldw rfl Try.isAgg3 rfl (by omega) ?_
      refine l_fieldAddr rfl fa_65_4 rfl ?_
      first | refine l_ld rfl Try.isAgg3 rfl rfl ?_ | refine l_ldw rfl Try.isAgg3 rfl (by omega) ?_
      refine l_take (Own 30 1 (.slice (some ⟨g, 0, none⟩) n c) n (ints .u32 V)) ?_
      refine l_take (Blk x (.cells [Value.slice (some ⟨g, 0, none⟩) n c].toArray 77 (0, 0))) ?_
      refine l_call rfl Try.call49 rfl (take_any _ _ x g n c V m1 m2 (by omega) oa oa0 oa1 ob ob0 ob1) ?_; rintro _ _ ⟨a11, c11, rfl, ha11, rfl⟩
      refine l_move rfl rfl ?_
      refine l_extract rfl rfl rfl ?_
      refine l_extract rfl rfl rfl ?_
      refine l_assign rfl rfl ?_
      refine l_assign rfl rfl ?_
      refine l_nil ?_
      refine g_seq ?_
      refine g_region ?_
      refine l_fieldAddr rfl fa_94_0 rfl ?_
      refine l_ld rfl Try.isAgg25 rfl rfl ?_
      refine l_fieldAddr rfl fa_65_3 rfl ?_
      first | refine l_ld rfl Try.isAgg3 rfl rfl ?_ | refine l_ldw rfl Try.isAgg3 rfl (by omega) ?_
      refine l_fieldAddr rfl fa_65_4 rfl ?_
      first | refine l_ld rfl Try.isAgg3 rfl rfl ?_ | refine l_ldw rfl Try.isAgg3 rfl (by omega) ?_
      refine l_take (Own 30 1 (.slice (some ⟨g, 0, none⟩) n c) n (ints .u32 V)) ?_
      refine l_take (Blk x (.cells [Value.slice (some ⟨g, 0, none⟩) n c].toArray 77 (0, 0))) ?_
      refine l_call rfl Try.call49 rfl (take_any _ _ x g n c V m1 m2 (by omega) oa oa0 oa1 ob ob0 ob1) ?_; rintro _ _ ⟨a13, c13, rfl, ha13, rfl⟩
      refine l_move rfl rfl ?_
      refine l_extract rfl rfl rfl ?_
      refine l_extract rfl rfl rfl ?_
      refine l_assign rfl rfl ?_
      refine l_assign rfl rfl ?_
      refine l_nil ?_
      refine g_seq ?_
      refine g_region ?_
      refine l_fieldAddr rfl fa_94_1 rfl ?_
      refine l_ld rfl Try.isAgg87 rfl rfl ?_
      refine l_fieldAddr rfl fa_65_3 rfl ?_
      first | refine l_ld rfl Try.isAgg3 rfl rfl ?_ | refine l_ldw rfl Try.isAgg3 rfl (by omega) ?_
      refine l_fieldAddr rfl fa_65_4 rfl ?_
      first | refine l_ld rfl Try.isAgg3 rfl rfl ?_ | refine l_ldw rfl Try.isAgg3 rfl (by omega) ?_
      refine l_take (Own 30 1 (.slice (some ⟨h, 0, none⟩) n d) n (ints .u32 V)) ?_
      refine l_take (Blk y (.cells [Value.slice (some ⟨h, 0, none⟩) n d].toArray 104 (0, 0))) ?_
      refine l_call rfl Try.call52 rfl (rtake_any _ _ y h n d V m1 m3 (by omega) oa oa0 oa1 ob ob0 ob1) ?_; rintro _ _ ⟨a15, c15, rfl, ha15, rfl⟩
      refine l_fact (own_cases (mem_getO 0 rfl)) ?_
      intro hown15
      refine l_move rfl rfl ?_
      refine l_extract rfl rfl rfl ?_
      refine l_extract rfl rfl rfl ?_
      refine l_assign rfl rfl ?_
      refine l_assign rfl rfl ?_
      refine l_nil ?_
      refine g_seq ?_
      refine g_region ?_
      refine l_move rfl rfl ?_
      refine l_nilCheck rfl rfl ?_
      refine l_fieldAddr rfl fa_74_2 rfl ?_
      refine l_move rfl rfl ?_
      refine l_move rfl rfl ?_
      refine l_take (Own 30 1 (.slice a11 (tkN n oa ob) c11) (tkN n oa ob) (ints .u32 (tkW V n oa ob))) ?_
      refine l_take (BigF S.K (fun j => bkA (S.B j))) ?_
      refine l_take (Own 107 4 (.slice S.ka S.K S.kc) S.K (rowsN S.K (fun j => bkR (S.B j)))) ?_
      refine l_take (Blk wb (.cells [Value.slice S.la S.N S.lc, .slice S.ia S.J S.ic, .slice S.ka S.K S.kc].toArray 74 (0, 0))) ?_
      refine l_call rfl Try.call53 rfl (keepw_ok _ _ wb _ _ S.ka S.K S.kc S.B hS.hB (by omega) a11 a15 (tkN n oa ob) c11 c15 (tkW V n oa ob) (tk_len m1 oa ob) (by have := tk_le (n := n) oa ob; omega) (tk_w m6 n oa ob) ha11 (Reads.own (E := 30) hown15.1 (hown15.2.2.imp id fun ⟨g, c, h, _⟩ => ⟨g, c, h⟩) (by first | exact mem_getO 0 rfl | exact mem_getO 1 rfl | exact mem_getO 2 rfl | exact mem_getO 3 rfl | exact mem_getO 4 rfl | exact mem_getO 5 rfl | exact mem_getO 6 rfl | exact mem_getO 7 rfl | exact mem_getO 8 rfl | exact mem_getO 9 rfl | exact mem_getO 10 rfl | exact mem_getO 11 rfl))) ?_; rintro _ _ ⟨B1, ka1, kc1, rfl, hB1, hka1, rfl⟩
      refine l_assign rfl rfl ?_
      refine l_nil ?_
      refine g_seq ?_
      refine g_region ?_
      refine l_move rfl rfl ?_
      refine l_nilCheck rfl rfl ?_
      refine l_fieldAddr rfl fa_74_2 rfl ?_
      refine l_move rfl rfl ?_
      refine l_move rfl rfl ?_
      refine l_take (Own 30 1 (.slice a13 (tkN n oa ob) c13) (tkN n oa ob) (ints .u32 (tkW V n oa ob))) ?_
      refine l_take (BigF (S.K + 1) (fun j => bkA (B1 j))) ?_
      refine l_take (Own 107 4 (.slice ka1 (S.K + 1) kc1) (S.K + 1) (rowsN (S.K + 1) (fun j => bkR (B1 j)))) ?_
      refine l_take (Blk wb (.cells [Value.slice S.la S.N S.lc, .slice S.ia S.J S.ic, .slice ka1 (S.K + 1) kc1].toArray 74 (0, 0))) ?_
      refine l_call rfl Try.call53 rfl (keepw_ok _ _ wb _ _ ka1 (S.K + 1) kc1 B1 hB1 (by omega) a13 a15 (tkN n oa ob) c13 c15 (tkW V n oa ob) (tk_len m1 oa ob) (by have := tk_le (n := n) oa ob; omega) (tk_w m6 n oa ob) ha13 (Reads.own (E := 30) hown15.1 (hown15.2.2.imp id fun ⟨g, c, h, _⟩ => ⟨g, c, h⟩) (by first | exact mem_getO 0 rfl | exact mem_getO 1 rfl | exact mem_getO 2 rfl | exact mem_getO 3 rfl | exact mem_getO 4 rfl | exact mem_getO 5 rfl | exact mem_getO 6 rfl | exact mem_getO 7 rfl | exact mem_getO 8 rfl | exact mem_getO 9 rfl | exact mem_getO 10 rfl | exact mem_getO 11 rfl))) ?_; rintro _ _ ⟨B2, ka2, kc2, rfl, hB2, hka2, rfl⟩
      refine l_assign rfl rfl ?_
      refine l_nil ?_
      refine g_seq ?_
      refine g_region ?_
      refine l_move rfl rfl ?_
      refine l_move rfl rfl ?_
      refine l_guard_yes rfl rfl ?_
      refine l_move rfl rfl ?_
      refine l_pick_t rfl rfl rfl ?_
      refine l_move rfl rfl ?_
      refine l_guard_yes rfl rfl ?_
      refine l_move rfl rfl ?_
      refine l_guard_yes rfl rfl ?_
      refine l_move rfl rfl ?_
      refine l_guard_yes rfl rfl ?_
      refine l_eql rfl rfl rfl ?_
      refine l_pick_t rfl rfl rfl ?_
      refine l_move rfl rfl ?_
      refine l_split 142 rfl ?_ ?_
      · intro hbr
        have hbr := of_decide_eq_true hbr
        refine l_guard_yes rfl rfl ?_
        refine l_move rfl rfl ?_
        refine l_guard_yes rfl rfl ?_
        refine l_move rfl rfl ?_
        refine l_guard_yes rfl rfl ?_
        refine l_eql rfl rfl rfl ?_
        refine l_pick_t rfl rfl rfl ?_
        refine l_assign rfl rfl ?_
        refine l_nil ?_
        refine g_take (BigBut S.N i (fun j => mpA (S.M j))) ?_
        refine g_take (Own 30 1 (.slice (some ⟨h, 0, none⟩) n d) n (ints .u32 V)) ?_
        refine g_take (Blk y (.cells [Value.slice (some ⟨h, 0, none⟩) n d].toArray 104 (0, 0))) ?_
        refine g_take (Own 30 1 (.slice (some ⟨g, 0, none⟩) n c) n (ints .u32 V)) ?_
        refine g_take (Blk x (.cells [Value.slice (some ⟨g, 0, none⟩) n c].toArray 77 (0, 0))) ?_
        refine g_closem ?_
        rw [mp_rows (i := i) (m := ⟨x, g, c, y, h, d, n, V⟩) (by rw [hm] <;> rfl)]
        refine g_ret Try.func27 rfl (.tmp rfl .nil) ?_
        exact Gives.mki ⟨⟨S.N, upF S.M i ⟨x, g, c, y, h, d, n, V⟩, S.la, S.lc, S.J, S.T, S.ia, S.ic, S.K + 1 + 1, B2, ka2, kc2⟩, (by first | rfl | exact congrArg Value.bool (decide_eq_true rfl) | (simp [resVal]; done)), ((hS.put (i := i) (m := ⟨x, g, c, y, h, d, n, V⟩) ⟨m1, m2, m3, m4, m5, m6⟩ (by rw [hm])).bk hB2 hka2 kc2), Nat.le_refl _, by simp only; omega, by simp only; omega, rfl⟩
      · intro hbr
        have hbr := of_decide_eq_false hbr
        (exfalso; first | omega | (simp at hbr; done))
    intro hbr
    have hbr := of_decide_eq_false hbr
    refine g_seq ?_
    refine g_region ?_
    refine l_eql rfl rfl rfl ?_
    refine l_assign rfl rfl ?_
    refine l_nil ?_
    refine g_cond rfl ?_ ?_
    · intro hbr
      have hbr := of_decide_eq_true hbr
      refine g_seq ?_
      refine g_region ?_
      refine l_fieldAddr rfl fa_65_7 rfl ?_
      refine l_ld rfl Try.isAgg23 rfl rfl ?_
      refine l_call rfl Try.call42 rfl (lent_ok _ _ sa sn sc Y hY hR.ex hsn hYU) ?_; rintro _ _ ⟨gq, X, rfl, hX, rfl⟩
      refine l_assign rfl rfl ?_
      refine l_nil ?_
      refine g_seq ?_
      refine g_region ?_
      refine l_fieldAddr rfl fa_94_0 rfl ?_
      refine l_ld rfl Try.isAgg25 rfl rfl ?_
      refine l_fieldAddr rfl fa_65_3 rfl ?_
      first | refine l_ld rfl Try.isAgg3 rfl rfl ?_ | refine l_ldw rfl Try.isAgg3 rfl (by omega) ?_
      refine l_move rfl rfl ?_
      refine l_take (Own 30 1 (.slice (some ⟨g, 0, none⟩) n c) n (ints .u32 V)) ?_
      refine l_take (Blk x (.cells [Value.slice (some ⟨g, 0, none⟩) n c].toArray 77 (0, 0))) ?_
      refine l_call rfl Try.call36 rfl (lay_any _ _ x g n c V m1 m2 (by omega) oa oa0 oa1 Y sn hY hsn gq 0 (sn + 9) (lent_row (E := 30) hX hY (by first | exact mem_getO 0 rfl | exact mem_getO 1 rfl | exact mem_getO 2 rfl | exact mem_getO 3 rfl | exact mem_getO 4 rfl | exact mem_getO 5 rfl | exact mem_getO 6 rfl | exact mem_getO 7 rfl | exact mem_getO 8 rfl | exact mem_getO 9 rfl | exact mem_getO 10 rfl | exact mem_getO 11 rfl))) ?_; rintro _ _ ⟨rfl, rfl⟩
      refine l_assign rfl rfl ?_
      refine l_nil ?_
      refine g_seq ?_
      refine g_region ?_
      refine l_move rfl rfl ?_
      refine l_fieldAddr rfl fa_65_7 rfl ?_
      refine l_ld rfl Try.isAgg23 rfl rfl ?_
      refine l_take (Own 30 1 (.slice (some ⟨gq, 0, none⟩) (sn + 9) (sn + 9)) (sn + 9) (ints .u32 X)) ?_
      refine l_call rfl Try.call44 rfl (back_ok _ _ gq X sa sn sc Y hY hR.ex hsn hYU hX) ?_; rintro _ _ ⟨rfl, rfl⟩
      refine l_assign rfl rfl ?_
      refine l_nil ?_
      refine g_seq ?_
      refine g_region ?_
      refine l_move rfl rfl ?_
      refine l_move rfl rfl ?_
      refine l_split 163 rfl ?_ ?_
      · intro hbr
        have hb163 := hbr
        refine l_guard_yes rfl rfl ?_
        refine l_move rfl rfl ?_
        refine l_guard_yes rfl rfl ?_
        refine l_fieldAddr rfl fa_94_1 rfl ?_
        refine l_guard_yes rfl rfl ?_
        refine l_ld rfl Try.isAgg87 rfl rfl ?_
        refine l_guard_yes rfl rfl ?_
        refine l_fieldAddr rfl fa_65_3 rfl ?_
        refine l_guard_yes rfl rfl ?_
        first | refine l_ld rfl Try.isAgg3 rfl rfl ?_ | refine l_ldw rfl Try.isAgg3 rfl (by omega) ?_
        refine l_guard_yes rfl rfl ?_
        refine l_fieldAddr rfl fa_65_7 rfl ?_
        refine l_guard_yes rfl rfl ?_
        refine l_ld rfl Try.isAgg23 rfl rfl ?_
        refine l_guard_yes rfl rfl ?_
        refine l_take (Own 30 1 (.slice (some ⟨h, 0, none⟩) n d) n (ints .u32 V)) ?_
        refine l_take (Blk y (.cells [Value.slice (some ⟨h, 0, none⟩) n d].toArray 104 (0, 0))) ?_
        refine l_call rfl Try.call54 rfl (rlay_any _ _ y h n d V m1 m3 (by omega) oa oa0 oa1 Y sn hY hsn sa sc hR.ex hYU) ?_; rintro _ _ ⟨rfl, rfl⟩
        refine l_guard_yes rfl rfl ?_
        refine l_eql rfl rfl rfl ?_
        refine l_pick_t rfl rfl rfl ?_
        refine l_assign rfl rfl ?_
        refine l_nil ?_
        refine g_take (BigBut S.N i (fun j => mpA (S.M j))) ?_
        refine g_take (Own 30 1 (.slice (some ⟨h, 0, none⟩) n d) n (ints .u32 (lyW V Y n oa))) ?_
        refine g_take (Blk y (.cells [Value.slice (some ⟨h, 0, none⟩) n d].toArray 104 (0, 0))) ?_
        refine g_take (Own 30 1 (.slice (some ⟨g, 0, none⟩) n c) n (ints .u32 (lyW V Y n oa))) ?_
        refine g_take (Blk x (.cells [Value.slice (some ⟨g, 0, none⟩) n c].toArray 77 (0, 0))) ?_
        refine g_closem ?_
        rw [mp_rows (i := i) (m := ⟨x, g, c, y, h, d, n, (lyW V Y n oa)⟩) (by rw [hm] <;> rfl)]
        refine g_ret Try.func27 rfl (.tmp rfl .nil) ?_
        exact Gives.mki ⟨⟨S.N, upF S.M i ⟨x, g, c, y, h, d, n, (lyW V Y n oa)⟩, S.la, S.lc, S.J, S.T, S.ia, S.ic, S.K, S.B, S.ka, S.kc⟩, (by first | rfl | exact congrArg Value.bool (decide_eq_true rfl) | (simp [resVal]; done)), (hS.put (i := i) (m := ⟨x, g, c, y, h, d, n, (lyW V Y n oa)⟩) ⟨(ly_ok m1 m6 hYU oa).1, m2, m3, m4, m5, (ly_ok m1 m6 hYU oa).2⟩ (by rw [hm])), Nat.le_refl _, by simp only; omega, by simp only; omega, rfl⟩
      · intro hbr
        first | (exfalso; simp at hbr; done) | (exfalso; simp at hbr; omega) | (exfalso; first | omega | (simp at hbr; done))
    intro hbr
    have hbr := of_decide_eq_false hbr
    refine g_seq ?_
    refine g_region ?_
    refine l_eql rfl rfl rfl ?_
    refine l_assign rfl rfl ?_
    refine l_nil ?_
    refine g_cond rfl ?_ ?_
    · intro hbr
      have hbr := of_decide_eq_true hbr
      refine g_seq ?_
      refine g_region ?_
      refine l_fieldAddr rfl fa_94_0 rfl ?_
      refine l_ld rfl Try.isAgg25 rfl rfl ?_
      refine l_fieldAddr rfl fa_65_3 rfl ?_
      first | refine l_ld rfl Try.isAgg3 rfl rfl ?_ | refine l_ldw rfl Try.isAgg3 rfl (by omega) ?_
      refine l_fieldAddr rfl fa_65_4 rfl ?_
      first | refine l_ld rfl Try.isAgg3 rfl rfl ?_ | refine l_ldw rfl Try.isAgg3 rfl (by omega) ?_
      refine l_fieldAddr rfl fa_65_6 rfl ?_
      first | refine l_ld rfl Try.isAgg30 rfl rfl ?_ | refine l_ldw rfl Try.isAgg30 rfl (by omega) ?_
      refine l_take (Own 30 1 (.slice (some ⟨g, 0, none⟩) n c) n (ints .u32 V)) ?_
      refine l_take (Blk x (.cells [Value.slice (some ⟨g, 0, none⟩) n c].toArray 77 (0, 0))) ?_
      refine l_call rfl Try.call37 rfl (fill_any _ _ x g n c V m1 m2 (by omega) oa oa0 oa1 ob ob0 ob1 ox) ?_; rintro _ _ ⟨rfl, rfl⟩
      refine l_assign rfl rfl ?_
      refine l_nil ?_
      refine g_seq ?_
      refine g_region ?_
      refine l_move rfl rfl ?_
      refine l_fieldAddr rfl fa_94_1 rfl ?_
      refine l_ld rfl Try.isAgg87 rfl rfl ?_
      refine l_fieldAddr rfl fa_65_3 rfl ?_
      first | refine l_ld rfl Try.isAgg3 rfl rfl ?_ | refine l_ldw rfl Try.isAgg3 rfl (by omega) ?_
      refine l_fieldAddr rfl fa_65_4 rfl ?_
      first | refine l_ld rfl Try.isAgg3 rfl rfl ?_ | refine l_ldw rfl Try.isAgg3 rfl (by omega) ?_
      refine l_fieldAddr rfl fa_65_6 rfl ?_
      first | refine l_ld rfl Try.isAgg30 rfl rfl ?_ | refine l_ldw rfl Try.isAgg30 rfl (by omega) ?_
      refine l_take (Own 30 1 (.slice (some ⟨h, 0, none⟩) n d) n (ints .u32 V)) ?_
      refine l_take (Blk y (.cells [Value.slice (some ⟨h, 0, none⟩) n d].toArray 104 (0, 0))) ?_
      refine l_call rfl Try.call55 rfl (rfill_any _ _ y h n d V m1 m3 (by omega) oa oa0 oa1 ob ob0 ob1 ox) ?_; rintro _ _ ⟨rfl, rfl⟩
      refine l_eql rfl rfl rfl ?_
      refine l_assign rfl rfl ?_
      refine l_nil ?_
      refine g_take (BigBut S.N i (fun j => mpA (S.M j))) ?_
      refine g_take (Own 30 1 (.slice (some ⟨h, 0, none⟩) n d) n (ints .u32 (flW V n oa ob ox))) ?_
      refine g_take (Blk y (.cells [Value.slice (some ⟨h, 0, none⟩) n d].toArray 104 (0, 0))) ?_
      refine g_take (Own 30 1 (.slice (some ⟨g, 0, none⟩) n c) n (ints .u32 (flW V n oa ob ox))) ?_
      refine g_take (Blk x (.cells [Value.slice (some ⟨g, 0, none⟩) n c].toArray 77 (0, 0))) ?_
      refine g_closem ?_
      rw [mp_rows (i := i) (m := ⟨x, g, c, y, h, d, n, (flW V n oa ob ox)⟩) (by rw [hm] <;> rfl)]
      refine g_ret Try.func27 rfl (.tmp rfl .nil) ?_
      exact Gives.mki ⟨⟨S.N, upF S.M i ⟨x, g, c, y, h, d, n, (flW V n oa ob ox)⟩, S.la, S.lc, S.J, S.T, S.ia, S.ic, S.K, S.B, S.ka, S.kc⟩, (by first | rfl | exact congrArg Value.bool (decide_eq_true rfl) | (simp [resVal]; done)), (hS.put (i := i) (m := ⟨x, g, c, y, h, d, n, (flW V n oa ob ox)⟩) ⟨(fl_ok m1 m6 oa ob ox ox0 ox1).1, m2, m3, m4, m5, (fl_ok m1 m6 oa ob ox ox0 ox1).2⟩ (by rw [hm])), Nat.le_refl _, by simp only; omega, by simp only; omega, rfl⟩
    intro hbr
    have hbr := of_decide_eq_false hbr
    refine g_seq ?_
    refine g_region ?_
    refine l_eql rfl rfl rfl ?_
    refine l_assign rfl rfl ?_
    refine l_nil ?_
    refine g_cond rfl ?_ ?_
    · intro hbr
      have hbr := of_decide_eq_true hbr
      refine g_seq ?_
      refine g_region ?_
      refine l_fieldAddr rfl fa_94_0 rfl ?_
      refine l_ld rfl Try.isAgg25 rfl rfl ?_
      refine l_fieldAddr rfl fa_65_3 rfl ?_
      first | refine l_ld rfl Try.isAgg3 rfl rfl ?_ | refine l_ldw rfl Try.isAgg3 rfl (by omega) ?_
      refine l_fieldAddr rfl fa_65_4 rfl ?_
      first | refine l_ld rfl Try.isAgg3 rfl rfl ?_ | refine l_ldw rfl Try.isAgg3 rfl (by omega) ?_
      refine l_fieldAddr rfl fa_65_5 rfl ?_
      first | refine l_ld rfl Try.isAgg3 rfl rfl ?_ | refine l_ldw rfl Try.isAgg3 rfl (by omega) ?_
      refine l_take (Own 30 1 (.slice (some ⟨g, 0, none⟩) n c) n (ints .u32 V)) ?_
      refine l_take (Blk x (.cells [Value.slice (some ⟨g, 0, none⟩) n c].toArray 77 (0, 0))) ?_
      refine l_call rfl Try.call38 rfl (move_any _ _ x g n c V m1 m2 (by omega) oa oa0 oa1 ob ob0 ob1 oc oc0 oc1) ?_; rintro _ _ ⟨rfl, rfl⟩
      refine l_assign rfl rfl ?_
      refine l_nil ?_
      refine g_seq ?_
      refine g_region ?_
      refine l_move rfl rfl ?_
      refine l_fieldAddr rfl fa_94_1 rfl ?_
      refine l_ld rfl Try.isAgg87 rfl rfl ?_
      refine l_fieldAddr rfl fa_65_3 rfl ?_
      first | refine l_ld rfl Try.isAgg3 rfl rfl ?_ | refine l_ldw rfl Try.isAgg3 rfl (by omega) ?_
      refine l_fieldAddr rfl fa_65_4 rfl ?_
      first | refine l_ld rfl Try.isAgg3 rfl rfl ?_ | refine l_ldw rfl Try.isAgg3 rfl (by omega) ?_
      refine l_fieldAddr rfl fa_65_5 rfl ?_
      first | refine l_ld rfl Try.isAgg3 rfl rfl ?_ | refine l_ldw rfl Try.isAgg3 rfl (by omega) ?_
      refine l_take (Own 30 1 (.slice (some ⟨h, 0, none⟩) n d) n (ints .u32 V)) ?_
      refine l_take (Blk y (.cells [Value.slice (some ⟨h, 0, none⟩) n d].toArray 104 (0, 0))) ?_
      refine l_call rfl Try.call56 rfl (rmove_any _ _ y h n d V m1 m3 (by omega) m6 oa oa0 oa1 ob ob0 ob1 oc oc0 oc1) ?_; rintro _ _ ⟨rfl, rfl⟩
      refine l_eql rfl rfl rfl ?_
      refine l_assign rfl rfl ?_
      refine l_nil ?_
      refine g_take (BigBut S.N i (fun j => mpA (S.M j))) ?_
      refine g_take (Own 30 1 (.slice (some ⟨h, 0, none⟩) n d) n (ints .u32 (mvW V n oa ob oc))) ?_
      refine g_take (Blk y (.cells [Value.slice (some ⟨h, 0, none⟩) n d].toArray 104 (0, 0))) ?_
      refine g_take (Own 30 1 (.slice (some ⟨g, 0, none⟩) n c) n (ints .u32 (mvW V n oa ob oc))) ?_
      refine g_take (Blk x (.cells [Value.slice (some ⟨g, 0, none⟩) n c].toArray 77 (0, 0))) ?_
      refine g_closem ?_
      rw [mp_rows (i := i) (m := ⟨x, g, c, y, h, d, n, (mvW V n oa ob oc)⟩) (by rw [hm] <;> rfl)]
      refine g_ret Try.func27 rfl (.tmp rfl .nil) ?_
      exact Gives.mki ⟨⟨S.N, upF S.M i ⟨x, g, c, y, h, d, n, (mvW V n oa ob oc)⟩, S.la, S.lc, S.J, S.T, S.ia, S.ic, S.K, S.B, S.ka, S.kc⟩, (by first | rfl | exact congrArg Value.bool (decide_eq_true rfl) | (simp [resVal]; done)), (hS.put (i := i) (m := ⟨x, g, c, y, h, d, n, (mvW V n oa ob oc)⟩) ⟨(mv_ok m1 m6 oa ob oc).1, m2, m3, m4, m5, (mv_ok m1 m6 oa ob oc).2⟩ (by rw [hm])), Nat.le_refl _, by simp only; omega, by simp only; omega, rfl⟩
    intro hbr
    have hbr := of_decide_eq_false hbr
    refine g_seq ?_
    refine g_region ?_
    refine l_eql rfl rfl rfl ?_
    refine l_assign rfl rfl ?_
    refine l_nil ?_
    refine g_cond rfl ?_ ?_
    · intro hbr
      have hbr := of_decide_eq_true hbr
      refine g_seq ?_
      refine g_region ?_
      refine l_fieldAddr rfl fa_94_0 rfl ?_
      refine l_ld rfl Try.isAgg25 rfl rfl ?_
      refine l_take (Own 30 1 (.slice (some ⟨g, 0, none⟩) n c) n (ints .u32 V)) ?_
      refine l_take (Blk x (.cells [Value.slice (some ⟨g, 0, none⟩) n c].toArray 77 (0, 0))) ?_
      refine l_call rfl Try.call17 rfl (frames_ok _ _ x g n c V m1 m2 (by omega)) ?_; rintro _ _ ⟨rfl, rfl⟩
      refine l_assign rfl rfl ?_
      refine l_nil ?_
      refine g_seq ?_
      refine g_region ?_
      refine l_fieldAddr rfl fa_94_0 rfl ?_
      refine l_ld rfl Try.isAgg25 rfl rfl ?_
      refine l_take (Own 30 1 (.slice (some ⟨g, 0, none⟩) n c) n (ints .u32 V)) ?_
      refine l_take (Blk x (.cells [Value.slice (some ⟨g, 0, none⟩) n c].toArray 77 (0, 0))) ?_
      refine l_call rfl Try.call18 rfl (words_ok _ _ x g n c V m1 m2 (by omega)) ?_; rintro _ _ ⟨q25, c25, rfl, hc25, rfl⟩
      refine l_assign rfl rfl ?_
      refine l_nil ?_
      refine g_seq ?_
      refine g_region ?_
      refine l_fieldAddr rfl fa_94_0 rfl ?_
      refine l_ld rfl Try.isAgg25 rfl rfl ?_
      refine l_take (Own 30 1 (.slice (some ⟨g, 0, none⟩) n c) n (ints .u32 V)) ?_
      refine l_take (Blk x (.cells [Value.slice (some ⟨g, 0, none⟩) n c].toArray 77 (0, 0))) ?_
      refine l_call rfl Try.call18 rfl (words_ok _ _ x g n c V m1 m2 (by omega)) ?_; rintro _ _ ⟨q26, c26, rfl, hc26, rfl⟩
      refine l_assign rfl rfl ?_
      refine l_nil ?_
      refine g_seq ?_
      refine gp_start mo (by kernel_rfl) (by kernel_rfl) ?_
      refine gp_quiet 0 rfl rfl rfl rfl rfl rfl (q_move rfl) ?_
      refine gp_quiet 1 rfl rfl rfl rfl rfl rfl (q_nilCheck rfl) ?_
      refine gp_quiet 2 rfl rfl rfl rfl rfl rfl (q_fieldAddr fa_74_2 rfl) ?_
      refine gp_quiet 3 rfl rfl rfl rfl rfl rfl (q_move rfl) ?_
      refine gp_quiet 4 rfl rfl rfl rfl rfl rfl (q_fieldAddr fa_94_1 rfl) ?_
      refine gp_quiet 5 rfl rfl rfl rfl rfl rfl (q_ld Try.isAgg87 rfl rfl) ?_
      refine gp_quiet 6 rfl rfl rfl rfl rfl rfl (q_nilCheck rfl) ?_
      refine gp_quiet 7 rfl rfl rfl rfl rfl rfl (q_fieldAddr fa_104_0 rfl) ?_
      refine gp_quiet 8 rfl rfl rfl rfl rfl rfl (q_ld Try.isAgg23 rfl rfl) ?_
      refine gp_take (Own 30 1 (.slice (some ⟨q25, 0, none⟩) n c25) n (ints .u32 V)) ?_
      refine gp_take (BigF S.K (fun j => bkA (S.B j))) ?_
      refine gp_take (Own 107 4 (.slice S.ka S.K S.kc) S.K (rowsN S.K (fun j => bkR (S.B j)))) ?_
      refine gp_take (Blk wb (.cells [Value.slice S.la S.N S.lc, .slice S.ia S.J S.ic, .slice S.ka S.K S.kc].toArray 74 (0, 0))) ?_
      refine gp_effa 9 [2, 3, 8] [7, 6, 5, 4, 1, 0] rfl rfl rfl rfl rfl rfl rfl (does_call Try.call53 rfl (keepw_ok _ _ wb _ _ S.ka S.K S.kc S.B hS.hB (by omega) (some ⟨q25, 0, none⟩) (some ⟨h, 0, none⟩) n c25 d V m1 (by omega) m6 (.inr ⟨_, rfl⟩) (Reads.own (E := 30) (by rw [ints_length]; omega) (.inr ⟨_, _, rfl⟩) (by first | exact mem_getO 0 rfl | exact mem_getO 1 rfl | exact mem_getO 2 rfl | exact mem_getO 3 rfl | exact mem_getO 4 rfl | exact mem_getO 5 rfl | exact mem_getO 6 rfl | exact mem_getO 7 rfl | exact mem_getO 8 rfl | exact mem_getO 9 rfl | exact mem_getO 10 rfl | exact mem_getO 11 rfl)))) ?_
      rintro _ _ ⟨B1, ka1, kc1, rfl, hB1, hka1, rfl⟩
      refine ⟨?_, ?_⟩
      · refine .cons rfl rfl rfl rfl rfl (q_fieldAddr fa_104_0 rfl) ?_
        refine .cons rfl rfl rfl rfl rfl (q_nilCheck rfl) ?_
        refine .cons rfl rfl rfl rfl rfl (q_ld Try.isAgg87 rfl rfl) ?_
        refine .cons rfl rfl rfl rfl rfl (q_fieldAddr fa_94_1 rfl) ?_
        refine .cons rfl rfl rfl rfl rfl (q_nilCheck rfl) ?_
        refine .cons rfl rfl rfl rfl rfl (q_move rfl) ?_
        exact .nil
      refine gp_quiet 10 rfl rfl rfl rfl rfl rfl (q_assign rfl) ?_
      refine gp_end rfl rfl ?_
      refine g_seq ?_
      refine gp_start mo (by kernel_rfl) (by kernel_rfl) ?_
      refine gp_quiet 0 rfl rfl rfl rfl rfl rfl (q_move rfl) ?_
      refine gp_quiet 1 rfl rfl rfl rfl rfl rfl (q_nilCheck rfl) ?_
      refine gp_quiet 2 rfl rfl rfl rfl rfl rfl (q_fieldAddr fa_74_2 rfl) ?_
      refine gp_quiet 3 rfl rfl rfl rfl rfl rfl (q_move rfl) ?_
      refine gp_quiet 4 rfl rfl rfl rfl rfl rfl (q_fieldAddr fa_94_1 rfl) ?_
      refine gp_quiet 5 rfl rfl rfl rfl rfl rfl (q_ld Try.isAgg87 rfl rfl) ?_
      refine gp_quiet 6 rfl rfl rfl rfl rfl rfl (q_nilCheck rfl) ?_
      refine gp_quiet 7 rfl rfl rfl rfl rfl rfl (q_fieldAddr fa_104_0 rfl) ?_
      refine gp_quiet 8 rfl rfl rfl rfl rfl rfl (q_ld Try.isAgg23 rfl rfl) ?_
      refine gp_take (Own 30 1 (.slice (some ⟨q26, 0, none⟩) n c26) n (ints .u32 V)) ?_
      refine gp_take (BigF (S.K + 1) (fun j => bkA (B1 j))) ?_
      refine gp_take (Own 107 4 (.slice ka1 (S.K + 1) kc1) (S.K + 1) (rowsN (S.K + 1) (fun j => bkR (B1 j)))) ?_
      refine gp_take (Blk wb (.cells [Value.slice S.la S.N S.lc, .slice S.ia S.J S.ic, .slice ka1 (S.K + 1) kc1].toArray 74 (0, 0))) ?_
      refine gp_effa 9 [2, 3, 8] [7, 6, 5, 4, 1, 0] rfl rfl rfl rfl rfl rfl rfl (does_call Try.call53 rfl (keepw_ok _ _ wb _ _ ka1 (S.K + 1) kc1 B1 hB1 (by omega) (some ⟨q26, 0, none⟩) (some ⟨h, 0, none⟩) n c26 d V m1 (by omega) m6 (.inr ⟨_, rfl⟩) (Reads.own (E := 30) (by rw [ints_length]; omega) (.inr ⟨_, _, rfl⟩) (by first | exact mem_getO 0 rfl | exact mem_getO 1 rfl | exact mem_getO 2 rfl | exact mem_getO 3 rfl | exact mem_getO 4 rfl | exact mem_getO 5 rfl | exact mem_getO 6 rfl | exact mem_getO 7 rfl | exact mem_getO 8 rfl | exact mem_getO 9 rfl | exact mem_getO 10 rfl | exact mem_getO 11 rfl)))) ?_
      rintro _ _ ⟨B2, ka2, kc2, rfl, hB2, hka2, rfl⟩
      refine ⟨?_, ?_⟩
      · refine .cons rfl rfl rfl rfl rfl (q_fieldAddr fa_104_0 rfl) ?_
        refine .cons rfl rfl rfl rfl rfl (q_nilCheck rfl) ?_
        refine .cons rfl rfl rfl rfl rfl (q_ld Try.isAgg87 rfl rfl) ?_
        refine .cons rfl rfl rfl rfl rfl (q_fieldAddr fa_94_1 rfl) ?_
        refine .cons rfl rfl rfl rfl rfl (q_nilCheck rfl) ?_
        refine .cons rfl rfl rfl rfl rfl (q_move rfl) ?_
        exact .nil
      refine gp_quiet 10 rfl rfl rfl rfl rfl rfl (q_assign rfl) ?_
      refine gp_end rfl rfl ?_
      refine g_seq ?_
      refine g_region ?_
      refine l_move rfl rfl ?_
      refine l_fieldAddr rfl fa_94_1 rfl ?_
      refine l_ld rfl Try.isAgg87 rfl rfl ?_
      refine l_take (Own 30 1 (.slice (some ⟨h, 0, none⟩) n d) n (ints .u32 V)) ?_
      refine l_take (Blk y (.cells [Value.slice (some ⟨h, 0, none⟩) n d].toArray 104 (0, 0))) ?_
      refine l_call rfl Try.call57 rfl (rframes_ok _ _ y h n d V m1 m3 (by omega)) ?_; rintro _ _ ⟨rfl, rfl⟩
      refine l_eql rfl rfl rfl ?_
      refine l_move rfl rfl ?_
      refine l_split 254 rfl ?_ ?_
      · intro hbr
        have hbr := of_decide_eq_true hbr
        refine l_guard_yes rfl rfl ?_
        refine l_move rfl rfl ?_
        refine l_pick_t rfl rfl rfl ?_
        refine l_move rfl rfl ?_
        refine l_guard_yes rfl rfl ?_
        refine l_move rfl rfl ?_
        refine l_pick_t rfl rfl rfl ?_
        refine l_assign rfl rfl ?_
        refine l_nil ?_
        refine g_take (BigBut S.N i (fun j => mpA (S.M j))) ?_
        refine g_take (Own 30 1 (.slice (some ⟨h, 0, none⟩) n d) n (ints .u32 V)) ?_
        refine g_take (Blk y (.cells [Value.slice (some ⟨h, 0, none⟩) n d].toArray 104 (0, 0))) ?_
        refine g_take (Own 30 1 (.slice (some ⟨g, 0, none⟩) n c) n (ints .u32 V)) ?_
        refine g_take (Blk x (.cells [Value.slice (some ⟨g, 0, none⟩) n c].toArray 77 (0, 0))) ?_
        refine g_closem ?_
        rw [mp_rows (i := i) (m := ⟨x, g, c, y, h, d, n, V⟩) (by rw [hm] <;> rfl)]
        refine g_ret Try.func27 rfl (.tmp rfl .nil) ?_
        exact Gives.mki ⟨⟨S.N, upF S.M i ⟨x, g, c, y, h, d, n, V⟩, S.la, S.lc, S.J, S.T, S.ia, S.ic, S.K + 1 + 1, B2, ka2, kc2⟩, (by first | rfl | exact congrArg Value.bool (decide_eq_true rfl) | (simp [resVal]; done)), ((hS.put (i := i) (m := ⟨x, g, c, y, h, d, n, V⟩) ⟨m1, m2, m3, m4, m5, m6⟩ (by rw [hm])).bk hB2 hka2 kc2), Nat.le_refl _, by simp only; omega, by simp only; omega, rfl⟩
      · intro hbr
        have hbr := of_decide_eq_false hbr
        (exfalso; first | omega | (simp at hbr; done))
    intro hbr
    have hbr := of_decide_eq_false hbr
    refine g_skip ?_
    refine g_inBlock ?_
    refine g_seq ?_
    refine g_region ?_
    refine l_assign rfl rfl ?_
    refine l_nil ?_
    refine g_take (BigBut S.N i (fun j => mpA (S.M j))) ?_
    refine g_take (Own 30 1 (.slice (some ⟨h, 0, none⟩) n d) n (ints .u32 V)) ?_
    refine g_take (Blk y (.cells [Value.slice (some ⟨h, 0, none⟩) n d].toArray 104 (0, 0))) ?_
    refine g_take (Own 30 1 (.slice (some ⟨g, 0, none⟩) n c) n (ints .u32 V)) ?_
    refine g_take (Blk x (.cells [Value.slice (some ⟨g, 0, none⟩) n c].toArray 77 (0, 0))) ?_
    refine g_closem ?_
    rw [mp_rows (i := i) (m := ⟨x, g, c, y, h, d, n, V⟩) (by rw [hm] <;> rfl)]
    refine g_ret Try.func27 rfl (.tmp rfl .nil) ?_
    exact Gives.mki ⟨⟨S.N, upF S.M i ⟨x, g, c, y, h, d, n, V⟩, S.la, S.lc, S.J, S.T, S.ia, S.ic, S.K, S.B, S.ka, S.kc⟩, (by first | rfl | exact congrArg Value.bool (decide_eq_true rfl) | (simp [resVal]; done)), (hS.put (i := i) (m := ⟨x, g, c, y, h, d, n, V⟩) ⟨m1, m2, m3, m4, m5, m6⟩ (by rw [hm])), Nat.le_refl _, by simp only; omega, by simp only; omega, rfl⟩
end Go.Proofs.Ytlgcghhjgcdigaa.Fw
