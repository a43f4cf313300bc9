import Derived.Test.YtlgcghhjgcdigaaWorks
namespace Go.Proofs.Ytlgcghhjgcdigaa.Fw
open Go Go.Proofs
set_option linter.unusedVariables false
set_option linter.unusedSimpArgs false
set_option maxRecDepth 10000

theorem l_closem {P : Program} {f : Fr} {w0 : World} {K : Post} {n' : Nat} {d' : List Deferred} {ops : Array Oper} {rest : List Oper} {k : List Item} {e : Env} {F : List Atom} {N i x g c y h d n : Nat} {V2 : List Int} {M : Nat → MP} (hk : GL P f w0 K n' d' ops rest k e (BigF N (fun j => mpA (upF M i ⟨x, g, c, y, h, d, n, V2⟩ j)) :: F)) : GL P f w0 K n' d' ops rest k e (Blk x (.cells [Value.slice (some ⟨g, 0, none⟩) n c].toArray 77 (0, 0)) :: Own 30 1 (.slice (some ⟨g, 0, none⟩) n c) n (ints .u32 V2) :: Blk y (.cells [Value.slice (some ⟨h, 0, none⟩) n d].toArray 104 (0, 0)) :: Own 30 1 (.slice (some ⟨h, 0, none⟩) n d) n (ints .u32 V2) :: BigBut N i (fun j => mpA (M j)) :: F) := by
  refine l_unquad ?_
  exact l_unfocus (fun j => mpA (upF M i ⟨x, g, c, y, h, d, n, V2⟩ j)) (by simp only [upF_at]; rfl) (fun k _ hk => by simp only [upF_ne hk]) hk
theorem rof2_ok (w0 : World) (F : List Atom) (sa : Option Addr) (n c2 : Nat) (W : List Int) (hW : W.length = n) (hR : IR w0 F .u32 sa n W) (h1 : n ≤ 16384) (h2 : 0 < n) (h3 : n % 16 = 0) :
    CallK Try.prog 43 [.slice sa n c2] w0 (F) (Gives w0 fun v F2 => ∃ b g c, v = .tuple #[.pointer (some ⟨b, 0, none⟩), .int .i64 0] ∧ n ≤ c ∧ F2 = Blk b (.cells [Value.slice (some ⟨g, 0, none⟩) n c].toArray 104 (0, 0)) :: Own 30 1 (.slice (some ⟨g, 0, none⟩) n c) n (ints .u32 W) :: F) := by
  obtain ⟨b2, o2, rfl, hr⟩ := hR.some (i := 0) (by omega)
  refine c_enter Try.func43 rfl rfl rfl ?_
  refine g_seq ?_
  refine g_region ?_
  refine l_assign rfl rfl ?_
  refine l_assign rfl rfl ?_
  refine l_nil ?_
  refine g_seq ?_
  refine g_seq ?_
  refine g_region ?_
  refine l_move rfl rfl ?_
  refine l_len rfl Try.underlying23 rfl ?_
  refine l_gtr rfl rfl rfl ?_
  refine l_nil ?_
  refine g_cond rfl ?_ ?_
  · intro hbr
    have hbr := of_decide_eq_true hbr
    (exfalso; omega)
  intro hbr
  have hbr := of_decide_eq_false hbr
  refine g_skip ?_
  refine g_seq ?_
  refine g_seq ?_
  refine g_region ?_
  refine l_move rfl rfl ?_
  refine l_len rfl Try.underlying23 rfl ?_
  refine l_eql rfl rfl rfl ?_
  refine l_move rfl rfl ?_
  refine l_split 11 rfl ?_ ?_
  · intro hbr
    have hbr := of_decide_eq_true hbr
    (exfalso; omega)
  intro hbr
  have hbr := of_decide_eq_false hbr
  refine l_guard_yes rfl rfl ?_
  refine l_move rfl rfl ?_
  refine l_guard_yes rfl rfl ?_
  refine l_len rfl Try.underlying23 rfl ?_
  refine l_guard_yes rfl rfl ?_
  refine l_rem rfl rfl rfl (by omega) (by omega) (w_i64 (by omega) (by omega)) ?_
  refine l_guard_yes rfl rfl ?_
  refine l_neq rfl rfl rfl ?_
  refine l_pick_f rfl rfl rfl ?_
  refine l_nil ?_
  refine g_cond rfl ?_ ?_
  · intro hbr
    have hbr := of_decide_eq_true hbr
    (exfalso; omega)
  intro hbr
  have hbr := of_decide_eq_false hbr
  refine g_skip ?_
  refine g_seq ?_
  refine g_region ?_
  refine l_build rfl rfl (fun w => bd_104_z w) ?_
  refine l_boxs rfl rfl ?_; intro b18
  refine l_assign rfl rfl ?_
  refine l_nil ?_
  refine g_seq ?_
  refine g_region ?_
  refine l_move rfl rfl ?_
  refine l_move rfl rfl ?_
  refine l_nilCheck rfl rfl ?_
  refine l_fieldAddr rfl fa_104_0 rfl ?_
  refine l_ld rfl Try.isAgg23 rfl rfl ?_
  refine l_move rfl rfl ?_
  refine l_own_nil 30 1 ?_; refine l_appendw 0 (by_ := 4) (V := []) rfl Try.underlying23 Try.type30 rfl rfl rfl rfl rfl rfl rfl ⟨by rw [ints_length]; omega, .inl ⟨_, _, _, rfl, hr.ex⟩⟩ (by omega) (by simp only [maxLen]; omega) (Nat.zero_add _) (List.nil_append _) (fun _ => rfl) ?_; intro v25 hv25
  refine l_nilCheck rfl rfl ?_
  refine l_fieldAddr rfl fa_104_0 rfl ?_
  refine l_fact (own_cases (mem_getO 0 rfl)) ?_; rintro ⟨_, hm9, hv | ⟨g9, c9, rfl, hc9⟩⟩; exact absurd hv.2 (by omega)
  refine l_store 1 Try.sizeOf23 rfl rfl rfl rfl rfl rfl ?_
  refine l_nil ?_
  refine g_seq ?_
  refine g_region ?_
  refine l_move rfl rfl ?_
  refine l_assign rfl rfl ?_
  refine l_assign rfl rfl ?_
  refine l_nil ?_
  refine g_ret Try.func43 rfl (.tmp rfl (.tmp rfl .nil)) ?_
  exact Gives.mk ⟨_, g9, c9, rfl, hc9, rfl⟩ (.cons 1 rfl .refl)
set_option maxHeartbeats 8000000 in
theorem makes_n1 (w0 : World) (F : List Atom) (wb : Nat) (S : WS) (hS : SOk S) (kd : Int) (kd0 : -9223372036854775808 ≤ kd) (kd1 : kd ≤ 9223372036854775807) (who : Int) (who0 : -9223372036854775808 ≤ who) (who1 : who ≤ 9223372036854775807) (oth : Int) (oth0 : -9223372036854775808 ≤ oth) (oth1 : oth ≤ 9223372036854775807) (oa : Int) (oa0 : -9223372036854775808 ≤ oa) (oa1 : oa ≤ 9223372036854775807) (ob : Int) (ob0 : -9223372036854775808 ≤ ob) (ob1 : ob ≤ 9223372036854775807) (oc : Int) (oc0 : -9223372036854775808 ≤ oc) (oc1 : oc ≤ 9223372036854775807) (ox : Int) (ox0 : 0 ≤ ox) (ox1 : ox ≤ 4294967295) (sa : Option Addr) (sn sc : Nat) (Y : List Int) (hY : Y.length = sn) (hsn : sn ≤ 2147483647) (hR : IR w0 F .u32 sa sn Y) (hYU : W32s Y) (hk : kd = 1) (h1 : 1 ≤ oa) (h2 : oa ≤ 1024) :
    CallK Try.prog 23 [.pointer (some ⟨wb, 0, none⟩), .agg [Value.int .i64 kd, .int .i64 who, .int .i64 oth, .int .i64 oa, .int .i64 ob, .int .i64 oc, .int .u32 ox, .slice sa sn sc].toArray] w0 (Blk wb (.cells [Value.slice S.la S.N S.lc, .slice S.ia S.J S.ic, .slice S.ka S.K S.kc].toArray 74 (0, 0)) :: Own 94 2 (.slice S.la S.N S.lc) S.N (rowsN S.N (fun j => mpR (S.M j))) :: BigF S.N (fun j => mpA (S.M j)) :: Own 102 3 (.slice S.ia S.J S.ic) S.J (rowsN S.J (fun j => kiR (S.T j))) :: BigF S.J (fun j => kiA (S.T j)) :: Own 107 4 (.slice S.ka S.K S.kc) S.K (rowsN S.K (fun j => bkR (S.B j))) :: BigF S.K (fun j => bkA (S.B j)) :: F) (Gives w0 fun v F2 => ∃ S' : WS, v = .bool true ∧ SOk S' ∧ S.N ≤ S'.N ∧ S'.J ≤ S.J + 1 ∧ S'.K ≤ S.K + 2 ∧ F2 = Blk wb (.cells [Value.slice S'.la S'.N S'.lc, .slice S'.ia S'.J S'.ic, .slice S'.ka S'.K S'.kc].toArray 74 (0, 0)) :: Own 94 2 (.slice S'.la S'.N S'.lc) S'.N (rowsN S'.N (fun j => mpR (S'.M j))) :: BigF S'.N (fun j => mpA (S'.M j)) :: Own 102 3 (.slice S'.ia S'.J S'.ic) S'.J (rowsN S'.J (fun j => kiR (S'.T j))) :: BigF S'.J (fun j => kiA (S'.T j)) :: Own 107 4 (.slice S'.ka S'.K S'.kc) S'.K (rowsN S'.K (fun j => bkR (S'.B j))) :: BigF S'.K (fun j => bkA (S'.B j)) :: F) := by
  refine c_enter Try.func23 rfl rfl rfl ?_
  refine g_seq ?_
  refine g_region ?_
  refine l_boxs rfl rfl ?_; intro b3
  refine l_assign rfl rfl ?_
  refine l_nil ?_
  refine g_seq ?_
  refine g_seq ?_
  refine g_region ?_
  refine l_fieldAddr rfl fa_65_0 rfl ?_
  first | refine l_ld rfl Try.isAgg3 rfl rfl ?_ | refine l_ldw rfl Try.isAgg3 rfl (by omega) ?_
  refine l_nil ?_
  refine g_block ?_
  refine g_seq ?_
  refine g_region ?_
  refine l_eql rfl rfl rfl ?_
  refine l_assign rfl rfl ?_
  refine l_nil ?_
  refine g_cond rfl ?_ ?_
  · intro hbr
    have hbr := of_decide_eq_true hbr
    refine g_seq ?_
    refine g_region ?_
    refine l_fieldAddr rfl fa_65_3 rfl ?_
    first | refine l_ld rfl Try.isAgg3 rfl rfl ?_ | refine l_ldw rfl Try.isAgg3 rfl (by omega) ?_
    refine l_call rfl Try.call9 rfl (new_ok _ _ oa h1 h2) ?_; rintro _ _ ⟨b1, g1, c1, rfl, hc1, rfl⟩
    refine l_move rfl rfl ?_
    refine l_extract rfl rfl rfl ?_
    refine l_extract rfl rfl rfl ?_
    refine l_assign rfl rfl ?_
    refine l_assign rfl rfl ?_
    refine l_nil ?_
    refine g_seq ?_
    refine g_region ?_
    refine l_fieldAddr rfl fa_65_3 rfl ?_
    first | refine l_ld rfl Try.isAgg3 rfl rfl ?_ | refine l_ldw rfl Try.isAgg3 rfl (by omega) ?_
    refine l_call rfl Try.call39 rfl (rnew5_ok _ _ oa h1 h2) ?_; rintro _ _ ⟨b2, g2, c2, rfl, hc2, rfl⟩
    refine l_move rfl rfl ?_
    refine l_extract rfl rfl rfl ?_
    refine l_extract rfl rfl rfl ?_
    refine l_assign rfl rfl ?_
    refine l_assign rfl rfl ?_
    refine l_nil ?_
    refine g_seq ?_
    refine g_region ?_
    refine l_move rfl rfl ?_
    refine l_move rfl rfl ?_
    refine l_move rfl rfl ?_
    refine l_move rfl rfl ?_
    refine l_move rfl rfl ?_
    refine l_take (BigF S.K (fun j => bkA (S.B j))) ?_
    refine l_take (Own 107 4 (.slice S.ka S.K S.kc) S.K (rowsN S.K (fun j => bkR (S.B j)))) ?_
    refine l_take (BigF S.J (fun j => kiA (S.T j))) ?_
    refine l_take (Own 102 3 (.slice S.ia S.J S.ic) S.J (rowsN S.J (fun j => kiR (S.T j)))) ?_
    refine l_take (BigF S.N (fun j => mpA (S.M j))) ?_
    refine l_take (Own 94 2 (.slice S.la S.N S.lc) S.N (rowsN S.N (fun j => mpR (S.M j)))) ?_
    refine l_take (Blk wb (.cells [Value.slice S.la S.N S.lc, .slice S.ia S.J S.ic, .slice S.ka S.K S.kc].toArray 74 (0, 0))) ?_
    refine l_take (Own 30 1 (.slice (some ⟨g2, 0, none⟩) (oa * 16).toNat c2) (oa * 16).toNat (ints .u32 (List.replicate (oa * 16).toNat 0))) ?_
    refine l_take (Blk b2 (.cells [Value.slice (some ⟨g2, 0, none⟩) (oa * 16).toNat c2].toArray 104 (0, 0))) ?_
    refine l_take (Own 30 1 (.slice (some ⟨g1, 0, none⟩) (oa * 16).toNat c1) (oa * 16).toNat (ints .u32 (List.replicate (oa * 16).toNat 0))) ?_
    refine l_take (Blk b1 (.cells [Value.slice (some ⟨g1, 0, none⟩) (oa * 16).toNat c1].toArray 77 (0, 0))) ?_
    refine l_call rfl Try.call40 rfl (made_ok _ _ wb S hS b1 g1 c1 b2 g2 c2 (oa * 16).toNat (List.replicate (oa * 16).toNat 0) ⟨by simp, hc1, hc2, by simp only; omega, by simp only; omega, .rep _ ⟨by decide, by decide⟩⟩) ?_; rintro _ _ ⟨S2, rfl, hS2, hN2, hN3, hJ2, hK2, rfl⟩
    refine l_assign rfl rfl ?_
    refine l_nil ?_
    refine g_ret Try.func23 rfl (.tmp rfl .nil) ?_
    exact Gives.mki ⟨S2, rfl, hS2, hN2, hJ2, hK2, rfl⟩
  · intro hbr
    have hbr := of_decide_eq_false hbr
    (exfalso; first | omega | (simp at hbr; done))
set_option maxHeartbeats 8000000 in
theorem makes_n0 (w0 : World) (F : List Atom) (wb : Nat) (S : WS) (hS : SOk S) (kd : Int) (kd0 : -9223372036854775808 ≤ kd) (kd1 : kd ≤ 9223372036854775807) (who : Int) (who0 : -9223372036854775808 ≤ who) (who1 : who ≤ 9223372036854775807) (oth : Int) (oth0 : -9223372036854775808 ≤ oth) (oth1 : oth ≤ 9223372036854775807) (oa : Int) (oa0 : -9223372036854775808 ≤ oa) (oa1 : oa ≤ 9223372036854775807) (ob : Int) (ob0 : -9223372036854775808 ≤ ob) (ob1 : ob ≤ 9223372036854775807) (oc : Int) (oc0 : -9223372036854775808 ≤ oc) (oc1 : oc ≤ 9223372036854775807) (ox : Int) (ox0 : 0 ≤ ox) (ox1 : ox ≤ 4294967295) (sa : Option Addr) (sn sc : Nat) (Y : List Int) (hY : Y.length = sn) (hsn : sn ≤ 2147483647) (hR : IR w0 F .u32 sa sn Y) (hYU : W32s Y) (hk : kd = 1) (h1 : oa < 1 ∨ 1024 < oa) :
    CallK Try.prog 23 [.pointer (some ⟨wb, 0, none⟩), .agg [Value.int .i64 kd, .int .i64 who, .int .i64 oth, .int .i64 oa, .int .i64 ob, .int .i64 oc, .int .u32 ox, .slice sa sn sc].toArray] w0 (Blk wb (.cells [Value.slice S.la S.N S.lc, .slice S.ia S.J S.ic, .slice S.ka S.K S.kc].toArray 74 (0, 0)) :: Own 94 2 (.slice S.la S.N S.lc) S.N (rowsN S.N (fun j => mpR (S.M j))) :: BigF S.N (fun j => mpA (S.M j)) :: Own 102 3 (.slice S.ia S.J S.ic) S.J (rowsN S.J (fun j => kiR (S.T j))) :: BigF S.J (fun j => kiA (S.T j)) :: Own 107 4 (.slice S.ka S.K S.kc) S.K (rowsN S.K (fun j => bkR (S.B j))) :: BigF S.K (fun j => bkA (S.B j)) :: F) (Gives w0 fun v F2 => ∃ S' : WS, v = .bool true ∧ SOk S' ∧ S.N ≤ S'.N ∧ S'.J ≤ S.J + 1 ∧ S'.K ≤ S.K + 2 ∧ F2 = Blk wb (.cells [Value.slice S'.la S'.N S'.lc, .slice S'.ia S'.J S'.ic, .slice S'.ka S'.K S'.kc].toArray 74 (0, 0)) :: Own 94 2 (.slice S'.la S'.N S'.lc) S'.N (rowsN S'.N (fun j => mpR (S'.M j))) :: BigF S'.N (fun j => mpA (S'.M j)) :: Own 102 3 (.slice S'.ia S'.J S'.ic) S'.J (rowsN S'.J (fun j => kiR (S'.T j))) :: BigF S'.J (fun j => kiA (S'.T j)) :: Own 107 4 (.slice S'.ka S'.K S'.kc) S'.K (rowsN S'.K (fun j => bkR (S'.B j))) :: BigF S'.K (fun j => bkA (S'.B j)) :: F) := by
  refine c_enter Try.func23 rfl rfl rfl ?_
  refine g_seq ?_
  refine g_region ?_
  refine l_boxs rfl rfl ?_; intro b3
  refine l_assign rfl rfl ?_
  refine l_nil ?_
  refine g_seq ?_
  refine g_seq ?_
  refine g_region ?_
  refine l_fieldAddr rfl fa_65_0 rfl ?_
  first | refine l_ld rfl Try.isAgg3 rfl rfl ?_ | refine l_ldw rfl Try.isAgg3 rfl (by omega) ?_
  refine l_nil ?_
  refine g_block ?_
  refine g_seq ?_
  refine g_region ?_
  refine l_eql rfl rfl rfl ?_
  refine l_assign rfl rfl ?_
  refine l_nil ?_
  refine g_cond rfl ?_ ?_
  · intro hbr
    have hbr := of_decide_eq_true hbr
    refine g_seq ?_
    refine g_region ?_
    refine l_fieldAddr rfl fa_65_3 rfl ?_
    first | refine l_ld rfl Try.isAgg3 rfl rfl ?_ | refine l_ldw rfl Try.isAgg3 rfl (by omega) ?_
    refine l_call rfl Try.call9 rfl (new_bad _ _ oa h1) ?_; rintro _ _ ⟨rfl, rfl⟩
    refine l_move rfl rfl ?_
    refine l_extract rfl rfl rfl ?_
    refine l_extract rfl rfl rfl ?_
    refine l_assign rfl rfl ?_
    refine l_assign rfl rfl ?_
    refine l_nil ?_
    refine g_seq ?_
    refine g_region ?_
    refine l_fieldAddr rfl fa_65_3 rfl ?_
    first | refine l_ld rfl Try.isAgg3 rfl rfl ?_ | refine l_ldw rfl Try.isAgg3 rfl (by omega) ?_
    refine l_call rfl Try.call39 rfl (rnew5_bad _ _ oa h1) ?_; rintro _ _ ⟨rfl, rfl⟩
    refine l_move rfl rfl ?_
    refine l_extract rfl rfl rfl ?_
    refine l_extract rfl rfl rfl ?_
    refine l_assign rfl rfl ?_
    refine l_assign rfl rfl ?_
    refine l_nil ?_
    refine g_seq ?_
    refine g_region ?_
    refine l_move rfl rfl ?_
    refine l_move rfl rfl ?_
    refine l_move rfl rfl ?_
    refine l_move rfl rfl ?_
    refine l_move rfl rfl ?_
    refine l_take (BigF S.K (fun j => bkA (S.B j))) ?_
    refine l_take (Own 107 4 (.slice S.ka S.K S.kc) S.K (rowsN S.K (fun j => bkR (S.B j)))) ?_
    refine l_take (BigF S.J (fun j => kiA (S.T j))) ?_
    refine l_take (Own 102 3 (.slice S.ia S.J S.ic) S.J (rowsN S.J (fun j => kiR (S.T j)))) ?_
    refine l_take (BigF S.N (fun j => mpA (S.M j))) ?_
    refine l_take (Own 94 2 (.slice S.la S.N S.lc) S.N (rowsN S.N (fun j => mpR (S.M j)))) ?_
    refine l_take (Blk wb (.cells [Value.slice S.la S.N S.lc, .slice S.ia S.J S.ic, .slice S.ka S.K S.kc].toArray 74 (0, 0))) ?_
    refine l_call rfl Try.call40 rfl (made_no _ _ wb S hS 50) ?_; rintro _ _ ⟨S2, rfl, hS2, hN2, hJ2, hK2, rfl⟩
    refine l_assign rfl rfl ?_
    refine l_nil ?_
    refine g_ret Try.func23 rfl (.tmp rfl .nil) ?_
    exact Gives.mki ⟨S2, rfl, hS2, hN2, hJ2, hK2, rfl⟩
  · intro hbr
    have hbr := of_decide_eq_false hbr
    (exfalso; first | omega | (simp at hbr; done))
set_option maxHeartbeats 8000000 in
theorem makes_o1 (w0 : World) (F : List Atom) (wb : Nat) (S : WS) (hS : SOk S) (kd : Int) (kd0 : -9223372036854775808 ≤ kd) (kd1 : kd ≤ 9223372036854775807) (who : Int) (who0 : -9223372036854775808 ≤ who) (who1 : who ≤ 9223372036854775807) (oth : Int) (oth0 : -9223372036854775808 ≤ oth) (oth1 : oth ≤ 9223372036854775807) (oa : Int) (oa0 : -9223372036854775808 ≤ oa) (oa1 : oa ≤ 9223372036854775807) (ob : Int) (ob0 : -9223372036854775808 ≤ ob) (ob1 : ob ≤ 9223372036854775807) (oc : Int) (oc0 : -9223372036854775808 ≤ oc) (oc1 : oc ≤ 9223372036854775807) (ox : Int) (ox0 : 0 ≤ ox) (ox1 : ox ≤ 4294967295) (sa : Option Addr) (sn sc : Nat) (Y : List Int) (hY : Y.length = sn) (hsn : sn ≤ 2147483647) (hR : IR w0 F .u32 sa sn Y) (hYU : W32s Y) (hk : kd = 2) (h1 : sn ≤ 16384) (h2 : 0 < sn) (h3 : sn % 16 = 0) :
    CallK Try.prog 23 [.pointer (some ⟨wb, 0, none⟩), .agg [Value.int .i64 kd, .int .i64 who, .int .i64 oth, .int .i64 oa, .int .i64 ob, .int .i64 oc, .int .u32 ox, .slice sa sn sc].toArray] w0 (Blk wb (.cells [Value.slice S.la S.N S.lc, .slice S.ia S.J S.ic, .slice S.ka S.K S.kc].toArray 74 (0, 0)) :: Own 94 2 (.slice S.la S.N S.lc) S.N (rowsN S.N (fun j => mpR (S.M j))) :: BigF S.N (fun j => mpA (S.M j)) :: Own 102 3 (.slice S.ia S.J S.ic) S.J (rowsN S.J (fun j => kiR (S.T j))) :: BigF S.J (fun j => kiA (S.T j)) :: Own 107 4 (.slice S.ka S.K S.kc) S.K (rowsN S.K (fun j => bkR (S.B j))) :: BigF S.K (fun j => bkA (S.B j)) :: F) (Gives w0 fun v F2 => ∃ S' : WS, v = .bool true ∧ SOk S' ∧ S.N ≤ S'.N ∧ S'.J ≤ S.J + 1 ∧ S'.K ≤ S.K + 2 ∧ F2 = Blk wb (.cells [Value.slice S'.la S'.N S'.lc, .slice S'.ia S'.J S'.ic, .slice S'.ka S'.K S'.kc].toArray 74 (0, 0)) :: Own 94 2 (.slice S'.la S'.N S'.lc) S'.N (rowsN S'.N (fun j => mpR (S'.M j))) :: BigF S'.N (fun j => mpA (S'.M j)) :: Own 102 3 (.slice S'.ia S'.J S'.ic) S'.J (rowsN S'.J (fun j => kiR (S'.T j))) :: BigF S'.J (fun j => kiA (S'.T j)) :: Own 107 4 (.slice S'.ka S'.K S'.kc) S'.K (rowsN S'.K (fun j => bkR (S'.B j))) :: BigF S'.K (fun j => bkA (S'.B j)) :: F) := by
  refine c_enter Try.func23 rfl rfl rfl ?_
  refine g_seq ?_
  refine g_region ?_
  refine l_boxs rfl rfl ?_; intro b3
  refine l_assign rfl rfl ?_
  refine l_nil ?_
  refine g_seq ?_
  refine g_seq ?_
  refine g_region ?_
  refine l_fieldAddr rfl fa_65_0 rfl ?_
  first | refine l_ld rfl Try.isAgg3 rfl rfl ?_ | refine l_ldw rfl Try.isAgg3 rfl (by omega) ?_
  refine l_nil ?_
  refine g_block ?_
  refine g_seq ?_
  refine g_region ?_
  refine l_eql rfl rfl rfl ?_
  refine l_assign rfl rfl ?_
  refine l_nil ?_
  refine g_cond rfl ?_ ?_
  · intro hbr
    have hbr := of_decide_eq_true hbr
    (exfalso; first | omega | (simp at hbr; done))
  intro hbr
  have hbr := of_decide_eq_false hbr
  refine g_seq ?_
  refine g_region ?_
  refine l_eql rfl rfl rfl ?_
  refine l_assign rfl rfl ?_
  refine l_nil ?_
  refine g_cond rfl ?_ ?_
  · intro hbr
    have hbr := of_decide_eq_true hbr
    refine g_seq ?_
    refine g_region ?_
    refine l_fieldAddr rfl fa_65_7 rfl ?_
    refine l_ld rfl Try.isAgg23 rfl rfl ?_
    refine l_call rfl Try.call42 rfl (lent_ok _ _ sa sn sc Y hY hR.ex hsn hYU) ?_; rintro _ _ ⟨gq, X, rfl, hX, rfl⟩
    refine l_assign rfl rfl ?_
    refine l_nil ?_
    refine g_seq ?_
    refine g_region ?_
    refine l_move rfl rfl ?_
    refine l_call rfl Try.call32 rfl (of_ok _ _ gq 0 sn (sn + 9) Y hY (by omega) (lent_row (E := 30) hX hY (by first | exact mem_getO 0 rfl | exact mem_getO 1 rfl | exact mem_getO 2 rfl | exact mem_getO 3 rfl | exact mem_getO 4 rfl | exact mem_getO 5 rfl | exact mem_getO 6 rfl | exact mem_getO 7 rfl | exact mem_getO 8 rfl | exact mem_getO 9 rfl | exact mem_getO 10 rfl | exact mem_getO 11 rfl)) h1 h2 h3) ?_; rintro _ _ ⟨b1, g1, c1, rfl, hc1, rfl⟩
    refine l_move rfl rfl ?_
    refine l_extract rfl rfl rfl ?_
    refine l_extract rfl rfl rfl ?_
    refine l_assign rfl rfl ?_
    refine l_assign rfl rfl ?_
    refine l_nil ?_
    refine g_seq ?_
    refine g_region ?_
    refine l_fieldAddr rfl fa_65_7 rfl ?_
    refine l_ld rfl Try.isAgg23 rfl rfl ?_
    refine l_call rfl Try.call43 rfl (rof2_ok _ _ sa sn sc Y hY hR.ex h1 h2 h3) ?_; rintro _ _ ⟨b2, g2, c2, rfl, hc2, rfl⟩
    refine l_move rfl rfl ?_
    refine l_extract rfl rfl rfl ?_
    refine l_extract rfl rfl rfl ?_
    refine l_assign rfl rfl ?_
    refine l_assign rfl rfl ?_
    refine l_nil ?_
    refine g_seq ?_
    refine g_region ?_
    refine l_move rfl rfl ?_
    refine l_fieldAddr rfl fa_65_7 rfl ?_
    refine l_ld rfl Try.isAgg23 rfl rfl ?_
    refine l_take (Own 30 1 (.slice (some ⟨gq, 0, none⟩) (sn + 9) (sn + 9)) (sn + 9) (ints .u32 X)) ?_
    refine l_call rfl Try.call44 rfl (back_ok _ _ gq X sa sn sc Y hY hR.ex hsn hYU hX) ?_; rintro _ _ ⟨rfl, rfl⟩
    refine l_assign rfl rfl ?_
    refine l_nil ?_
    refine g_seq ?_
    refine g_region ?_
    refine l_move rfl rfl ?_
    refine l_move rfl rfl ?_
    refine l_move rfl rfl ?_
    refine l_move rfl rfl ?_
    refine l_move rfl rfl ?_
    refine l_take (BigF S.K (fun j => bkA (S.B j))) ?_
    refine l_take (Own 107 4 (.slice S.ka S.K S.kc) S.K (rowsN S.K (fun j => bkR (S.B j)))) ?_
    refine l_take (BigF S.J (fun j => kiA (S.T j))) ?_
    refine l_take (Own 102 3 (.slice S.ia S.J S.ic) S.J (rowsN S.J (fun j => kiR (S.T j)))) ?_
    refine l_take (BigF S.N (fun j => mpA (S.M j))) ?_
    refine l_take (Own 94 2 (.slice S.la S.N S.lc) S.N (rowsN S.N (fun j => mpR (S.M j)))) ?_
    refine l_take (Blk wb (.cells [Value.slice S.la S.N S.lc, .slice S.ia S.J S.ic, .slice S.ka S.K S.kc].toArray 74 (0, 0))) ?_
    refine l_take (Own 30 1 (.slice (some ⟨g2, 0, none⟩) sn c2) sn (ints .u32 Y)) ?_
    refine l_take (Blk b2 (.cells [Value.slice (some ⟨g2, 0, none⟩) sn c2].toArray 104 (0, 0))) ?_
    refine l_take (Own 30 1 (.slice (some ⟨g1, 0, none⟩) sn c1) sn (ints .u32 Y)) ?_
    refine l_take (Blk b1 (.cells [Value.slice (some ⟨g1, 0, none⟩) sn c1].toArray 77 (0, 0))) ?_
    refine l_call rfl Try.call40 rfl (made_ok _ _ wb S hS b1 g1 c1 b2 g2 c2 sn Y ⟨hY, hc1, hc2, h2, h1, hYU⟩) ?_; rintro _ _ ⟨S2, rfl, hS2, hN2, hN3, hJ2, hK2, rfl⟩
    refine l_assign rfl rfl ?_
    refine l_nil ?_
    refine g_seq ?_
    refine g_region ?_
    refine l_move rfl rfl ?_
    refine l_move rfl rfl ?_
    refine l_split 67 rfl ?_ ?_
    · intro hbr
      have hb67 := hbr
      refine l_guard_yes rfl rfl ?_
      refine l_move rfl rfl ?_
      refine l_pick_t rfl rfl rfl ?_
      refine l_assign rfl rfl ?_
      refine l_nil ?_
      refine g_ret Try.func23 rfl (.tmp rfl .nil) ?_
      exact Gives.mki ⟨S2, rfl, hS2, hN2, hJ2, hK2, rfl⟩
    · intro hbr
      first | (exfalso; simp at hbr; done) | (exfalso; simp at hbr; omega) | (exfalso; first | omega | (simp at hbr; done))
  · intro hbr
    have hbr := of_decide_eq_false hbr
    (exfalso; first | omega | (simp at hbr; done))
set_option maxHeartbeats 8000000 in
theorem makes_o0 (w0 : World) (F : List Atom) (wb : Nat) (S : WS) (hS : SOk S) (kd : Int) (kd0 : -9223372036854775808 ≤ kd) (kd1 : kd ≤ 9223372036854775807) (who : Int) (who0 : -9223372036854775808 ≤ who) (who1 : who ≤ 9223372036854775807) (oth : Int) (oth0 : -9223372036854775808 ≤ oth) (oth1 : oth ≤ 9223372036854775807) (oa : Int) (oa0 : -9223372036854775808 ≤ oa) (oa1 : oa ≤ 9223372036854775807) (ob : Int) (ob0 : -9223372036854775808 ≤ ob) (ob1 : ob ≤ 9223372036854775807) (oc : Int) (oc0 : -9223372036854775808 ≤ oc) (oc1 : oc ≤ 9223372036854775807) (ox : Int) (ox0 : 0 ≤ ox) (ox1 : ox ≤ 4294967295) (sa : Option Addr) (sn sc : Nat) (Y : List Int) (hY : Y.length = sn) (hsn : sn ≤ 2147483647) (hR : IR w0 F .u32 sa sn Y) (hYU : W32s Y) (hk : kd = 2) (h1 : sn ≤ 16384) (h2 : sn = 0 ∨ sn % 16 ≠ 0) :
    CallK Try.prog 23 [.pointer (some ⟨wb, 0, none⟩), .agg [Value.int .i64 kd, .int .i64 who, .int .i64 oth, .int .i64 oa, .int .i64 ob, .int .i64 oc, .int .u32 ox, .slice sa sn sc].toArray] w0 (Blk wb (.cells [Value.slice S.la S.N S.lc, .slice S.ia S.J S.ic, .slice S.ka S.K S.kc].toArray 74 (0, 0)) :: Own 94 2 (.slice S.la S.N S.lc) S.N (rowsN S.N (fun j => mpR (S.M j))) :: BigF S.N (fun j => mpA (S.M j)) :: Own 102 3 (.slice S.ia S.J S.ic) S.J (rowsN S.J (fun j => kiR (S.T j))) :: BigF S.J (fun j => kiA (S.T j)) :: Own 107 4 (.slice S.ka S.K S.kc) S.K (rowsN S.K (fun j => bkR (S.B j))) :: BigF S.K (fun j => bkA (S.B j)) :: F) (Gives w0 fun v F2 => ∃ S' : WS, v = .bool true ∧ SOk S' ∧ S.N ≤ S'.N ∧ S'.J ≤ S.J + 1 ∧ S'.K ≤ S.K + 2 ∧ F2 = Blk wb (.cells [Value.slice S'.la S'.N S'.lc, .slice S'.ia S'.J S'.ic, .slice S'.ka S'.K S'.kc].toArray 74 (0, 0)) :: Own 94 2 (.slice S'.la S'.N S'.lc) S'.N (rowsN S'.N (fun j => mpR (S'.M j))) :: BigF S'.N (fun j => mpA (S'.M j)) :: Own 102 3 (.slice S'.ia S'.J S'.ic) S'.J (rowsN S'.J (fun j => kiR (S'.T j))) :: BigF S'.J (fun j => kiA (S'.T j)) :: Own 107 4 (.slice S'.ka S'.K S'.kc) S'.K (rowsN S'.K (fun j => bkR (S'.B j))) :: BigF S'.K (fun j => bkA (S'.B j)) :: F) := by
  refine c_enter Try.func23 rfl rfl rfl ?_
  refine g_seq ?_
  refine g_region ?_
  refine l_boxs rfl rfl ?_; intro b3
  refine l_assign rfl rfl ?_
  refine l_nil ?_
  refine g_seq ?_
  refine g_seq ?_
  refine g_region ?_
  refine l_fieldAddr rfl fa_65_0 rfl ?_
  first | refine l_ld rfl Try.isAgg3 rfl rfl ?_ | refine l_ldw rfl Try.isAgg3 rfl (by omega) ?_
  refine l_nil ?_
  refine g_block ?_
  refine g_seq ?_
  refine g_region ?_
  refine l_eql rfl rfl rfl ?_
  refine l_assign rfl rfl ?_
  refine l_nil ?_
  refine g_cond rfl ?_ ?_
  · intro hbr
    have hbr := of_decide_eq_true hbr
    (exfalso; first | omega | (simp at hbr; done))
  intro hbr
  have hbr := of_decide_eq_false hbr
  refine g_seq ?_
  refine g_region ?_
  refine l_eql rfl rfl rfl ?_
  refine l_assign rfl rfl ?_
  refine l_nil ?_
  refine g_cond rfl ?_ ?_
  · intro hbr
    have hbr := of_decide_eq_true hbr
    refine g_seq ?_
    refine g_region ?_
    refine l_fieldAddr rfl fa_65_7 rfl ?_
    refine l_ld rfl Try.isAgg23 rfl rfl ?_
    refine l_call rfl Try.call42 rfl (lent_ok _ _ sa sn sc Y hY hR.ex hsn hYU) ?_; rintro _ _ ⟨gq, X, rfl, hX, rfl⟩
    refine l_assign rfl rfl ?_
    refine l_nil ?_
    refine g_seq ?_
    refine g_region ?_
    refine l_move rfl rfl ?_
    refine l_call rfl Try.call32 rfl (of_bad _ _ (some ⟨gq, 0, none⟩) sn (sn + 9) (by omega) h1 h2) ?_; rintro _ _ ⟨rfl, rfl⟩
    refine l_move rfl rfl ?_
    refine l_extract rfl rfl rfl ?_
    refine l_extract rfl rfl rfl ?_
    refine l_assign rfl rfl ?_
    refine l_assign rfl rfl ?_
    refine l_nil ?_
    refine g_seq ?_
    refine g_region ?_
    refine l_fieldAddr rfl fa_65_7 rfl ?_
    refine l_ld rfl Try.isAgg23 rfl rfl ?_
    refine l_call rfl Try.call43 rfl (rof_bad _ _ sa sn sc (by omega) h1 h2) ?_; rintro _ _ ⟨rfl, rfl⟩
    refine l_move rfl rfl ?_
    refine l_extract rfl rfl rfl ?_
    refine l_extract rfl rfl rfl ?_
    refine l_assign rfl rfl ?_
    refine l_assign rfl rfl ?_
    refine l_nil ?_
    refine g_seq ?_
    refine g_region ?_
    refine l_move rfl rfl ?_
    refine l_fieldAddr rfl fa_65_7 rfl ?_
    refine l_ld rfl Try.isAgg23 rfl rfl ?_
    refine l_take (Own 30 1 (.slice (some ⟨gq, 0, none⟩) (sn + 9) (sn + 9)) (sn + 9) (ints .u32 X)) ?_
    refine l_call rfl Try.call44 rfl (back_ok _ _ gq X sa sn sc Y hY hR.ex hsn hYU hX) ?_; rintro _ _ ⟨rfl, rfl⟩
    refine l_assign rfl rfl ?_
    refine l_nil ?_
    refine g_seq ?_
    refine g_region ?_
    refine l_move rfl rfl ?_
    refine l_move rfl rfl ?_
    refine l_move rfl rfl ?_
    refine l_move rfl rfl ?_
    refine l_move rfl rfl ?_
    refine l_take (BigF S.K (fun j => bkA (S.B j))) ?_
    refine l_take (Own 107 4 (.slice S.ka S.K S.kc) S.K (rowsN S.K (fun j => bkR (S.B j)))) ?_
    refine l_take (BigF S.J (fun j => kiA (S.T j))) ?_
    refine l_take (Own 102 3 (.slice S.ia S.J S.ic) S.J (rowsN S.J (fun j => kiR (S.T j)))) ?_
    refine l_take (BigF S.N (fun j => mpA (S.M j))) ?_
    refine l_take (Own 94 2 (.slice S.la S.N S.lc) S.N (rowsN S.N (fun j => mpR (S.M j)))) ?_
    refine l_take (Blk wb (.cells [Value.slice S.la S.N S.lc, .slice S.ia S.J S.ic, .slice S.ka S.K S.kc].toArray 74 (0, 0))) ?_
    refine l_call rfl Try.call40 rfl (made_no _ _ wb S hS 50) ?_; rintro _ _ ⟨S2, rfl, hS2, hN2, hJ2, hK2, rfl⟩
    refine l_assign rfl rfl ?_
    refine l_nil ?_
    refine g_seq ?_
    refine g_region ?_
    refine l_move rfl rfl ?_
    refine l_move rfl rfl ?_
    refine l_split 67 rfl ?_ ?_
    · intro hbr
      have hb67 := hbr
      refine l_guard_yes rfl rfl ?_
      refine l_move rfl rfl ?_
      refine l_pick_t rfl rfl rfl ?_
      refine l_assign rfl rfl ?_
      refine l_nil ?_
      refine g_ret Try.func23 rfl (.tmp rfl .nil) ?_
      exact Gives.mki ⟨S2, rfl, hS2, hN2, hJ2, hK2, rfl⟩
    · intro hbr
      first | (exfalso; simp at hbr; done) | (exfalso; simp at hbr; omega) | (exfalso; first | omega | (simp at hbr; done))
  · intro hbr
    have hbr := of_decide_eq_false hbr
    (exfalso; first | omega | (simp at hbr; done))
set_option maxHeartbeats 8000000 in
theorem makes_ol (w0 : World) (F : List Atom) (wb : Nat) (S : WS) (hS : SOk S) (kd : Int) (kd0 : -9223372036854775808 ≤ kd) (kd1 : kd ≤ 9223372036854775807) (who : Int) (who0 : -9223372036854775808 ≤ who) (who1 : who ≤ 9223372036854775807) (oth : Int) (oth0 : -9223372036854775808 ≤ oth) (oth1 : oth ≤ 9223372036854775807) (oa : Int) (oa0 : -9223372036854775808 ≤ oa) (oa1 : oa ≤ 9223372036854775807) (ob : Int) (ob0 : -9223372036854775808 ≤ ob) (ob1 : ob ≤ 9223372036854775807) (oc : Int) (oc0 : -9223372036854775808 ≤ oc) (oc1 : oc ≤ 9223372036854775807) (ox : Int) (ox0 : 0 ≤ ox) (ox1 : ox ≤ 4294967295) (sa : Option Addr) (sn sc : Nat) (Y : List Int) (hY : Y.length = sn) (hsn : sn ≤ 2147483647) (hR : IR w0 F .u32 sa sn Y) (hYU : W32s Y) (hk : kd = 2) (h1 : 16384 < sn) :
    CallK Try.prog 23 [.pointer (some ⟨wb, 0, none⟩), .agg [Value.int .i64 kd, .int .i64 who, .int .i64 oth, .int .i64 oa, .int .i64 ob, .int .i64 oc, .int .u32 ox, .slice sa sn sc].toArray] w0 (Blk wb (.cells [Value.slice S.la S.N S.lc, .slice S.ia S.J S.ic, .slice S.ka S.K S.kc].toArray 74 (0, 0)) :: Own 94 2 (.slice S.la S.N S.lc) S.N (rowsN S.N (fun j => mpR (S.M j))) :: BigF S.N (fun j => mpA (S.M j)) :: Own 102 3 (.slice S.ia S.J S.ic) S.J (rowsN S.J (fun j => kiR (S.T j))) :: BigF S.J (fun j => kiA (S.T j)) :: Own 107 4 (.slice S.ka S.K S.kc) S.K (rowsN S.K (fun j => bkR (S.B j))) :: BigF S.K (fun j => bkA (S.B j)) :: F) (Gives w0 fun v F2 => ∃ S' : WS, v = .bool true ∧ SOk S' ∧ S.N ≤ S'.N ∧ S'.J ≤ S.J + 1 ∧ S'.K ≤ S.K + 2 ∧ F2 = Blk wb (.cells [Value.slice S'.la S'.N S'.lc, .slice S'.ia S'.J S'.ic, .slice S'.ka S'.K S'.kc].toArray 74 (0, 0)) :: Own 94 2 (.slice S'.la S'.N S'.lc) S'.N (rowsN S'.N (fun j => mpR (S'.M j))) :: BigF S'.N (fun j => mpA (S'.M j)) :: Own 102 3 (.slice S'.ia S'.J S'.ic) S'.J (rowsN S'.J (fun j => kiR (S'.T j))) :: BigF S'.J (fun j => kiA (S'.T j)) :: Own 107 4 (.slice S'.ka S'.K S'.kc) S'.K (rowsN S'.K (fun j => bkR (S'.B j))) :: BigF S'.K (fun j => bkA (S'.B j)) :: F) := by
  refine c_enter Try.func23 rfl rfl rfl ?_
  refine g_seq ?_
  refine g_region ?_
  refine l_boxs rfl rfl ?_; intro b3
  refine l_assign rfl rfl ?_
  refine l_nil ?_
  refine g_seq ?_
  refine g_seq ?_
  refine g_region ?_
  refine l_fieldAddr rfl fa_65_0 rfl ?_
  first | refine l_ld rfl Try.isAgg3 rfl rfl ?_ | refine l_ldw rfl Try.isAgg3 rfl (by omega) ?_
  refine l_nil ?_
  refine g_block ?_
  refine g_seq ?_
  refine g_region ?_
  refine l_eql rfl rfl rfl ?_
  refine l_assign rfl rfl ?_
  refine l_nil ?_
  refine g_cond rfl ?_ ?_
  · intro hbr
    have hbr := of_decide_eq_true hbr
    (exfalso; first | omega | (simp at hbr; done))
  intro hbr
  have hbr := of_decide_eq_false hbr
  refine g_seq ?_
  refine g_region ?_
  refine l_eql rfl rfl rfl ?_
  refine l_assign rfl rfl ?_
  refine l_nil ?_
  refine g_cond rfl ?_ ?_
  · intro hbr
    have hbr := of_decide_eq_true hbr
    refine g_seq ?_
    refine g_region ?_
    refine l_fieldAddr rfl fa_65_7 rfl ?_
    refine l_ld rfl Try.isAgg23 rfl rfl ?_
    refine l_call rfl Try.call42 rfl (lent_ok _ _ sa sn sc Y hY hR.ex hsn hYU) ?_; rintro _ _ ⟨gq, X, rfl, hX, rfl⟩
    refine l_assign rfl rfl ?_
    refine l_nil ?_
    refine g_seq ?_
    refine g_region ?_
    refine l_move rfl rfl ?_
    refine l_call rfl Try.call32 rfl (of_long _ _ (some ⟨gq, 0, none⟩) sn (sn + 9) (by omega) h1) ?_; rintro _ _ ⟨rfl, rfl⟩
    refine l_move rfl rfl ?_
    refine l_extract rfl rfl rfl ?_
    refine l_extract rfl rfl rfl ?_
    refine l_assign rfl rfl ?_
    refine l_assign rfl rfl ?_
    refine l_nil ?_
    refine g_seq ?_
    refine g_region ?_
    refine l_fieldAddr rfl fa_65_7 rfl ?_
    refine l_ld rfl Try.isAgg23 rfl rfl ?_
    refine l_call rfl Try.call43 rfl (rof_long _ _ sa sn sc (by omega) h1) ?_; rintro _ _ ⟨rfl, rfl⟩
    refine l_move rfl rfl ?_
    refine l_extract rfl rfl rfl ?_
    refine l_extract rfl rfl rfl ?_
    refine l_assign rfl rfl ?_
    refine l_assign rfl rfl ?_
    refine l_nil ?_
    refine g_seq ?_
    refine g_region ?_
    refine l_move rfl rfl ?_
    refine l_fieldAddr rfl fa_65_7 rfl ?_
    refine l_ld rfl Try.isAgg23 rfl rfl ?_
    refine l_take (Own 30 1 (.slice (some ⟨gq, 0, none⟩) (sn + 9) (sn + 9)) (sn + 9) (ints .u32 X)) ?_
    refine l_call rfl Try.call44 rfl (back_ok _ _ gq X sa sn sc Y hY hR.ex hsn hYU hX) ?_; rintro _ _ ⟨rfl, rfl⟩
    refine l_assign rfl rfl ?_
    refine l_nil ?_
    refine g_seq ?_
    refine g_region ?_
    refine l_move rfl rfl ?_
    refine l_move rfl rfl ?_
    refine l_move rfl rfl ?_
    refine l_move rfl rfl ?_
    refine l_move rfl rfl ?_
    refine l_take (BigF S.K (fun j => bkA (S.B j))) ?_
    refine l_take (Own 107 4 (.slice S.ka S.K S.kc) S.K (rowsN S.K (fun j => bkR (S.B j)))) ?_
    refine l_take (BigF S.J (fun j => kiA (S.T j))) ?_
    refine l_take (Own 102 3 (.slice S.ia S.J S.ic) S.J (rowsN S.J (fun j => kiR (S.T j)))) ?_
    refine l_take (BigF S.N (fun j => mpA (S.M j))) ?_
    refine l_take (Own 94 2 (.slice S.la S.N S.lc) S.N (rowsN S.N (fun j => mpR (S.M j)))) ?_
    refine l_take (Blk wb (.cells [Value.slice S.la S.N S.lc, .slice S.ia S.J S.ic, .slice S.ka S.K S.kc].toArray 74 (0, 0))) ?_
    refine l_call rfl Try.call40 rfl (made_no _ _ wb S hS 2) ?_; rintro _ _ ⟨S2, rfl, hS2, hN2, hJ2, hK2, rfl⟩
    refine l_assign rfl rfl ?_
    refine l_nil ?_
    refine g_seq ?_
    refine g_region ?_
    refine l_move rfl rfl ?_
    refine l_move rfl rfl ?_
    refine l_split 67 rfl ?_ ?_
    · intro hbr
      have hb67 := hbr
      refine l_guard_yes rfl rfl ?_
      refine l_move rfl rfl ?_
      refine l_pick_t rfl rfl rfl ?_
      refine l_assign rfl rfl ?_
      refine l_nil ?_
      refine g_ret Try.func23 rfl (.tmp rfl .nil) ?_
      exact Gives.mki ⟨S2, rfl, hS2, hN2, hJ2, hK2, rfl⟩
    · intro hbr
      first | (exfalso; simp at hbr; done) | (exfalso; simp at hbr; omega) | (exfalso; first | omega | (simp at hbr; done))
  · intro hbr
    have hbr := of_decide_eq_false hbr
    (exfalso; first | omega | (simp at hbr; done))
set_option maxHeartbeats 8000000 in
theorem makes_cl (w0 : World) (F : List Atom) (wb : Nat) (S : WS) (hS : SOk S) (kd : Int) (kd0 : -9223372036854775808 ≤ kd) (kd1 : kd ≤ 9223372036854775807) (who : Int) (who0 : -9223372036854775808 ≤ who) (who1 : who ≤ 9223372036854775807) (oth : Int) (oth0 : -9223372036854775808 ≤ oth) (oth1 : oth ≤ 9223372036854775807) (oa : Int) (oa0 : -9223372036854775808 ≤ oa) (oa1 : oa ≤ 9223372036854775807) (ob : Int) (ob0 : -9223372036854775808 ≤ ob) (ob1 : ob ≤ 9223372036854775807) (oc : Int) (oc0 : -9223372036854775808 ≤ oc) (oc1 : oc ≤ 9223372036854775807) (ox : Int) (ox0 : 0 ≤ ox) (ox1 : ox ≤ 4294967295) (sa : Option Addr) (sn sc : Nat) (Y : List Int) (hY : Y.length = sn) (hsn : sn ≤ 2147483647) (hR : IR w0 F .u32 sa sn Y) (hYU : W32s Y) (hN1 : 1 ≤ S.N) (hk : kd ≠ 1 ∧ kd ≠ 2) :
    CallK Try.prog 23 [.pointer (some ⟨wb, 0, none⟩), .agg [Value.int .i64 kd, .int .i64 who, .int .i64 oth, .int .i64 oa, .int .i64 ob, .int .i64 oc, .int .u32 ox, .slice sa sn sc].toArray] w0 (Blk wb (.cells [Value.slice S.la S.N S.lc, .slice S.ia S.J S.ic, .slice S.ka S.K S.kc].toArray 74 (0, 0)) :: Own 94 2 (.slice S.la S.N S.lc) S.N (rowsN S.N (fun j => mpR (S.M j))) :: BigF S.N (fun j => mpA (S.M j)) :: Own 102 3 (.slice S.ia S.J S.ic) S.J (rowsN S.J (fun j => kiR (S.T j))) :: BigF S.J (fun j => kiA (S.T j)) :: Own 107 4 (.slice S.ka S.K S.kc) S.K (rowsN S.K (fun j => bkR (S.B j))) :: BigF S.K (fun j => bkA (S.B j)) :: F) (Gives w0 fun v F2 => ∃ S' : WS, v = .bool true ∧ SOk S' ∧ S.N ≤ S'.N ∧ S'.J ≤ S.J + 1 ∧ S'.K ≤ S.K + 2 ∧ F2 = Blk wb (.cells [Value.slice S'.la S'.N S'.lc, .slice S'.ia S'.J S'.ic, .slice S'.ka S'.K S'.kc].toArray 74 (0, 0)) :: Own 94 2 (.slice S'.la S'.N S'.lc) S'.N (rowsN S'.N (fun j => mpR (S'.M j))) :: BigF S'.N (fun j => mpA (S'.M j)) :: Own 102 3 (.slice S'.ia S'.J S'.ic) S'.J (rowsN S'.J (fun j => kiR (S'.T j))) :: BigF S'.J (fun j => kiA (S'.T j)) :: Own 107 4 (.slice S'.ka S'.K S'.kc) S'.K (rowsN S'.K (fun j => bkR (S'.B j))) :: BigF S'.K (fun j => bkA (S'.B j)) :: F) := by
  have hN := hS.hN
  obtain ⟨i, hi⟩ : ∃ q : Nat, pk who (S.N : Int) = (q : Int) := ⟨(pk who (S.N : Int)).toNat, by have := pk_lt who (n := (S.N : Int)) (by omega); omega⟩
  have hiN : i < S.N := by have := pk_lt who (n := (S.N : Int)) (by omega); omega
  obtain ⟨⟨x, g, c, y, h, d, n, V⟩, hm⟩ : ∃ q, S.M i = q := ⟨_, rfl⟩
  have hmo := hS.hM i hiN
  rw [hm] at hmo
  obtain ⟨m1, m2, m3, m4, m5, m6⟩ := hmo
  simp only at m1 m2 m3 m4 m5 m6
  obtain ⟨gl, hgl⟩ := hS.hla.resolve_left (by omega)
  refine c_enter Try.func23 rfl rfl rfl ?_
  refine g_seq ?_
  refine g_region ?_
  refine l_boxs rfl rfl ?_; intro b3
  refine l_assign rfl rfl ?_
  refine l_nil ?_
  refine g_seq ?_
  refine g_seq ?_
  refine g_region ?_
  refine l_fieldAddr rfl fa_65_0 rfl ?_
  first | refine l_ld rfl Try.isAgg3 rfl rfl ?_ | refine l_ldw rfl Try.isAgg3 rfl (by omega) ?_
  refine l_nil ?_
  refine g_block ?_
  refine g_seq ?_
  refine g_region ?_
  refine l_eql rfl rfl rfl ?_
  refine l_assign rfl rfl ?_
  refine l_nil ?_
  refine g_cond rfl ?_ ?_
  · intro hbr
    have hbr := of_decide_eq_true hbr
    (exfalso; first | omega | (simp at hbr; done))
  intro hbr
  have hbr := of_decide_eq_false hbr
  refine g_seq ?_
  refine g_region ?_
  refine l_eql rfl rfl rfl ?_
  refine l_assign rfl rfl ?_
  refine l_nil ?_
  refine g_cond rfl ?_ ?_
  · intro hbr
    have hbr := of_decide_eq_true hbr
    (exfalso; first | omega | (simp at hbr; done))
  intro hbr
  have hbr := of_decide_eq_false hbr
  refine g_skip ?_
  refine g_inBlock ?_
  refine g_seq ?_
  refine gp_start mo (by kernel_rfl) (by kernel_rfl) ?_
  rw [hgl]
  refine gp_quiet 0 rfl rfl rfl rfl rfl rfl (q_move rfl) ?_
  refine gp_quiet 1 rfl rfl rfl rfl rfl rfl (q_nilCheck rfl) ?_
  refine gp_quiet 2 rfl rfl rfl rfl rfl rfl (q_fieldAddr fa_74_0 rfl) ?_
  refine gp_quiet 3 rfl rfl rfl rfl rfl rfl (q_ld Try.isAgg68 rfl rfl) ?_
  refine gp_quiet 4 rfl rfl rfl rfl rfl rfl (q_fieldAddr fa_65_1 rfl) ?_
  first | refine gp_quiet 5 rfl rfl rfl rfl rfl rfl (q_ld Try.isAgg3 rfl rfl) ?_ | refine gp_quiet 5 rfl rfl rfl rfl rfl rfl (q_ldw Try.isAgg3 rfl (by omega)) ?_
  refine gp_quiet 6 rfl rfl rfl rfl rfl rfl (q_move rfl) ?_
  refine gp_quiet 7 rfl rfl rfl rfl rfl rfl (q_nilCheck rfl) ?_
  refine gp_quiet 8 rfl rfl rfl rfl rfl rfl (q_fieldAddr fa_74_0 rfl) ?_
  refine gp_quiet 9 rfl rfl rfl rfl rfl rfl (q_ld Try.isAgg68 rfl rfl) ?_
  refine gp_quiet 10 rfl rfl rfl rfl rfl rfl (q_len Try.underlying68 rfl) ?_
  refine gp_two 11 [5, 10] [9, 8, 7, 6, 4, 3, 2, 1, 0] 14 [] [10, 9, 8, 7, 6, 5, 4, 3, 2, 1, 0] rfl rfl rfl rfl rfl rfl (does_call Try.call8 rfl (pick_ok _ _ who (S.N : Int) (by omega) (by omega) (by omega) (by omega))) (does_allocs Try.zeroValue94) ?_ ?_
  · rintro _ _ ⟨rfl, rfl⟩
    rw [hi]
    refine ⟨?_, ?_⟩
    · refine .cons rfl rfl rfl rfl rfl (q_ld Try.isAgg68 rfl rfl) ?_
      refine .cons rfl rfl rfl rfl rfl (q_fieldAddr fa_74_0 rfl) ?_
      refine .cons rfl rfl rfl rfl rfl (q_nilCheck rfl) ?_
      refine .cons rfl rfl rfl rfl rfl (q_move rfl) ?_
      refine .cons rfl rfl rfl rfl rfl (q_fieldAddr fa_65_1 rfl) ?_
      refine .cons rfl rfl rfl rfl rfl (q_ld Try.isAgg68 rfl rfl) ?_
      refine .cons rfl rfl rfl rfl rfl (q_fieldAddr fa_74_0 rfl) ?_
      refine .cons rfl rfl rfl rfl rfl (q_nilCheck rfl) ?_
      refine .cons rfl rfl rfl rfl rfl (q_move rfl) ?_
      exact .nil
    refine gp_quiet 12 rfl rfl rfl rfl rfl rfl (q_ixs Try.underlying68 Try.sizeOf94 rfl rfl (by omega) (by omega)) ?_
    refine gp_quiet 13 rfl rfl rfl rfl rfl rfl (q_loadr (l := [.pointer (some ⟨x, 0, none⟩), .pointer (some ⟨y, 0, none⟩)]) Try.isAgg94 Try.sizeOf94 rfl rfl (mp_row (by first | exact mem_getO 0 rfl | exact mem_getO 1 rfl | exact mem_getO 2 rfl | exact mem_getO 3 rfl | exact mem_getO 4 rfl | exact mem_getO 5 rfl | exact mem_getO 6 rfl | exact mem_getO 7 rfl | exact mem_getO 8 rfl | exact mem_getO 9 rfl | exact mem_getO 10 rfl | exact mem_getO 11 rfl) hiN hm)) ?_
    refine gp_eff 14 rfl rfl rfl rfl rfl rfl (does_allocs Try.zeroValue94) ?_
    rintro _ _ ⟨b16, rfl, rfl⟩
    refine ⟨?_, ?_⟩
    · refine .cons rfl rfl rfl rfl rfl (q_loadr (l := [.pointer (some ⟨x, 0, none⟩), .pointer (some ⟨y, 0, none⟩)]) Try.isAgg94 Try.sizeOf94 rfl rfl (mp_row (by first | exact mem_getO 0 rfl | exact mem_getO 1 rfl | exact mem_getO 2 rfl | exact mem_getO 3 rfl | exact mem_getO 4 rfl | exact mem_getO 5 rfl | exact mem_getO 6 rfl | exact mem_getO 7 rfl | exact mem_getO 8 rfl | exact mem_getO 9 rfl | exact mem_getO 10 rfl | exact mem_getO 11 rfl) hiN hm)) ?_
      refine .cons rfl rfl rfl rfl rfl (q_ixs Try.underlying68 Try.sizeOf94 rfl rfl (by omega) (by omega)) ?_
      refine .cons rfl rfl rfl rfl rfl (q_ld Try.isAgg68 rfl rfl) ?_
      refine .cons rfl rfl rfl rfl rfl (q_fieldAddr fa_74_0 rfl) ?_
      refine .cons rfl rfl rfl rfl rfl (q_nilCheck rfl) ?_
      refine .cons rfl rfl rfl rfl rfl (q_move rfl) ?_
      refine .cons rfl rfl rfl rfl rfl (q_fieldAddr fa_65_1 rfl) ?_
      refine .cons rfl rfl rfl rfl rfl (q_ld Try.isAgg68 rfl rfl) ?_
      refine .cons rfl rfl rfl rfl rfl (q_fieldAddr fa_74_0 rfl) ?_
      refine .cons rfl rfl rfl rfl rfl (q_nilCheck rfl) ?_
      refine .cons rfl rfl rfl rfl rfl (q_move rfl) ?_
      exact .nil
    refine gp_effa 15 [0, 1, 2, 3, 4, 6, 7, 8, 9, 12, 13] [] rfl rfl rfl rfl rfl rfl rfl (does_sts Try.sizeOf94 rfl rfl rfl rfl rfl) ?_
    rintro _ _ ⟨rfl, rfl⟩
    refine ⟨?_, ?_⟩
    · exact .nil
    refine gp_end rfl rfl ?_
    refine g_seq ?_
    refine g_region ?_
    rw [← hgl]
    refine l_take (BigF S.N (fun j => mpA (S.M j))) ?_
    refine l_openm hiN hm ?_
    refine l_fieldAddr rfl fa_94_0 rfl ?_
    refine l_ld rfl Try.isAgg25 rfl rfl ?_
    refine l_take (Own 30 1 (.slice (some ⟨g, 0, none⟩) n c) n (ints .u32 V)) ?_
    refine l_take (Blk x (.cells [Value.slice (some ⟨g, 0, none⟩) n c].toArray 77 (0, 0))) ?_
    refine l_call rfl Try.call19 rfl (clonem_ok _ _ x g n c V m1 m2 (by omega)) ?_; rintro _ _ ⟨b1, g1, c1, rfl, hc1, rfl⟩
    refine l_assign rfl rfl ?_
    refine l_nil ?_
    refine g_seq ?_
    refine g_region ?_
    refine l_move rfl rfl ?_
    refine l_move rfl rfl ?_
    refine l_fieldAddr rfl fa_94_1 rfl ?_
    refine l_ld rfl Try.isAgg87 rfl rfl ?_
    refine l_take (Own 30 1 (.slice (some ⟨h, 0, none⟩) n d) n (ints .u32 V)) ?_
    refine l_take (Blk y (.cells [Value.slice (some ⟨h, 0, none⟩) n d].toArray 104 (0, 0))) ?_
    refine l_call rfl Try.call41 rfl (rclone_ok _ _ y h n d V m1 m3 (by omega) m4) ?_; rintro _ _ ⟨b2, g2, c2, rfl, hc2, rfl⟩
    refine l_take (BigBut S.N i (fun j => mpA (S.M j))) ?_
    refine l_take (Own 30 1 (.slice (some ⟨h, 0, none⟩) n d) n (ints .u32 V)) ?_
    refine l_take (Blk y (.cells [Value.slice (some ⟨h, 0, none⟩) n d].toArray 104 (0, 0))) ?_
    refine l_take (Own 30 1 (.slice (some ⟨g, 0, none⟩) n c) n (ints .u32 V)) ?_
    refine l_take (Blk x (.cells [Value.slice (some ⟨g, 0, none⟩) n c].toArray 77 (0, 0))) ?_
    refine l_closem (V2 := V) ?_
    rw [mp_rows (i := i) (m := ⟨x, g, c, y, h, d, n, V⟩) (by rw [hm] <;> rfl)]
    refine l_take (BigF S.K (fun j => bkA (S.B j))) ?_
    refine l_take (Own 107 4 (.slice S.ka S.K S.kc) S.K (rowsN S.K (fun j => bkR (S.B j)))) ?_
    refine l_take (BigF S.J (fun j => kiA (S.T j))) ?_
    refine l_take (Own 102 3 (.slice S.ia S.J S.ic) S.J (rowsN S.J (fun j => kiR (S.T j)))) ?_
    refine l_take (BigF S.N (fun j => mpA (upF S.M i ⟨x, g, c, y, h, d, n, V⟩ j))) ?_
    refine l_take (Own 94 2 (.slice S.la S.N S.lc) S.N (rowsN S.N (fun j => mpR (upF S.M i ⟨x, g, c, y, h, d, n, V⟩ j)))) ?_
    refine l_take (Blk wb (.cells [Value.slice S.la S.N S.lc, .slice S.ia S.J S.ic, .slice S.ka S.K S.kc].toArray 74 (0, 0))) ?_
    refine l_take (Own 30 1 (.slice (some ⟨g2, 0, none⟩) n c2) n (ints .u32 V)) ?_
    refine l_take (Blk b2 (.cells [Value.slice (some ⟨g2, 0, none⟩) n c2].toArray 104 (0, 0))) ?_
    refine l_take (Own 30 1 (.slice (some ⟨g1, 0, none⟩) n c1) n (ints .u32 V)) ?_
    refine l_take (Blk b1 (.cells [Value.slice (some ⟨g1, 0, none⟩) n c1].toArray 77 (0, 0))) ?_
    refine l_call rfl Try.call40 rfl (made_ok _ _ wb (⟨S.N, upF S.M i ⟨x, g, c, y, h, d, n, V⟩, S.la, S.lc, S.J, S.T, S.ia, S.ic, S.K, S.B, S.ka, S.kc⟩ : WS) (hS.put (i := i) (m := ⟨x, g, c, y, h, d, n, V⟩) ⟨m1, m2, m3, m4, m5, m6⟩ (by rw [hm])) b1 g1 c1 b2 g2 c2 n V ⟨m1, hc1, hc2, m4, m5, m6⟩) ?_; rintro _ _ ⟨S2, rfl, hS2, hN2, hN3, hJ2, hK2, rfl⟩
    refine l_assign rfl rfl ?_
    refine l_nil ?_
    refine g_ret Try.func23 rfl (.tmp rfl .nil) ?_
    exact Gives.mki ⟨S2, rfl, hS2, hN2, hJ2, hK2, rfl⟩
  · rintro _ _ ⟨b16, rfl, rfl⟩
    refine ⟨?_, ?_⟩
    · refine .cons rfl rfl rfl rfl rfl (q_len Try.underlying68 rfl) ?_
      refine .cons rfl rfl rfl rfl rfl (q_ld Try.isAgg68 rfl rfl) ?_
      refine .cons rfl rfl rfl rfl rfl (q_fieldAddr fa_74_0 rfl) ?_
      refine .cons rfl rfl rfl rfl rfl (q_nilCheck rfl) ?_
      refine .cons rfl rfl rfl rfl rfl (q_move rfl) ?_
      first | refine .cons rfl rfl rfl rfl rfl (q_ld Try.isAgg3 rfl rfl) ?_ | refine .cons rfl rfl rfl rfl rfl (q_ldw Try.isAgg3 rfl (by omega)) ?_
      refine .cons rfl rfl rfl rfl rfl (q_fieldAddr fa_65_1 rfl) ?_
      refine .cons rfl rfl rfl rfl rfl (q_ld Try.isAgg68 rfl rfl) ?_
      refine .cons rfl rfl rfl rfl rfl (q_fieldAddr fa_74_0 rfl) ?_
      refine .cons rfl rfl rfl rfl rfl (q_nilCheck rfl) ?_
      refine .cons rfl rfl rfl rfl rfl (q_move rfl) ?_
      exact .nil
    refine gp_effa 11 [5, 10] [9, 8, 7, 6, 4, 3, 2, 1, 0] rfl rfl rfl rfl rfl rfl rfl (does_call Try.call8 rfl (pick_ok _ _ who (S.N : Int) (by omega) (by omega) (by omega) (by omega))) ?_
    rintro _ _ ⟨rfl, rfl⟩
    rw [hi]
    refine ⟨?_, ?_⟩
    · refine .cons rfl rfl rfl rfl rfl (q_ld Try.isAgg68 rfl rfl) ?_
      refine .cons rfl rfl rfl rfl rfl (q_fieldAddr fa_74_0 rfl) ?_
      refine .cons rfl rfl rfl rfl rfl (q_nilCheck rfl) ?_
      refine .cons rfl rfl rfl rfl rfl (q_move rfl) ?_
      refine .cons rfl rfl rfl rfl rfl (q_fieldAddr fa_65_1 rfl) ?_
      refine .cons rfl rfl rfl rfl rfl (q_ld Try.isAgg68 rfl rfl) ?_
      refine .cons rfl rfl rfl rfl rfl (q_fieldAddr fa_74_0 rfl) ?_
      refine .cons rfl rfl rfl rfl rfl (q_nilCheck rfl) ?_
      refine .cons rfl rfl rfl rfl rfl (q_move rfl) ?_
      exact .nil
    refine gp_quiet 12 rfl rfl rfl rfl rfl rfl (q_ixs Try.underlying68 Try.sizeOf94 rfl rfl (by omega) (by omega)) ?_
    refine gp_quiet 13 rfl rfl rfl rfl rfl rfl (q_loadr (l := [.pointer (some ⟨x, 0, none⟩), .pointer (some ⟨y, 0, none⟩)]) Try.isAgg94 Try.sizeOf94 rfl rfl (mp_row (by first | exact mem_getO 0 rfl | exact mem_getO 1 rfl | exact mem_getO 2 rfl | exact mem_getO 3 rfl | exact mem_getO 4 rfl | exact mem_getO 5 rfl | exact mem_getO 6 rfl | exact mem_getO 7 rfl | exact mem_getO 8 rfl | exact mem_getO 9 rfl | exact mem_getO 10 rfl | exact mem_getO 11 rfl) hiN hm)) ?_
    refine gp_effa 15 [0, 1, 2, 3, 4, 6, 7, 8, 9, 12, 13] [] rfl rfl rfl rfl rfl rfl rfl (does_sts Try.sizeOf94 rfl rfl rfl rfl rfl) ?_
    rintro _ _ ⟨rfl, rfl⟩
    refine ⟨?_, ?_⟩
    · exact .nil
    refine gp_end rfl rfl ?_
    refine g_seq ?_
    refine g_region ?_
    rw [← hgl]
    refine l_take (BigF S.N (fun j => mpA (S.M j))) ?_
    refine l_openm hiN hm ?_
    refine l_fieldAddr rfl fa_94_0 rfl ?_
    refine l_ld rfl Try.isAgg25 rfl rfl ?_
    refine l_take (Own 30 1 (.slice (some ⟨g, 0, none⟩) n c) n (ints .u32 V)) ?_
    refine l_take (Blk x (.cells [Value.slice (some ⟨g, 0, none⟩) n c].toArray 77 (0, 0))) ?_
    refine l_call rfl Try.call19 rfl (clonem_ok _ _ x g n c V m1 m2 (by omega)) ?_; rintro _ _ ⟨b1, g1, c1, rfl, hc1, rfl⟩
    refine l_assign rfl rfl ?_
    refine l_nil ?_
    refine g_seq ?_
    refine g_region ?_
    refine l_move rfl rfl ?_
    refine l_move rfl rfl ?_
    refine l_fieldAddr rfl fa_94_1 rfl ?_
    refine l_ld rfl Try.isAgg87 rfl rfl ?_
    refine l_take (Own 30 1 (.slice (some ⟨h, 0, none⟩) n d) n (ints .u32 V)) ?_
    refine l_take (Blk y (.cells [Value.slice (some ⟨h, 0, none⟩) n d].toArray 104 (0, 0))) ?_
    refine l_call rfl Try.call41 rfl (rclone_ok _ _ y h n d V m1 m3 (by omega) m4) ?_; rintro _ _ ⟨b2, g2, c2, rfl, hc2, rfl⟩
    refine l_take (BigBut S.N i (fun j => mpA (S.M j))) ?_
    refine l_take (Own 30 1 (.slice (some ⟨h, 0, none⟩) n d) n (ints .u32 V)) ?_
    refine l_take (Blk y (.cells [Value.slice (some ⟨h, 0, none⟩) n d].toArray 104 (0, 0))) ?_
    refine l_take (Own 30 1 (.slice (some ⟨g, 0, none⟩) n c) n (ints .u32 V)) ?_
    refine l_take (Blk x (.cells [Value.slice (some ⟨g, 0, none⟩) n c].toArray 77 (0, 0))) ?_
    refine l_closem (V2 := V) ?_
    rw [mp_rows (i := i) (m := ⟨x, g, c, y, h, d, n, V⟩) (by rw [hm] <;> rfl)]
    refine l_take (BigF S.K (fun j => bkA (S.B j))) ?_
    refine l_take (Own 107 4 (.slice S.ka S.K S.kc) S.K (rowsN S.K (fun j => bkR (S.B j)))) ?_
    refine l_take (BigF S.J (fun j => kiA (S.T j))) ?_
    refine l_take (Own 102 3 (.slice S.ia S.J S.ic) S.J (rowsN S.J (fun j => kiR (S.T j)))) ?_
    refine l_take (BigF S.N (fun j => mpA (upF S.M i ⟨x, g, c, y, h, d, n, V⟩ j))) ?_
    refine l_take (Own 94 2 (.slice S.la S.N S.lc) S.N (rowsN S.N (fun j => mpR (upF S.M i ⟨x, g, c, y, h, d, n, V⟩ j)))) ?_
    refine l_take (Blk wb (.cells [Value.slice S.la S.N S.lc, .slice S.ia S.J S.ic, .slice S.ka S.K S.kc].toArray 74 (0, 0))) ?_
    refine l_take (Own 30 1 (.slice (some ⟨g2, 0, none⟩) n c2) n (ints .u32 V)) ?_
    refine l_take (Blk b2 (.cells [Value.slice (some ⟨g2, 0, none⟩) n c2].toArray 104 (0, 0))) ?_
    refine l_take (Own 30 1 (.slice (some ⟨g1, 0, none⟩) n c1) n (ints .u32 V)) ?_
    refine l_take (Blk b1 (.cells [Value.slice (some ⟨g1, 0, none⟩) n c1].toArray 77 (0, 0))) ?_
    refine l_call rfl Try.call40 rfl (made_ok _ _ wb (⟨S.N, upF S.M i ⟨x, g, c, y, h, d, n, V⟩, S.la, S.lc, S.J, S.T, S.ia, S.ic, S.K, S.B, S.ka, S.kc⟩ : WS) (hS.put (i := i) (m := ⟨x, g, c, y, h, d, n, V⟩) ⟨m1, m2, m3, m4, m5, m6⟩ (by rw [hm])) b1 g1 c1 b2 g2 c2 n V ⟨m1, hc1, hc2, m4, m5, m6⟩) ?_; rintro _ _ ⟨S2, rfl, hS2, hN2, hN3, hJ2, hK2, rfl⟩
    refine l_assign rfl rfl ?_
    refine l_nil ?_
    refine g_ret Try.func23 rfl (.tmp rfl .nil) ?_
    exact Gives.mki ⟨S2, rfl, hS2, hN2, hJ2, hK2, rfl⟩
theorem makes_any (w0 : World) (F : List Atom) (wb : Nat) (S : WS) (hS : SOk S) (kd : Int) (kd0 : -9223372036854775808 ≤ kd) (kd1 : kd ≤ 9223372036854775807) (who : Int) (who0 : -9223372036854775808 ≤ who) (who1 : who ≤ 9223372036854775807) (oth : Int) (oth0 : -9223372036854775808 ≤ oth) (oth1 : oth ≤ 9223372036854775807) (oa : Int) (oa0 : -9223372036854775808 ≤ oa) (oa1 : oa ≤ 9223372036854775807) (ob : Int) (ob0 : -9223372036854775808 ≤ ob) (ob1 : ob ≤ 9223372036854775807) (oc : Int) (oc0 : -9223372036854775808 ≤ oc) (oc1 : oc ≤ 9223372036854775807) (ox : Int) (ox0 : 0 ≤ ox) (ox1 : ox ≤ 4294967295) (sa : Option Addr) (sn sc : Nat) (Y : List Int) (hY : Y.length = sn) (hsn : sn ≤ 2147483647) (hR : IR w0 F .u32 sa sn Y) (hYU : W32s Y) (hN1 : 1 ≤ S.N) : CallK Try.prog 23 [.pointer (some ⟨wb, 0, none⟩), .agg [Value.int .i64 kd, .int .i64 who, .int .i64 oth, .int .i64 oa, .int .i64 ob, .int .i64 oc, .int .u32 ox, .slice sa sn sc].toArray] w0 (Blk wb (.cells [Value.slice S.la S.N S.lc, .slice S.ia S.J S.ic, .slice S.ka S.K S.kc].toArray 74 (0, 0)) :: Own 94 2 (.slice S.la S.N S.lc) S.N (rowsN S.N (fun j => mpR (S.M j))) :: BigF S.N (fun j => mpA (S.M j)) :: Own 102 3 (.slice S.ia S.J S.ic) S.J (rowsN S.J (fun j => kiR (S.T j))) :: BigF S.J (fun j => kiA (S.T j)) :: Own 107 4 (.slice S.ka S.K S.kc) S.K (rowsN S.K (fun j => bkR (S.B j))) :: BigF S.K (fun j => bkA (S.B j)) :: F) (Gives w0 fun v F2 => ∃ S' : WS, v = .bool true ∧ SOk S' ∧ S.N ≤ S'.N ∧ S'.J ≤ S.J + 1 ∧ S'.K ≤ S.K + 2 ∧ F2 = Blk wb (.cells [Value.slice S'.la S'.N S'.lc, .slice S'.ia S'.J S'.ic, .slice S'.ka S'.K S'.kc].toArray 74 (0, 0)) :: Own 94 2 (.slice S'.la S'.N S'.lc) S'.N (rowsN S'.N (fun j => mpR (S'.M j))) :: BigF S'.N (fun j => mpA (S'.M j)) :: Own 102 3 (.slice S'.ia S'.J S'.ic) S'.J (rowsN S'.J (fun j => kiR (S'.T j))) :: BigF S'.J (fun j => kiA (S'.T j)) :: Own 107 4 (.slice S'.ka S'.K S'.kc) S'.K (rowsN S'.K (fun j => bkR (S'.B j))) :: BigF S'.K (fun j => bkA (S'.B j)) :: F) := by
  by_cases k1 : kd = 1
  · by_cases h : 1 ≤ oa ∧ oa ≤ 1024
    · exact makes_n1 w0 F wb S hS kd kd0 kd1 who who0 who1 oth oth0 oth1 oa oa0 oa1 ob ob0 ob1 oc oc0 oc1 ox ox0 ox1 sa sn sc Y hY hsn hR hYU k1 h.1 h.2
    · exact makes_n0 w0 F wb S hS kd kd0 kd1 who who0 who1 oth oth0 oth1 oa oa0 oa1 ob ob0 ob1 oc oc0 oc1 ox ox0 ox1 sa sn sc Y hY hsn hR hYU k1 (by omega)
  by_cases k2 : kd = 2
  · by_cases h : sn ≤ 16384
    · by_cases h2 : 0 < sn ∧ sn % 16 = 0
      · exact makes_o1 w0 F wb S hS kd kd0 kd1 who who0 who1 oth oth0 oth1 oa oa0 oa1 ob ob0 ob1 oc oc0 oc1 ox ox0 ox1 sa sn sc Y hY hsn hR hYU k2 h h2.1 h2.2
      · exact makes_o0 w0 F wb S hS kd kd0 kd1 who who0 who1 oth oth0 oth1 oa oa0 oa1 ob ob0 ob1 oc oc0 oc1 ox ox0 ox1 sa sn sc Y hY hsn hR hYU k2 h (by omega)
    · exact makes_ol w0 F wb S hS kd kd0 kd1 who who0 who1 oth oth0 oth1 oa oa0 oa1 ob ob0 ob1 oc oc0 oc1 ox ox0 ox1 sa sn sc Y hY hsn hR hYU k2 (by omega)
  exact makes_cl w0 F wb S hS kd kd0 kd1 who who0 who1 oth oth0 oth1 oa oa0 oa1 ob ob0 ob1 oc oc0 oc1 ox ox0 ox1 sa sn sc Y hY hsn hR hYU hN1 ⟨k1, k2⟩
end Go.Proofs.Ytlgcghhjgcdigaa.Fw
