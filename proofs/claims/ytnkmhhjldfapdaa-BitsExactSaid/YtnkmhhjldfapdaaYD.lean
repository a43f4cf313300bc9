import Derived.Test.YtnkmhhjldfapdaaYC
namespace Go.Proofs.Ytnkmhhjldfapdaa.Fw
open Go Go.Proofs
set_option linter.unusedVariables false
set_option linter.unusedSimpArgs false
set_option maxRecDepth 10000
theorem bd_90_z  (w : World) : (Instr.build 90 #[]).run Try.prog w = .ok (.agg #[.slice none 0 0]) w := by kernel_rfl
theorem fa_56_7 (a : Addr) (w : World) : (Instr.fieldAt 56 (.pointer (some a)) 7).run Try.prog w = .ok (.pointer (some (a.add 7))) w := by
  simp [Instr.fieldAt, Try.runUnderlying56, Instr.sureAddr, fieldPlace, Try.sizeOf36, Sem.run_bind, Sem.run_pure]
theorem fa_56_8 (a : Addr) (w : World) : (Instr.fieldAt 56 (.pointer (some a)) 8).run Try.prog w = .ok (.pointer (some (a.add 8))) w := by
  simp [Instr.fieldAt, Try.runUnderlying56, Instr.sureAddr, fieldPlace, Try.sizeOf54, Sem.run_bind, Sem.run_pure]
theorem bd_51_z  (w : World) : (Instr.build 51 #[]).run Try.prog w = .ok (.agg #[.slice none 0 0, .slice none 0 0, .slice none 0 0, .slice none 0 0, .slice none 0 0, .slice none 0 0]) w := by kernel_rfl
theorem bd_56_0 (a0_0 : Int) (w : World) : (Instr.build 56 #[(0, .int .i64 a0_0)]).run Try.prog w = .ok (.agg #[.int .i64 a0_0, .int .i64 0, .int .i64 0, .int .i64 0, .int .u32 0, .int .u32 0, .int .u64 0, .slice none 0 0, .slice none 0 0, .string ⟨#[]⟩]) w := by kernel_rfl
theorem bd_56_0_7 (a0_0 : Int) (a7_0 : Option Addr) (n7_0 c7_0 : Nat) (w : World) : (Instr.build 56 #[(0, .int .i64 a0_0), (7, .slice a7_0 n7_0 c7_0)]).run Try.prog w = .ok (.agg #[.int .i64 a0_0, .int .i64 0, .int .i64 0, .int .i64 0, .int .u32 0, .int .u32 0, .int .u64 0, .slice a7_0 n7_0 c7_0, .slice none 0 0, .string ⟨#[]⟩]) w := by kernel_rfl
theorem ptrs_push1 {N b : Nat} {f : Nat → Nat} : ptrs N f ++ [.pointer (some ⟨b, 0, none⟩)] = ptrs (N + 1) (upF f N b) := by
  have := rowsN_push (r := fun z : Nat => [Value.pointer (some ⟨z, 0, none⟩)]) (K := N) (B := f) (x := b)
  exact this
theorem ptrs_up {α : Type} {r : α → Nat} {N b : Nat} {W : Nat → α} {w : α} (hb : r w = b) : ptrs (N + 1) (upF (fun j => r (W j)) N b) = ptrs (N + 1) (fun j => r (upF W N w j)) := ptrs_congr fun k _ => by
  by_cases e : k = N
  · subst e; rw [upF_at, upF_at, hb]
  · rw [upF_ne e, upF_ne e]
theorem bx_cell {w0 : World} {F : List Atom} {N j : Nat} {W : Nat → WR} {x : WR} (hm : BigF N (fun j => wrA (W j)) ∈ F) (hj : j < N) (hw : W j = x) : CellAt w0 F x.bx (0 + 0) (.slice x.a2 x.n x.c2) := fun w hw2 => by
  have h := (big_ok hm hj hw2).1.2.1.2.1.2.1
  rw [hw] at h
  exact blk_cell h rfl
theorem wr_ir {w0 : World} {F : List Atom} {N j : Nat} {W : Nat → WR} {x : WR} {T : Nat} (hm : BigF N (fun j => wrA (W j)) ∈ F) (hj : j < N) (hw : W j = x) (ho : WOk x T) : IR w0 F .u8 x.a2 x.n x.B :=
  own_irow8 (c := x.c2) (fun w hw2 => by have h := (big_ok hm hj hw2).2.1; rw [hw] at h; exact h) ho.len ho.ha2
theorem SOk.newW {S : WS} {T T2 : Nat} {w : WR} {g1 c1 g2 c2 : Nat} (h : SOk S T) (hw : WOk w T2) (ht : T + 8 ≤ T2) : SOk ⟨S.N + 1, upF S.W S.N w, some ⟨g1, 0, none⟩, c1, some ⟨g2, 0, none⟩, c2, S.M, S.R, S.rl, S.rc, S.ql, S.qc, S.K8, S.B8, S.ka8, S.kc8, S.K, S.B, S.ka, S.kc⟩ T2 := by
  have h2 := h.le (T2 := T2) (by omega)
  refine ⟨fun j hj => ?_, h2.hR, .inr ⟨_, rfl⟩, .inr ⟨_, rfl⟩, h2.hrl, h2.hql, h2.hB8, h2.hka8, h2.hB, h2.hka, by have := h.hN; simp only; omega, h2.hM, h2.hK8, h2.hK⟩
  simp only at hj ⊢
  by_cases e : j = S.N
  · subst e; rw [upF_at]; exact hw
  · rw [upF_ne e]; exact h2.hW j (by omega)
theorem SOk.newR {S : WS} {T T2 : Nat} {r : RR} {g1 c1 g2 c2 : Nat} (h : SOk S T) (hr : ROk r) (ht : T + 8 ≤ T2) : SOk ⟨S.N, S.W, S.wl, S.wc, S.vl, S.vc, S.M + 1, upF S.R S.M r, some ⟨g1, 0, none⟩, c1, some ⟨g2, 0, none⟩, c2, S.K8, S.B8, S.ka8, S.kc8, S.K, S.B, S.ka, S.kc⟩ T2 := by
  have h2 := h.le (T2 := T2) (by omega)
  refine ⟨h2.hW, fun j hj => ?_, h2.hwl, h2.hvl, .inr ⟨_, rfl⟩, .inr ⟨_, rfl⟩, h2.hB8, h2.hka8, h2.hB, h2.hka, h2.hN, by have := h.hM; simp only; omega, h2.hK8, h2.hK⟩
  simp only at hj ⊢
  by_cases e : j = S.M
  · subst e; rw [upF_at]; exact hr
  · rw [upF_ne e]; exact h2.hR j (by omega)
set_option maxHeartbeats 16000000 in
theorem begins_w (w0 : World) (F : List Atom) (xw : Nat) (S : WS) (T : Nat) (hS : SOk S T) (hT : T ≤ 2147483700) (kd : Int) (kd0 : -9223372036854775808 ≤ kd) (kd1 : kd ≤ 9223372036854775807) (who : Int) (who0 : -9223372036854775808 ≤ who) (who1 : who ≤ 9223372036854775807) (oa : Int) (oa0 : -9223372036854775808 ≤ oa) (oa1 : oa ≤ 9223372036854775807) (ob : Int) (ob0 : -9223372036854775808 ≤ ob) (ob1 : ob ≤ 9223372036854775807) (ow : Int) (ow0 : 0 ≤ ow) (ow1 : ow ≤ 4294967295) (ov : Int) (ov0 : 0 ≤ ov) (ov1 : ov ≤ 4294967295) (on : Int) (on0 : 0 ≤ on) (on1 : on ≤ 18446744073709551615) (ba : Option Addr) (nb bc : Nat) (Z : List Int) (hZ : RA w0 F .u8 ba nb bc Z) (hbc : nb ≤ bc) (hZU : U8s Z) (wa : Option Addr) (nw wc : Nat) (Y : List Int) (hY : RA w0 F .u32 wa nw wc Y) (hYU : W32s Y) (os : ByteArray) (hwt : os.size ≤ 2147483647 ∧ nb ≤ 2147483647 ∧ nw ≤ 536870911) (hk : kd = 8) :
    CallK Try.prog 17 [.pointer (some ⟨xw, 0, none⟩), .agg [Value.int .i64 kd, .int .i64 who, .int .i64 oa, .int .i64 ob, .int .u32 ow, .int .u32 ov, .int .u64 on, .slice ba nb bc, .slice wa nw wc, .string os].toArray] w0 (Blk xw (.cells [Value.slice S.wl S.N S.wc, .slice S.vl S.N S.vc, .slice S.rl S.M S.rc, .slice S.ql S.M S.qc, .slice S.ka8 S.K8 S.kc8, .slice S.ka S.K S.kc].toArray 51 (0, 0)) :: Own 61 1 (.slice S.wl S.N S.wc) S.N (ptrs S.N fun j => (S.W j).bw) :: Own 88 1 (.slice S.vl S.N S.vc) S.N (ptrs S.N fun j => (S.W j).bx) :: Own 69 1 (.slice S.rl S.M S.rc) S.M (ptrs S.M fun j => (S.R j).bq) :: Own 92 1 (.slice S.ql S.M S.qc) S.M (ptrs S.M fun j => (S.R j).by_) :: BigF S.N (fun j => wrA (S.W j)) :: BigF S.M (fun j => rdA (S.R j)) :: Own 102 4 (.slice S.ka8 S.K8 S.kc8) S.K8 (rowsN S.K8 (fun j => bkR8 (S.B8 j))) :: BigF S.K8 (fun j => bkA8 (S.B8 j)) :: Own 104 4 (.slice S.ka S.K S.kc) S.K (rowsN S.K (fun j => bkR (S.B j))) :: BigF S.K (fun j => bkA (S.B j)) :: F) (Gives w0 fun v F2 => ∃ S' : WS, v = .bool true ∧ SOk S' (T + 8 + os.size) ∧ (S.N ≤ S'.N ∧ S.M ≤ S'.M) ∧ ((kd = 8 → S'.N = S.N + 1 ∧ S'.M = S.M) ∧ (kd ≠ 8 → S'.N = S.N ∧ S'.M = S.M + 1)) ∧ F2 = Blk xw (.cells [Value.slice S'.wl S'.N S'.wc, .slice S'.vl S'.N S'.vc, .slice S'.rl S'.M S'.rc, .slice S'.ql S'.M S'.qc, .slice S'.ka8 S'.K8 S'.kc8, .slice S'.ka S'.K S'.kc].toArray 51 (0, 0)) :: Own 61 1 (.slice S'.wl S'.N S'.wc) S'.N (ptrs S'.N fun j => (S'.W j).bw) :: Own 88 1 (.slice S'.vl S'.N S'.vc) S'.N (ptrs S'.N fun j => (S'.W j).bx) :: Own 69 1 (.slice S'.rl S'.M S'.rc) S'.M (ptrs S'.M fun j => (S'.R j).bq) :: Own 92 1 (.slice S'.ql S'.M S'.qc) S'.M (ptrs S'.M fun j => (S'.R j).by_) :: BigF S'.N (fun j => wrA (S'.W j)) :: BigF S'.M (fun j => rdA (S'.R j)) :: Own 102 4 (.slice S'.ka8 S'.K8 S'.kc8) S'.K8 (rowsN S'.K8 (fun j => bkR8 (S'.B8 j))) :: BigF S'.K8 (fun j => bkA8 (S'.B8 j)) :: Own 104 4 (.slice S'.ka S'.K S'.kc) S'.K (rowsN S'.K (fun j => bkR (S'.B j))) :: BigF S'.K (fun j => bkA (S'.B j)) :: F) := by
  have hNT := hS.hN
  have hMT := hS.hM
  refine c_enter Try.func17 rfl rfl rfl ?_
  refine g_seq ?_
  refine g_region ?_
  refine l_boxs rfl rfl ?_; intro b3
  refine l_assign rfl rfl ?_
  refine l_nil ?_
  refine g_seq ?_
  refine g_seq ?_
  refine g_region ?_
  refine l_fieldAddr rfl fa_56_0 rfl ?_
  first | refine l_ld rfl Try.isAgg3 rfl rfl ?_ | refine l_ldw rfl Try.isAgg3 rfl (by omega) ?_
  refine l_eql rfl rfl rfl ?_
  refine l_nil ?_
  refine g_cond rfl ?_ ?_
  · intro hbr
    have hbr := of_decide_eq_true hbr
    refine g_seq ?_
    refine g_region ?_
    refine l_call rfl Try.call25 rfl (neww_ok _ _) ?_; rintro _ _ ⟨bw, br, rfl, rfl⟩
    refine l_assign rfl rfl ?_
    refine l_nil ?_
    refine g_seq ?_
    refine g_region ?_
    refine l_move rfl rfl ?_
    refine l_move rfl rfl ?_
    refine l_nilCheck rfl rfl ?_
    refine l_fieldAddr rfl fa_51_0 rfl ?_
    refine l_ld rfl Try.isAgg42 rfl rfl ?_
    refine l_move rfl rfl ?_
    refine l_buildSlice rfl Try.underlying42 Try.sizeOf61 Try.zeroValue61 rfl rfl rfl rfl rfl rfl ?_; intro b20
    refine l_frontv (.slice S.wl S.N S.wc) ?_
    refine l_does rfl (does_appendS 0 (sz := 1) (by_ := 8) (m2 := 1) (news := [.pointer (some ⟨bw, 0, none⟩)]) (m3 := S.N + 1) (X3 := ptrs (S.N + 1) (upF (fun j => (S.W j).bw) S.N bw)) Try.underlying42 Try.type61 rfl rfl rfl rfl rfl rfl rfl rfl ⟨rfl, .inl ⟨_, _, _, rfl, .own (mem_getO 1 rfl)⟩⟩ rfl (by omega) (by simp only [maxLen]; omega) rfl ptrs_push1 (fun _ _ => rfl)) ?_
    rintro _ _ ⟨a21, a21c, a21h, rfl, rfl⟩
    obtain ⟨a21g, rfl⟩ := a21h.resolve_left (by omega)
    refine l_nilCheck rfl rfl ?_
    refine l_fieldAddr rfl fa_51_0 rfl ?_
    refine l_st Try.sizeOf42 rfl rfl rfl rfl ?_
    refine l_nil ?_
    refine g_seq ?_
    refine g_region ?_
    refine l_move rfl rfl ?_
    refine l_move rfl rfl ?_
    refine l_nilCheck rfl rfl ?_
    refine l_fieldAddr rfl fa_51_1 rfl ?_
    refine l_ld rfl Try.isAgg43 rfl rfl ?_
    refine l_build rfl rfl (fun w => bd_90_z w) ?_
    refine l_boxs rfl rfl ?_; intro b30
    refine l_buildSlice rfl Try.underlying43 Try.sizeOf88 Try.zeroValue88 rfl rfl rfl rfl rfl rfl ?_; intro b31
    refine l_frontv (.slice S.vl S.N S.vc) ?_
    refine l_does rfl (does_appendS 0 (sz := 1) (by_ := 8) (m2 := 1) (news := [.pointer (some ⟨b30, 0, none⟩)]) (m3 := S.N + 1) (X3 := ptrs (S.N + 1) (upF (fun j => (S.W j).bx) S.N b30)) Try.underlying43 Try.type88 rfl rfl rfl rfl rfl rfl rfl rfl ⟨rfl, .inl ⟨_, _, _, rfl, .own (mem_getO 1 rfl)⟩⟩ rfl (by omega) (by simp only [maxLen]; omega) rfl ptrs_push1 (fun _ _ => rfl)) ?_
    rintro _ _ ⟨a32, a32c, a32h, rfl, rfl⟩
    obtain ⟨a32g, rfl⟩ := a32h.resolve_left (by omega)
    refine l_nilCheck rfl rfl ?_
    refine l_fieldAddr rfl fa_51_1 rfl ?_
    refine l_st Try.sizeOf43 rfl rfl rfl rfl ?_
    refine l_nil ?_
    refine g_seq ?_
    refine g_region ?_
    refine l_move rfl rfl ?_
    refine l_nepn rfl Try.underlying61 rfl rfl ?_
    refine l_assign rfl rfl ?_
    refine l_nil ?_
    refine g_take (BigF S.N (fun j => wrA (S.W j))) ?_
    refine g_wnil 5 .u8 ?_
    refine g_take (Blk b30 (.cells [Value.slice none 0 0].toArray 90 (0, 0))) ?_
    refine g_wnil 5 .u8 ?_
    refine g_take (Blk br (.cells [Value.slice none 0 0, .int .i64 0].toArray 109 (0, 0))) ?_
    refine g_take (Blk bw (.cells [Value.pointer (some ⟨br, 0, none⟩)].toArray 111 (0, 0))) ?_
    refine g_snocw (w := ⟨bw, br, none, 0, b30, none, 0, 0, []⟩) ?_
    rw [ptrs_up (r := WR.bw) (W := S.W) (w := ⟨bw, br, none, 0, b30, none, 0, 0, []⟩) rfl, ptrs_up (r := WR.bx) (W := S.W) (w := ⟨bw, br, none, 0, b30, none, 0, 0, []⟩) rfl]
    refine g_ret Try.func17 rfl (.tmp rfl .nil) ?_
    exact Gives.mki ⟨⟨S.N + 1, upF S.W S.N ⟨bw, br, none, 0, b30, none, 0, 0, []⟩, some ⟨a21g, 0, none⟩, a21c, some ⟨a32g, 0, none⟩, a32c, S.M, S.R, S.rl, S.rc, S.ql, S.qc, S.K8, S.B8, S.ka8, S.kc8, S.K, S.B, S.ka, S.kc⟩, (by first | rfl | exact congrArg Value.bool (decide_eq_true rfl) | (simp [resVal]; done)), hS.newW ⟨rfl, Nat.zero_le _, .inl rfl, .inl rfl, U8s.of (fun x hx => by cases hx)⟩ (by omega), ⟨Nat.le_succ _, Nat.le_refl _⟩, ⟨fun _ => ⟨rfl, rfl⟩, fun h => absurd hbr h⟩, rfl⟩
  · intro hbr
    have hbr := of_decide_eq_false hbr
    (exfalso; first | omega | (simp at hbr; done))
set_option maxHeartbeats 16000000 in
theorem begins_ok (w0 : World) (F : List Atom) (xw : Nat) (S : WS) (T : Nat) (hS : SOk S T) (hT : T ≤ 2147483700) (hN1 : 1 ≤ S.N) (kd : Int) (kd0 : -9223372036854775808 ≤ kd) (kd1 : kd ≤ 9223372036854775807) (who : Int) (who0 : -9223372036854775808 ≤ who) (who1 : who ≤ 9223372036854775807) (oa : Int) (oa0 : -9223372036854775808 ≤ oa) (oa1 : oa ≤ 9223372036854775807) (ob : Int) (ob0 : -9223372036854775808 ≤ ob) (ob1 : ob ≤ 9223372036854775807) (ow : Int) (ow0 : 0 ≤ ow) (ow1 : ow ≤ 4294967295) (ov : Int) (ov0 : 0 ≤ ov) (ov1 : ov ≤ 4294967295) (on : Int) (on0 : 0 ≤ on) (on1 : on ≤ 18446744073709551615) (ba : Option Addr) (nb bc : Nat) (Z : List Int) (hZ : RA w0 F .u8 ba nb bc Z) (hbc : nb ≤ bc) (hZU : U8s Z) (wa : Option Addr) (nw wc : Nat) (Y : List Int) (hY : RA w0 F .u32 wa nw wc Y) (hYU : W32s Y) (os : ByteArray) (hwt : os.size ≤ 2147483647 ∧ nb ≤ 2147483647 ∧ nw ≤ 536870911) :
    CallK Try.prog 17 [.pointer (some ⟨xw, 0, none⟩), .agg [Value.int .i64 kd, .int .i64 who, .int .i64 oa, .int .i64 ob, .int .u32 ow, .int .u32 ov, .int .u64 on, .slice ba nb bc, .slice wa nw wc, .string os].toArray] w0 (Blk xw (.cells [Value.slice S.wl S.N S.wc, .slice S.vl S.N S.vc, .slice S.rl S.M S.rc, .slice S.ql S.M S.qc, .slice S.ka8 S.K8 S.kc8, .slice S.ka S.K S.kc].toArray 51 (0, 0)) :: Own 61 1 (.slice S.wl S.N S.wc) S.N (ptrs S.N fun j => (S.W j).bw) :: Own 88 1 (.slice S.vl S.N S.vc) S.N (ptrs S.N fun j => (S.W j).bx) :: Own 69 1 (.slice S.rl S.M S.rc) S.M (ptrs S.M fun j => (S.R j).bq) :: Own 92 1 (.slice S.ql S.M S.qc) S.M (ptrs S.M fun j => (S.R j).by_) :: BigF S.N (fun j => wrA (S.W j)) :: BigF S.M (fun j => rdA (S.R j)) :: Own 102 4 (.slice S.ka8 S.K8 S.kc8) S.K8 (rowsN S.K8 (fun j => bkR8 (S.B8 j))) :: BigF S.K8 (fun j => bkA8 (S.B8 j)) :: Own 104 4 (.slice S.ka S.K S.kc) S.K (rowsN S.K (fun j => bkR (S.B j))) :: BigF S.K (fun j => bkA (S.B j)) :: F) (Gives w0 fun v F2 => ∃ S' : WS, v = .bool true ∧ SOk S' (T + 8 + os.size) ∧ (S.N ≤ S'.N ∧ S.M ≤ S'.M) ∧ ((kd = 8 → S'.N = S.N + 1 ∧ S'.M = S.M) ∧ (kd ≠ 8 → S'.N = S.N ∧ S'.M = S.M + 1)) ∧ F2 = Blk xw (.cells [Value.slice S'.wl S'.N S'.wc, .slice S'.vl S'.N S'.vc, .slice S'.rl S'.M S'.rc, .slice S'.ql S'.M S'.qc, .slice S'.ka8 S'.K8 S'.kc8, .slice S'.ka S'.K S'.kc].toArray 51 (0, 0)) :: Own 61 1 (.slice S'.wl S'.N S'.wc) S'.N (ptrs S'.N fun j => (S'.W j).bw) :: Own 88 1 (.slice S'.vl S'.N S'.vc) S'.N (ptrs S'.N fun j => (S'.W j).bx) :: Own 69 1 (.slice S'.rl S'.M S'.rc) S'.M (ptrs S'.M fun j => (S'.R j).bq) :: Own 92 1 (.slice S'.ql S'.M S'.qc) S'.M (ptrs S'.M fun j => (S'.R j).by_) :: BigF S'.N (fun j => wrA (S'.W j)) :: BigF S'.M (fun j => rdA (S'.R j)) :: Own 102 4 (.slice S'.ka8 S'.K8 S'.kc8) S'.K8 (rowsN S'.K8 (fun j => bkR8 (S'.B8 j))) :: BigF S'.K8 (fun j => bkA8 (S'.B8 j)) :: Own 104 4 (.slice S'.ka S'.K S'.kc) S'.K (rowsN S'.K (fun j => bkR (S'.B j))) :: BigF S'.K (fun j => bkA (S'.B j)) :: F) := by
  have hNT := hS.hN
  have hMT := hS.hM
  obtain ⟨i, hi⟩ : ∃ q : Nat, pickV who (S.N : Int) = (q : Int) := ⟨(pickV who (S.N : Int)).toNat, by have := @pickV_bd who (S.N : Int) (by omega); omega⟩
  have hiN : i < S.N := by have := @pickV_bd who (S.N : Int) (by omega); omega
  obtain ⟨w, hw⟩ : ∃ q, S.W i = q := ⟨_, rfl⟩
  have hwo := hS.hW i hiN
  rw [hw] at hwo
  have hfit := hwo.fit
  obtain ⟨gv, hgv⟩ := hS.hvl.resolve_left (by omega)
  refine c_enter Try.func17 rfl rfl rfl ?_
  refine g_seq ?_
  refine g_region ?_
  refine l_boxs rfl rfl ?_; intro b3
  refine l_assign rfl rfl ?_
  refine l_nil ?_
  refine g_seq ?_
  refine g_seq ?_
  refine g_region ?_
  refine l_fieldAddr rfl fa_56_0 rfl ?_
  first | refine l_ld rfl Try.isAgg3 rfl rfl ?_ | refine l_ldw rfl Try.isAgg3 rfl (by omega) ?_
  refine l_eql rfl rfl rfl ?_
  refine l_nil ?_
  refine g_cond rfl ?_ ?_
  · intro hbr
    have hbr := of_decide_eq_true hbr
    refine g_seq ?_
    refine g_region ?_
    refine l_call rfl Try.call25 rfl (neww_ok _ _) ?_; rintro _ _ ⟨bw, br, rfl, rfl⟩
    refine l_assign rfl rfl ?_
    refine l_nil ?_
    refine g_seq ?_
    refine g_region ?_
    refine l_move rfl rfl ?_
    refine l_move rfl rfl ?_
    refine l_nilCheck rfl rfl ?_
    refine l_fieldAddr rfl fa_51_0 rfl ?_
    refine l_ld rfl Try.isAgg42 rfl rfl ?_
    refine l_move rfl rfl ?_
    refine l_buildSlice rfl Try.underlying42 Try.sizeOf61 Try.zeroValue61 rfl rfl rfl rfl rfl rfl ?_; intro b20
    refine l_frontv (.slice S.wl S.N S.wc) ?_
    refine l_does rfl (does_appendS 0 (sz := 1) (by_ := 8) (m2 := 1) (news := [.pointer (some ⟨bw, 0, none⟩)]) (m3 := S.N + 1) (X3 := ptrs (S.N + 1) (upF (fun j => (S.W j).bw) S.N bw)) Try.underlying42 Try.type61 rfl rfl rfl rfl rfl rfl rfl rfl ⟨rfl, .inl ⟨_, _, _, rfl, .own (mem_getO 1 rfl)⟩⟩ rfl (by omega) (by simp only [maxLen]; omega) rfl ptrs_push1 (fun _ _ => rfl)) ?_
    rintro _ _ ⟨a21, a21c, a21h, rfl, rfl⟩
    obtain ⟨a21g, rfl⟩ := a21h.resolve_left (by omega)
    refine l_nilCheck rfl rfl ?_
    refine l_fieldAddr rfl fa_51_0 rfl ?_
    refine l_st Try.sizeOf42 rfl rfl rfl rfl ?_
    refine l_nil ?_
    refine g_seq ?_
    refine g_region ?_
    refine l_move rfl rfl ?_
    refine l_move rfl rfl ?_
    refine l_nilCheck rfl rfl ?_
    refine l_fieldAddr rfl fa_51_1 rfl ?_
    refine l_ld rfl Try.isAgg43 rfl rfl ?_
    refine l_build rfl rfl (fun w => bd_90_z w) ?_
    refine l_boxs rfl rfl ?_; intro b30
    refine l_buildSlice rfl Try.underlying43 Try.sizeOf88 Try.zeroValue88 rfl rfl rfl rfl rfl rfl ?_; intro b31
    refine l_frontv (.slice S.vl S.N S.vc) ?_
    refine l_does rfl (does_appendS 0 (sz := 1) (by_ := 8) (m2 := 1) (news := [.pointer (some ⟨b30, 0, none⟩)]) (m3 := S.N + 1) (X3 := ptrs (S.N + 1) (upF (fun j => (S.W j).bx) S.N b30)) Try.underlying43 Try.type88 rfl rfl rfl rfl rfl rfl rfl rfl ⟨rfl, .inl ⟨_, _, _, rfl, .own (mem_getO 1 rfl)⟩⟩ rfl (by omega) (by simp only [maxLen]; omega) rfl ptrs_push1 (fun _ _ => rfl)) ?_
    rintro _ _ ⟨a32, a32c, a32h, rfl, rfl⟩
    obtain ⟨a32g, rfl⟩ := a32h.resolve_left (by omega)
    refine l_nilCheck rfl rfl ?_
    refine l_fieldAddr rfl fa_51_1 rfl ?_
    refine l_st Try.sizeOf43 rfl rfl rfl rfl ?_
    refine l_nil ?_
    refine g_seq ?_
    refine g_region ?_
    refine l_move rfl rfl ?_
    refine l_nepn rfl Try.underlying61 rfl rfl ?_
    refine l_assign rfl rfl ?_
    refine l_nil ?_
    refine g_take (BigF S.N (fun j => wrA (S.W j))) ?_
    refine g_wnil 5 .u8 ?_
    refine g_take (Blk b30 (.cells [Value.slice none 0 0].toArray 90 (0, 0))) ?_
    refine g_wnil 5 .u8 ?_
    refine g_take (Blk br (.cells [Value.slice none 0 0, .int .i64 0].toArray 109 (0, 0))) ?_
    refine g_take (Blk bw (.cells [Value.pointer (some ⟨br, 0, none⟩)].toArray 111 (0, 0))) ?_
    refine g_snocw (w := ⟨bw, br, none, 0, b30, none, 0, 0, []⟩) ?_
    rw [ptrs_up (r := WR.bw) (W := S.W) (w := ⟨bw, br, none, 0, b30, none, 0, 0, []⟩) rfl, ptrs_up (r := WR.bx) (W := S.W) (w := ⟨bw, br, none, 0, b30, none, 0, 0, []⟩) rfl]
    refine g_ret Try.func17 rfl (.tmp rfl .nil) ?_
    exact Gives.mki ⟨⟨S.N + 1, upF S.W S.N ⟨bw, br, none, 0, b30, none, 0, 0, []⟩, some ⟨a21g, 0, none⟩, a21c, some ⟨a32g, 0, none⟩, a32c, S.M, S.R, S.rl, S.rc, S.ql, S.qc, S.K8, S.B8, S.ka8, S.kc8, S.K, S.B, S.ka, S.kc⟩, (by first | rfl | exact congrArg Value.bool (decide_eq_true rfl) | (simp [resVal]; done)), hS.newW ⟨rfl, Nat.zero_le _, .inl rfl, .inl rfl, U8s.of (fun x hx => by cases hx)⟩ (by omega), ⟨Nat.le_succ _, Nat.le_refl _⟩, ⟨fun _ => ⟨rfl, rfl⟩, fun h => absurd hbr h⟩, rfl⟩
  intro hbr
  have hbr := of_decide_eq_false hbr
  refine g_skip ?_
  refine g_seq ?_
  refine g_region ?_
  have hk8 : kd ≠ 8 := hbr
  refine l_fieldAddr rfl fa_56_7 rfl ?_
  refine l_ld rfl Try.isAgg36 rfl rfl ?_
  refine l_assign rfl rfl ?_
  refine l_nil ?_
  refine g_seq ?_
  refine g_seq ?_
  refine g_region ?_
  refine l_fieldAddr rfl fa_56_0 rfl ?_
  first | refine l_ld rfl Try.isAgg3 rfl rfl ?_ | refine l_ldw rfl Try.isAgg3 rfl (by omega) ?_
  refine l_eql rfl rfl rfl ?_
  refine l_nil ?_
  refine g_cond rfl ?_ ?_
  · intro hbr
    have hbr := of_decide_eq_true hbr
    refine gp_start mo (by kernel_rfl) (by kernel_rfl) ?_
    rw [hgv]
    refine gp_quiet 0 rfl rfl rfl rfl rfl rfl (q_move rfl) ?_
    refine gp_quiet 1 rfl rfl rfl rfl rfl rfl (q_nilCheck rfl) ?_
    refine gp_quiet 2 rfl rfl rfl rfl rfl rfl (q_fieldAddr fa_51_1 rfl) ?_
    refine gp_quiet 3 rfl rfl rfl rfl rfl rfl (q_ld Try.isAgg43 rfl rfl) ?_
    refine gp_quiet 4 rfl rfl rfl rfl rfl rfl (q_fieldAddr fa_56_1 rfl) ?_
    first | refine gp_quiet 5 rfl rfl rfl rfl rfl rfl (q_ld Try.isAgg3 rfl rfl) ?_ | refine gp_quiet 5 rfl rfl rfl rfl rfl rfl (q_ldw Try.isAgg3 rfl (by omega)) ?_
    refine gp_quiet 6 rfl rfl rfl rfl rfl rfl (q_move rfl) ?_
    refine gp_quiet 7 rfl rfl rfl rfl rfl rfl (q_nilCheck rfl) ?_
    refine gp_quiet 8 rfl rfl rfl rfl rfl rfl (q_fieldAddr fa_51_1 rfl) ?_
    refine gp_quiet 9 rfl rfl rfl rfl rfl rfl (q_ld Try.isAgg43 rfl rfl) ?_
    refine gp_quiet 10 rfl rfl rfl rfl rfl rfl (q_len Try.underlying43 rfl) ?_
    refine gp_effa 11 [5, 10] [9, 8, 7, 6, 4, 3, 2, 1, 0] rfl rfl rfl rfl rfl rfl rfl (does_call Try.call14 rfl (pick_ok _ _ who (by omega) (by omega) (S.N : Int) (by omega) (by omega))) ?_
    rintro _ _ ⟨rfl, rfl⟩
    rw [hi]
    refine ⟨?_, ?_⟩
    · refine .cons rfl rfl rfl rfl rfl (q_ld Try.isAgg43 rfl rfl) ?_
      refine .cons rfl rfl rfl rfl rfl (q_fieldAddr fa_51_1 rfl) ?_
      refine .cons rfl rfl rfl rfl rfl (q_nilCheck rfl) ?_
      refine .cons rfl rfl rfl rfl rfl (q_move rfl) ?_
      refine .cons rfl rfl rfl rfl rfl (q_fieldAddr fa_56_1 rfl) ?_
      refine .cons rfl rfl rfl rfl rfl (q_ld Try.isAgg43 rfl rfl) ?_
      refine .cons rfl rfl rfl rfl rfl (q_fieldAddr fa_51_1 rfl) ?_
      refine .cons rfl rfl rfl rfl rfl (q_nilCheck rfl) ?_
      refine .cons rfl rfl rfl rfl rfl (q_move rfl) ?_
      exact .nil
    refine gp_quiet 12 rfl rfl rfl rfl rfl rfl (q_ixs Try.underlying43 Try.sizeOf88 rfl rfl (by omega) (by omega)) ?_
    refine gp_quiet 13 rfl rfl rfl rfl rfl rfl (q_loadc (v := .pointer (some ⟨w.bx, 0, none⟩)) Try.isAgg88 rfl (ptr_cell (f := fun j => (S.W j).bx) (by first | exact mem_getO 0 rfl | exact mem_getO 1 rfl | exact mem_getO 2 rfl | exact mem_getO 3 rfl | exact mem_getO 4 rfl | exact mem_getO 5 rfl | exact mem_getO 6 rfl | exact mem_getO 7 rfl | exact mem_getO 8 rfl | exact mem_getO 9 rfl | exact mem_getO 10 rfl | exact mem_getO 11 rfl | exact mem_getO 12 rfl | exact mem_getO 13 rfl | exact mem_getO 14 rfl | exact mem_getO 15 rfl | exact mem_getO 16 rfl | exact mem_getO 17 rfl | exact mem_getO 18 rfl | exact mem_getO 19 rfl | exact mem_getO 20 rfl | exact mem_getO 21 rfl | exact mem_getO 22 rfl | exact mem_getO 23 rfl | exact mem_getO 24 rfl | exact mem_getO 25 rfl) hiN (congrArg WR.bx hw))) ?_
    refine gp_quiet 14 rfl rfl rfl rfl rfl rfl (q_nilCheck rfl) ?_
    refine gp_quiet 15 rfl rfl rfl rfl rfl rfl (q_fieldAddr fa_90_0 rfl) ?_
    refine gp_quiet 16 rfl rfl rfl rfl rfl rfl (q_loadc (v := .slice w.a2 w.n w.c2) Try.isAgg36 rfl (bx_cell (W := S.W) (by first | exact mem_getO 0 rfl | exact mem_getO 1 rfl | exact mem_getO 2 rfl | exact mem_getO 3 rfl | exact mem_getO 4 rfl | exact mem_getO 5 rfl | exact mem_getO 6 rfl | exact mem_getO 7 rfl | exact mem_getO 8 rfl | exact mem_getO 9 rfl | exact mem_getO 10 rfl | exact mem_getO 11 rfl | exact mem_getO 12 rfl | exact mem_getO 13 rfl | exact mem_getO 14 rfl | exact mem_getO 15 rfl | exact mem_getO 16 rfl | exact mem_getO 17 rfl | exact mem_getO 18 rfl | exact mem_getO 19 rfl | exact mem_getO 20 rfl | exact mem_getO 21 rfl | exact mem_getO 22 rfl | exact mem_getO 23 rfl | exact mem_getO 24 rfl | exact mem_getO 25 rfl) hiN hw)) ?_
    refine gp_quiet 17 rfl rfl rfl rfl rfl rfl (q_assign rfl) ?_
    refine gp_end rfl rfl ?_
    refine g_seq ?_
    refine g_region ?_
    rw [← hgv]
    refine l_fact (wr_ra (W := S.W) (by first | exact mem_getO 0 rfl | exact mem_getO 1 rfl | exact mem_getO 2 rfl | exact mem_getO 3 rfl | exact mem_getO 4 rfl | exact mem_getO 5 rfl | exact mem_getO 6 rfl | exact mem_getO 7 rfl | exact mem_getO 8 rfl | exact mem_getO 9 rfl | exact mem_getO 10 rfl | exact mem_getO 11 rfl | exact mem_getO 12 rfl | exact mem_getO 13 rfl | exact mem_getO 14 rfl | exact mem_getO 15 rfl | exact mem_getO 16 rfl | exact mem_getO 17 rfl | exact mem_getO 18 rfl | exact mem_getO 19 rfl | exact mem_getO 20 rfl | exact mem_getO 21 rfl | exact mem_getO 22 rfl | exact mem_getO 23 rfl | exact mem_getO 24 rfl | exact mem_getO 25 rfl) hiN (by rw [hw]; exact hwo.len)) ?_
    intro hRA
    rw [hw] at hRA
    refine l_move rfl rfl ?_
    refine l_call rfl Try.call49 rfl (lent_ok8 _ _ w.a2 w.n w.c2 w.B hwo.len (wr_ir (by first | exact mem_getO 0 rfl | exact mem_getO 1 rfl | exact mem_getO 2 rfl | exact mem_getO 3 rfl | exact mem_getO 4 rfl | exact mem_getO 5 rfl | exact mem_getO 6 rfl | exact mem_getO 7 rfl | exact mem_getO 8 rfl | exact mem_getO 9 rfl | exact mem_getO 10 rfl | exact mem_getO 11 rfl | exact mem_getO 12 rfl | exact mem_getO 13 rfl | exact mem_getO 14 rfl | exact mem_getO 15 rfl | exact mem_getO 16 rfl | exact mem_getO 17 rfl | exact mem_getO 18 rfl | exact mem_getO 19 rfl | exact mem_getO 20 rfl | exact mem_getO 21 rfl | exact mem_getO 22 rfl | exact mem_getO 23 rfl | exact mem_getO 24 rfl | exact mem_getO 25 rfl) hiN hw hwo) (by omega) hwo.u) ?_; rintro _ _ ⟨gX, X, rfl, hX, rfl⟩
    refine l_assign rfl rfl ?_
    refine l_nil ?_
    refine g_seq ?_
    refine g_region ?_
    refine l_move rfl rfl ?_
    refine l_call rfl Try.call29 rfl (newr_ok _ _ (some ⟨gX, 0, none⟩) w.n (w.n + 9) w.B hwo.len (by omega) ⟨by rw [ints_length, hwo.len, Nat.mul_one], .inl ⟨gX, 0, _, rfl, lent_row8 hX hwo.len (by first | exact mem_getO 0 rfl | exact mem_getO 1 rfl | exact mem_getO 2 rfl | exact mem_getO 3 rfl | exact mem_getO 4 rfl | exact mem_getO 5 rfl | exact mem_getO 6 rfl | exact mem_getO 7 rfl | exact mem_getO 8 rfl | exact mem_getO 9 rfl | exact mem_getO 10 rfl | exact mem_getO 11 rfl | exact mem_getO 12 rfl | exact mem_getO 13 rfl | exact mem_getO 14 rfl | exact mem_getO 15 rfl | exact mem_getO 16 rfl | exact mem_getO 17 rfl | exact mem_getO 18 rfl | exact mem_getO 19 rfl | exact mem_getO 20 rfl | exact mem_getO 21 rfl | exact mem_getO 22 rfl | exact mem_getO 23 rfl | exact mem_getO 24 rfl | exact mem_getO 25 rfl)⟩⟩) ?_; rintro _ _ ⟨bq, bs, gq, rfl, rfl⟩
    refine l_assign rfl rfl ?_
    refine l_nil ?_
    refine g_seq ?_
    refine gp_start mo (by kernel_rfl) (by kernel_rfl) ?_
    refine gp_quiet 0 rfl rfl rfl rfl rfl rfl (q_move rfl) ?_
    refine gp_quiet 1 rfl rfl rfl rfl rfl rfl (q_move rfl) ?_
    refine gp_quiet 2 rfl rfl rfl rfl rfl rfl (q_nilCheck rfl) ?_
    refine gp_quiet 3 rfl rfl rfl rfl rfl rfl (q_fieldAddr fa_51_3 rfl) ?_
    refine gp_quiet 4 rfl rfl rfl rfl rfl rfl (q_ld Try.isAgg45 rfl rfl) ?_
    refine gp_quiet 5 rfl rfl rfl rfl rfl rfl (q_move rfl) ?_
    refine gp_effa 6 [5] [4, 3, 2, 1, 0] rfl rfl rfl rfl rfl rfl rfl (does_call Try.call50 rfl (rnewr_ok _ _ w.a2 w.n w.c2 w.B hRA.ex (by omega))) ?_
    rintro _ _ ⟨by_, a2, c2, rfl, ha2, hc2, rfl⟩
    refine ⟨?_, ?_⟩
    · refine .cons rfl rfl rfl rfl rfl (q_ld Try.isAgg45 rfl rfl) ?_
      refine .cons rfl rfl rfl rfl rfl (q_fieldAddr fa_51_3 rfl) ?_
      refine .cons rfl rfl rfl rfl rfl (q_nilCheck rfl) ?_
      refine .cons rfl rfl rfl rfl rfl (q_move rfl) ?_
      refine .cons rfl rfl rfl rfl rfl (q_move rfl) ?_
      exact .nil
    refine gp_eff 7 rfl rfl rfl rfl rfl rfl (does_buildSlice Try.underlying45 Try.sizeOf92 Try.zeroValue92 rfl rfl rfl rfl rfl rfl) ?_
    rintro _ _ ⟨b70, rfl, rfl⟩
    refine ⟨?_, ?_⟩
    · refine .cons rfl rfl rfl rfl rfl (q_ld Try.isAgg45 rfl rfl) ?_
      refine .cons rfl rfl rfl rfl rfl (q_fieldAddr fa_51_3 rfl) ?_
      refine .cons rfl rfl rfl rfl rfl (q_nilCheck rfl) ?_
      refine .cons rfl rfl rfl rfl rfl (q_move rfl) ?_
      refine .cons rfl rfl rfl rfl rfl (q_move rfl) ?_
      exact .nil
    refine gp_frontv (.slice S.ql S.M S.qc) ?_
    refine gp_effa 8 [4] [3, 2, 1, 0] rfl rfl rfl rfl rfl rfl rfl (does_appendS 0 (sz := 1) (by_ := 8) (m2 := 1) (news := [.pointer (some ⟨by_, 0, none⟩)]) (m3 := S.M + 1) (X3 := ptrs (S.M + 1) (upF (fun j => (S.R j).by_) S.M by_)) Try.underlying45 Try.type92 rfl rfl rfl rfl rfl rfl rfl rfl ⟨rfl, .inl ⟨_, _, _, rfl, .own (mem_getO 1 rfl)⟩⟩ rfl (by omega) (by simp only [maxLen]; omega) rfl ptrs_push1 (fun _ _ => rfl)) ?_
    rintro _ _ ⟨a71, a71c, a71h, rfl, rfl⟩
    obtain ⟨a71g, rfl⟩ := a71h.resolve_left (by omega)
    refine ⟨?_, ?_⟩
    · refine .cons rfl rfl rfl rfl rfl (q_fieldAddr fa_51_3 rfl) ?_
      refine .cons rfl rfl rfl rfl rfl (q_nilCheck rfl) ?_
      refine .cons rfl rfl rfl rfl rfl (q_move rfl) ?_
      refine .cons rfl rfl rfl rfl rfl (q_move rfl) ?_
      exact .nil
    refine gp_quiet 9 rfl rfl rfl rfl rfl rfl (q_nilCheck rfl) ?_
    refine gp_quiet 10 rfl rfl rfl rfl rfl rfl (q_fieldAddr fa_51_3 rfl) ?_
    refine gp_effa 11 [0, 1, 2, 3, 10] [9] rfl rfl rfl rfl rfl rfl rfl (does_st Try.sizeOf45 rfl rfl rfl rfl) ?_
    rintro _ _ ⟨rfl, rfl⟩
    refine ⟨?_, ?_⟩
    · refine .cons rfl rfl rfl rfl rfl (q_nilCheck rfl) ?_
      exact .nil
    refine gp_end rfl rfl ?_
    refine g_seq ?_
    refine g_region ?_
    refine l_move rfl rfl ?_
    refine l_move rfl rfl ?_
    refine l_nilCheck rfl rfl ?_
    refine l_fieldAddr rfl fa_51_2 rfl ?_
    refine l_ld rfl Try.isAgg44 rfl rfl ?_
    refine l_move rfl rfl ?_
    refine l_buildSlice rfl Try.underlying44 Try.sizeOf69 Try.zeroValue69 rfl rfl rfl rfl rfl rfl ?_; intro b80
    refine l_frontv (.slice S.rl S.M S.rc) ?_
    refine l_does rfl (does_appendS 0 (sz := 1) (by_ := 8) (m2 := 1) (news := [.pointer (some ⟨bq, 0, none⟩)]) (m3 := S.M + 1) (X3 := ptrs (S.M + 1) (upF (fun j => (S.R j).bq) S.M bq)) Try.underlying44 Try.type69 rfl rfl rfl rfl rfl rfl rfl rfl ⟨rfl, .inl ⟨_, _, _, rfl, .own (mem_getO 1 rfl)⟩⟩ rfl (by omega) (by simp only [maxLen]; omega) rfl ptrs_push1 (fun _ _ => rfl)) ?_
    rintro _ _ ⟨a81, a81c, a81h, rfl, rfl⟩
    obtain ⟨a81g, rfl⟩ := a81h.resolve_left (by omega)
    refine l_nilCheck rfl rfl ?_
    refine l_fieldAddr rfl fa_51_2 rfl ?_
    refine l_st Try.sizeOf44 rfl rfl rfl rfl ?_
    refine l_nil ?_
    refine g_seq ?_
    refine g_region ?_
    refine l_move rfl rfl ?_
    refine l_move rfl rfl ?_
    refine l_take (Own 5 1 (.slice (some ⟨gX, 0, none⟩) (w.n + 9) (w.n + 9)) (w.n + 9) (ints .u8 X)) ?_
    refine l_call rfl Try.call51 rfl (back2_ok8 _ _ gX X w.a2 w.n w.c2 w.B hwo.len (wr_ir (by first | exact mem_getO 0 rfl | exact mem_getO 1 rfl | exact mem_getO 2 rfl | exact mem_getO 3 rfl | exact mem_getO 4 rfl | exact mem_getO 5 rfl | exact mem_getO 6 rfl | exact mem_getO 7 rfl | exact mem_getO 8 rfl | exact mem_getO 9 rfl | exact mem_getO 10 rfl | exact mem_getO 11 rfl | exact mem_getO 12 rfl | exact mem_getO 13 rfl | exact mem_getO 14 rfl | exact mem_getO 15 rfl | exact mem_getO 16 rfl | exact mem_getO 17 rfl | exact mem_getO 18 rfl | exact mem_getO 19 rfl | exact mem_getO 20 rfl | exact mem_getO 21 rfl | exact mem_getO 22 rfl | exact mem_getO 23 rfl | exact mem_getO 24 rfl | exact mem_getO 25 rfl) hiN hw hwo) (by omega) hwo.u hX) ?_; rintro _ _ ⟨rfl, rfl⟩
    refine l_assign rfl rfl ?_
    refine l_nil ?_
    refine g_seq ?_
    refine g_region ?_
    refine l_move rfl rfl ?_
    refine l_nepn rfl Try.underlying69 rfl rfl ?_
    refine l_move rfl rfl ?_
    refine l_guard_yes rfl rfl ?_
    refine l_move rfl rfl ?_
    refine l_pick_t rfl rfl rfl ?_
    refine l_assign rfl rfl ?_
    refine l_nil ?_
    refine g_take (BigF S.M (fun j => rdA (S.R j))) ?_
    refine g_take (Own 5 1 (.slice a2 w.n c2) w.n (ints .u8 w.B)) ?_
    refine g_take (Blk by_ (.cells [Value.slice a2 w.n c2, .int .i64 0, .int .i64 0].toArray 99 (0, 0))) ?_
    refine g_take (Own 5 1 (.slice (some ⟨gq, 0, none⟩) w.n w.n) w.n (ints .u8 w.B)) ?_
    refine g_take (Blk bs (.cells [Value.slice (some ⟨gq, 0, none⟩) w.n w.n, .int .i64 0].toArray 109 (0, 0))) ?_
    refine g_take (Blk bq (.cells [Value.pointer (some ⟨bs, 0, none⟩), .int .i64 0].toArray 113 (0, 0))) ?_
    refine g_snocr (r := ⟨bq, bs, gq, by_, a2, c2, w.n, w.B, 0, 0⟩) ?_
    rw [ptrs_up (r := RR.bq) (W := S.R) (w := ⟨bq, bs, gq, by_, a2, c2, w.n, w.B, 0, 0⟩) rfl, ptrs_up (r := RR.by_) (W := S.R) (w := ⟨bq, bs, gq, by_, a2, c2, w.n, w.B, 0, 0⟩) rfl]
    refine g_ret Try.func17 rfl (.tmp rfl .nil) ?_
    exact Gives.mki ⟨⟨S.N, S.W, S.wl, S.wc, S.vl, S.vc, S.M + 1, upF S.R S.M ⟨bq, bs, gq, by_, a2, c2, w.n, w.B, 0, 0⟩, some ⟨a81g, 0, none⟩, a81c, some ⟨a71g, 0, none⟩, a71c, S.K8, S.B8, S.ka8, S.kc8, S.K, S.B, S.ka, S.kc⟩, (by first | rfl | exact congrArg Value.bool (decide_eq_true rfl) | (simp [resVal]; done)), hS.newR ⟨hwo.len, by simp only; omega, ha2, hc2, hwo.u, by simp only; omega, by simp only; omega, by simp only; omega, by simp only; omega⟩ (by omega), ⟨Nat.le_refl _, Nat.le_succ _⟩, ⟨fun h => absurd h hk8, fun _ => ⟨rfl, rfl⟩⟩, rfl⟩
  intro hbr
  have hbr := of_decide_eq_false hbr
  refine g_skip ?_
  refine g_seq ?_
  refine g_region ?_
  refine l_move rfl rfl ?_
  refine l_call rfl Try.call49 rfl (lent_ok8 _ _ ba nb bc Z hZ.1 hZ.ir.ex (by omega) hZU) ?_; rintro _ _ ⟨gX, X, rfl, hX, rfl⟩
  refine l_assign rfl rfl ?_
  refine l_nil ?_
  refine g_seq ?_
  refine g_region ?_
  refine l_move rfl rfl ?_
  refine l_call rfl Try.call29 rfl (newr_ok _ _ (some ⟨gX, 0, none⟩) nb (nb + 9) Z hZ.1 (by omega) ⟨by rw [ints_length, hZ.1, Nat.mul_one], .inl ⟨gX, 0, _, rfl, lent_row8 hX hZ.1 (by first | exact mem_getO 0 rfl | exact mem_getO 1 rfl | exact mem_getO 2 rfl | exact mem_getO 3 rfl | exact mem_getO 4 rfl | exact mem_getO 5 rfl | exact mem_getO 6 rfl | exact mem_getO 7 rfl | exact mem_getO 8 rfl | exact mem_getO 9 rfl | exact mem_getO 10 rfl | exact mem_getO 11 rfl | exact mem_getO 12 rfl | exact mem_getO 13 rfl | exact mem_getO 14 rfl | exact mem_getO 15 rfl | exact mem_getO 16 rfl | exact mem_getO 17 rfl | exact mem_getO 18 rfl | exact mem_getO 19 rfl | exact mem_getO 20 rfl | exact mem_getO 21 rfl | exact mem_getO 22 rfl | exact mem_getO 23 rfl | exact mem_getO 24 rfl | exact mem_getO 25 rfl)⟩⟩) ?_; rintro _ _ ⟨bq, bs, gq, rfl, rfl⟩
  refine l_assign rfl rfl ?_
  refine l_nil ?_
  refine g_seq ?_
  refine gp_start mo (by kernel_rfl) (by kernel_rfl) ?_
  refine gp_quiet 0 rfl rfl rfl rfl rfl rfl (q_move rfl) ?_
  refine gp_quiet 1 rfl rfl rfl rfl rfl rfl (q_move rfl) ?_
  refine gp_quiet 2 rfl rfl rfl rfl rfl rfl (q_nilCheck rfl) ?_
  refine gp_quiet 3 rfl rfl rfl rfl rfl rfl (q_fieldAddr fa_51_3 rfl) ?_
  refine gp_quiet 4 rfl rfl rfl rfl rfl rfl (q_ld Try.isAgg45 rfl rfl) ?_
  refine gp_quiet 5 rfl rfl rfl rfl rfl rfl (q_move rfl) ?_
  refine gp_effa 6 [5] [4, 3, 2, 1, 0] rfl rfl rfl rfl rfl rfl rfl (does_call Try.call50 rfl (rnewr_ok _ _ ba nb bc Z hZ.ex (by omega))) ?_
  rintro _ _ ⟨by_, a2, c2, rfl, ha2, hc2, rfl⟩
  refine ⟨?_, ?_⟩
  · refine .cons rfl rfl rfl rfl rfl (q_ld Try.isAgg45 rfl rfl) ?_
    refine .cons rfl rfl rfl rfl rfl (q_fieldAddr fa_51_3 rfl) ?_
    refine .cons rfl rfl rfl rfl rfl (q_nilCheck rfl) ?_
    refine .cons rfl rfl rfl rfl rfl (q_move rfl) ?_
    refine .cons rfl rfl rfl rfl rfl (q_move rfl) ?_
    exact .nil
  refine gp_eff 7 rfl rfl rfl rfl rfl rfl (does_buildSlice Try.underlying45 Try.sizeOf92 Try.zeroValue92 rfl rfl rfl rfl rfl rfl) ?_
  rintro _ _ ⟨b70, rfl, rfl⟩
  refine ⟨?_, ?_⟩
  · refine .cons rfl rfl rfl rfl rfl (q_ld Try.isAgg45 rfl rfl) ?_
    refine .cons rfl rfl rfl rfl rfl (q_fieldAddr fa_51_3 rfl) ?_
    refine .cons rfl rfl rfl rfl rfl (q_nilCheck rfl) ?_
    refine .cons rfl rfl rfl rfl rfl (q_move rfl) ?_
    refine .cons rfl rfl rfl rfl rfl (q_move rfl) ?_
    exact .nil
  refine gp_frontv (.slice S.ql S.M S.qc) ?_
  refine gp_effa 8 [4] [3, 2, 1, 0] rfl rfl rfl rfl rfl rfl rfl (does_appendS 0 (sz := 1) (by_ := 8) (m2 := 1) (news := [.pointer (some ⟨by_, 0, none⟩)]) (m3 := S.M + 1) (X3 := ptrs (S.M + 1) (upF (fun j => (S.R j).by_) S.M by_)) Try.underlying45 Try.type92 rfl rfl rfl rfl rfl rfl rfl rfl ⟨rfl, .inl ⟨_, _, _, rfl, .own (mem_getO 1 rfl)⟩⟩ rfl (by omega) (by simp only [maxLen]; omega) rfl ptrs_push1 (fun _ _ => rfl)) ?_
  rintro _ _ ⟨a71, a71c, a71h, rfl, rfl⟩
  obtain ⟨a71g, rfl⟩ := a71h.resolve_left (by omega)
  refine ⟨?_, ?_⟩
  · refine .cons rfl rfl rfl rfl rfl (q_fieldAddr fa_51_3 rfl) ?_
    refine .cons rfl rfl rfl rfl rfl (q_nilCheck rfl) ?_
    refine .cons rfl rfl rfl rfl rfl (q_move rfl) ?_
    refine .cons rfl rfl rfl rfl rfl (q_move rfl) ?_
    exact .nil
  refine gp_quiet 9 rfl rfl rfl rfl rfl rfl (q_nilCheck rfl) ?_
  refine gp_quiet 10 rfl rfl rfl rfl rfl rfl (q_fieldAddr fa_51_3 rfl) ?_
  refine gp_effa 11 [0, 1, 2, 3, 10] [9] rfl rfl rfl rfl rfl rfl rfl (does_st Try.sizeOf45 rfl rfl rfl rfl) ?_
  rintro _ _ ⟨rfl, rfl⟩
  refine ⟨?_, ?_⟩
  · refine .cons rfl rfl rfl rfl rfl (q_nilCheck rfl) ?_
    exact .nil
  refine gp_end rfl rfl ?_
  refine g_seq ?_
  refine g_region ?_
  refine l_move rfl rfl ?_
  refine l_move rfl rfl ?_
  refine l_nilCheck rfl rfl ?_
  refine l_fieldAddr rfl fa_51_2 rfl ?_
  refine l_ld rfl Try.isAgg44 rfl rfl ?_
  refine l_move rfl rfl ?_
  refine l_buildSlice rfl Try.underlying44 Try.sizeOf69 Try.zeroValue69 rfl rfl rfl rfl rfl rfl ?_; intro b80
  refine l_frontv (.slice S.rl S.M S.rc) ?_
  refine l_does rfl (does_appendS 0 (sz := 1) (by_ := 8) (m2 := 1) (news := [.pointer (some ⟨bq, 0, none⟩)]) (m3 := S.M + 1) (X3 := ptrs (S.M + 1) (upF (fun j => (S.R j).bq) S.M bq)) Try.underlying44 Try.type69 rfl rfl rfl rfl rfl rfl rfl rfl ⟨rfl, .inl ⟨_, _, _, rfl, .own (mem_getO 1 rfl)⟩⟩ rfl (by omega) (by simp only [maxLen]; omega) rfl ptrs_push1 (fun _ _ => rfl)) ?_
  rintro _ _ ⟨a81, a81c, a81h, rfl, rfl⟩
  obtain ⟨a81g, rfl⟩ := a81h.resolve_left (by omega)
  refine l_nilCheck rfl rfl ?_
  refine l_fieldAddr rfl fa_51_2 rfl ?_
  refine l_st Try.sizeOf44 rfl rfl rfl rfl ?_
  refine l_nil ?_
  refine g_seq ?_
  refine g_region ?_
  refine l_move rfl rfl ?_
  refine l_move rfl rfl ?_
  refine l_take (Own 5 1 (.slice (some ⟨gX, 0, none⟩) (nb + 9) (nb + 9)) (nb + 9) (ints .u8 X)) ?_
  refine l_call rfl Try.call51 rfl (back2_ok8 _ _ gX X ba nb bc Z hZ.1 hZ.ir.ex (by omega) hZU hX) ?_; rintro _ _ ⟨rfl, rfl⟩
  refine l_assign rfl rfl ?_
  refine l_nil ?_
  refine g_seq ?_
  refine g_region ?_
  refine l_move rfl rfl ?_
  refine l_nepn rfl Try.underlying69 rfl rfl ?_
  refine l_move rfl rfl ?_
  refine l_guard_yes rfl rfl ?_
  refine l_move rfl rfl ?_
  refine l_pick_t rfl rfl rfl ?_
  refine l_assign rfl rfl ?_
  refine l_nil ?_
  refine g_take (BigF S.M (fun j => rdA (S.R j))) ?_
  refine g_take (Own 5 1 (.slice a2 nb c2) nb (ints .u8 Z)) ?_
  refine g_take (Blk by_ (.cells [Value.slice a2 nb c2, .int .i64 0, .int .i64 0].toArray 99 (0, 0))) ?_
  refine g_take (Own 5 1 (.slice (some ⟨gq, 0, none⟩) nb nb) nb (ints .u8 Z)) ?_
  refine g_take (Blk bs (.cells [Value.slice (some ⟨gq, 0, none⟩) nb nb, .int .i64 0].toArray 109 (0, 0))) ?_
  refine g_take (Blk bq (.cells [Value.pointer (some ⟨bs, 0, none⟩), .int .i64 0].toArray 113 (0, 0))) ?_
  refine g_snocr (r := ⟨bq, bs, gq, by_, a2, c2, nb, Z, 0, 0⟩) ?_
  rw [ptrs_up (r := RR.bq) (W := S.R) (w := ⟨bq, bs, gq, by_, a2, c2, nb, Z, 0, 0⟩) rfl, ptrs_up (r := RR.by_) (W := S.R) (w := ⟨bq, bs, gq, by_, a2, c2, nb, Z, 0, 0⟩) rfl]
  refine g_ret Try.func17 rfl (.tmp rfl .nil) ?_
  exact Gives.mki ⟨⟨S.N, S.W, S.wl, S.wc, S.vl, S.vc, S.M + 1, upF S.R S.M ⟨bq, bs, gq, by_, a2, c2, nb, Z, 0, 0⟩, some ⟨a81g, 0, none⟩, a81c, some ⟨a71g, 0, none⟩, a71c, S.K8, S.B8, S.ka8, S.kc8, S.K, S.B, S.ka, S.kc⟩, (by first | rfl | exact congrArg Value.bool (decide_eq_true rfl) | (simp [resVal]; done)), hS.newR ⟨hZ.1, by simp only; omega, ha2, hc2, hZU, by simp only; omega, by simp only; omega, by simp only; omega, by simp only; omega⟩ (by omega), ⟨Nat.le_refl _, Nat.le_succ _⟩, ⟨fun h => absurd h hk8, fun _ => ⟨rfl, rfl⟩⟩, rfl⟩
theorem CallK.gany {P g args w0 F} {R R' : Value → List Atom → Prop} (h : CallK P g args w0 F (Gives w0 R)) (hr : ∀ v F', R v F' → ∀ w, Holds w0 F' w → ∃ F'', R' v F'' ∧ ∀ w, Holds w0 F' w → Holds w0 F'' w) : CallK P g args w0 F (Gives w0 R') :=
  fun w hw => (h w hw).mono fun e w' ⟨F', ⟨v, F2, h1, h2, h3⟩, h4⟩ => by
    obtain ⟨F3, h5, h6⟩ := hr v F2 h2 w' (h3 w' h4)
    exact ⟨F', ⟨v, F3, h1, h5, fun w hw => h6 w (h3 w hw)⟩, h4⟩
def NilS (a : Option Addr) (n c : Nat) : Prop := (Value.slice a n c = .slice none 0 0 ∧ n = 0) ∨ ∃ g cap, Value.slice a n c = .slice (some ⟨g, 0, none⟩) n cap
theorem NilS.of {w0 : World} {F : List Atom} {E n c : Nat} {a : Option Addr} {xs : List Value} (hm : Own E 1 (.slice a n c) n xs ∈ F) (w : World) (hw : Holds w0 F w) : NilS a n c :=
  (own_cases hm w hw).2.2.imp id fun ⟨g, cap, h, _⟩ => ⟨g, cap, h⟩
theorem NilS.reads {w0 : World} {F : List Atom} {E n c : Nat} {a : Option Addr} {kd : IntKind} {X : List Int} (h : NilS a n c) (hX : X.length = n) (hm : Own E 1 (.slice a n c) n (ints kd X) ∈ F) : Reads w0 F (.slice a n c) n 1 (ints kd X) :=
  Reads.own (by rw [ints_length, hX, Nat.mul_one]) h hm
theorem marks_row {w0 : World} {F : List Atom} {E g n cap : Nat} {kd : IntKind} {x : Int} (hm : Own E 1 (.slice (some ⟨g, 0, none⟩) (n + 9) cap) (n + 9) (ints kd (List.replicate (n + 9) x)) ∈ F) : RowAt w0 F g 0 (ints kd (List.replicate n x)) := by
  have := (RowAt.own (w0 := w0) hm).mid 0 n
  rw [List.drop_zero, ints_take, List.take_replicate, Nat.min_eq_left (by omega)] at this
  exact this
theorem marks_ir {w0 : World} {F : List Atom} {E g n cap : Nat} {kd : IntKind} {x : Int} (hm : Own E 1 (.slice (some ⟨g, 0, none⟩) (n + 9) cap) (n + 9) (ints kd (List.replicate (n + 9) x)) ∈ F) : IR w0 F kd (some ⟨g, 0, none⟩) n (List.replicate n x) :=
  ⟨List.length_replicate, .inr ⟨g, 0, rfl, marks_row hm⟩⟩
theorem row_reads {w0 : World} {F : List Atom} {g n c : Nat} {kd : IntKind} {X : List Int} (hX : X.length = n) (h : RowAt w0 F g 0 (ints kd X)) : Reads w0 F (.slice (some ⟨g, 0, none⟩) n c) n 1 (ints kd X) :=
  ⟨by rw [ints_length, hX, Nat.mul_one], .inl ⟨g, 0, _, rfl, h⟩⟩
theorem marks_len (n : Nat) (x : Int) : (List.replicate n x).length = n := List.length_replicate
def unpN (nb : Nat) : Nat := if nb % 4 = 0 then nb / 4 else 0
def unpE (nb : Nat) : Int := if nb % 4 = 0 then 0 else 12
theorem unpN_le (nb : Nat) : unpN nb ≤ nb := by unfold unpN; split <;> omega
theorem rpack2 (w0 : World) (F : List Atom) (a : Option Addr) (n c : Nat) (W : List Int) (hI : IR w0 F .u32 a n W) (hU : W32s W) (hn : n ≤ 536870911) : CallK Try.prog 58 [.slice a n c] w0 F (Gives w0 fun v F2 => ∃ a2 c2, v = .slice a2 (4 * n) c2 ∧ NilS a2 (4 * n) c2 ∧ F2 = Own 5 1 (.slice a2 (4 * n) c2) (4 * n) (ints .u8 (packB W n)) :: F) :=
  (rpack_ok w0 F a n c W hI hU hn).gany fun v F' ⟨a2, c2, h1, _, h3⟩ w hw => ⟨F', ⟨a2, c2, h1, by subst h3; exact NilS.of (List.mem_cons_self ..) w hw, h3⟩, fun _ h => h⟩
theorem unp_bads {w0 : World} {F : List Atom} {f : FuncId} {a : Option Addr} {nb c : Nat} {B : List Int} (h : nb % 4 ≠ 0) (hc : CallK Try.prog f [.slice a nb c] w0 F (Gives w0 fun v F2 => v = .tuple #[.slice none 0 0, .int .i64 12] ∧ F2 = F)) : CallK Try.prog f [.slice a nb c] w0 F (Gives w0 fun v F2 => ∃ a2 c2, v = .tuple #[.slice a2 (unpN nb) c2, .int .i64 (unpE nb)] ∧ (unpN nb = 0 ∨ ∃ g, a2 = some ⟨g, 0, none⟩) ∧ NilS a2 (unpN nb) c2 ∧ F2 = Own 23 1 (.slice a2 (unpN nb) c2) (unpN nb) (ints .u32 (unpB B (unpN nb))) :: F) := by
  have h1 : unpN nb = 0 := if_neg h
  have h2 : unpE nb = 12 := if_neg h
  rw [h1, h2]
  refine hc.gany fun v F' ⟨e1, e2⟩ w hw => ⟨_, ⟨none, 0, e1, .inl rfl, .inl ⟨rfl, rfl⟩, rfl⟩, fun w hw => ?_⟩
  subst e2
  exact hw.own_nil 23 1
theorem unp_any (w0 : World) (F : List Atom) (a : Option Addr) (nb c : Nat) (B : List Int) (hB : B.length = nb) (hU : U8s B) (hn : nb ≤ 2147483647) (hr : Reads w0 F (.slice a nb c) nb 1 (ints .u8 B)) : CallK Try.prog 38 [.slice a nb c] w0 F (Gives w0 fun v F2 => ∃ a2 c2, v = .tuple #[.slice a2 (unpN nb) c2, .int .i64 (unpE nb)] ∧ (unpN nb = 0 ∨ ∃ g, a2 = some ⟨g, 0, none⟩) ∧ NilS a2 (unpN nb) c2 ∧ F2 = Own 23 1 (.slice a2 (unpN nb) c2) (unpN nb) (ints .u32 (unpB B (unpN nb))) :: F) := by
  by_cases h : nb % 4 = 0
  · have h1 : unpN nb = nb / 4 := if_pos h
    have h2 : unpE nb = 0 := if_pos h
    rw [h1, h2]
    exact (unpack_in w0 F a nb (nb / 4) c B hB hU hn hr (by omega)).gany fun v F' ⟨a2, c2, e1, e2, e3⟩ w hw => ⟨F', ⟨a2, c2, e1, e2, by subst e3; exact NilS.of (List.mem_cons_self ..) w hw, e3⟩, fun _ h => h⟩
  · exact unp_bads h (unpack_bad w0 F a nb c hn h)
theorem runp_any (w0 : World) (F : List Atom) (a : Option Addr) (nb c : Nat) (B : List Int) (hB : B.length = nb) (hU : U8s B) (hn : nb ≤ 2147483647) (hR : IR w0 F .u8 a nb B) (hcc : nb ≤ c) : CallK Try.prog 60 [.slice a nb c] w0 F (Gives w0 fun v F2 => ∃ a2 c2, v = .tuple #[.slice a2 (unpN nb) c2, .int .i64 (unpE nb)] ∧ (unpN nb = 0 ∨ ∃ g, a2 = some ⟨g, 0, none⟩) ∧ NilS a2 (unpN nb) c2 ∧ F2 = Own 23 1 (.slice a2 (unpN nb) c2) (unpN nb) (ints .u32 (unpB B (unpN nb))) :: F) := by
  by_cases h : nb % 4 = 0
  · have h1 : unpN nb = nb / 4 := if_pos h
    have h2 : unpE nb = 0 := if_pos h
    rw [h1, h2]
    exact (runpack_in w0 F a nb (nb / 4) c B hB hU hn hR (fun _ _ _ => hcc) (by omega)).gany fun v F' ⟨a2, c2, e1, e2, e3⟩ w hw => ⟨F', ⟨a2, c2, e1, e2, by subst e3; exact NilS.of (List.mem_cons_self ..) w hw, e3⟩, fun _ h => h⟩
  · exact unp_bads h (runpack_bad w0 F a nb c hn h)
set_option maxHeartbeats 16000000 in
theorem lists_ok (w0 : World) (F : List Atom) (xw : Nat) (S : WS) (T : Nat) (hS : SOk S T) (hT : T ≤ 2147483700) (kd : Int) (kd0 : -9223372036854775808 ≤ kd) (kd1 : kd ≤ 9223372036854775807) (who : Int) (who0 : -9223372036854775808 ≤ who) (who1 : who ≤ 9223372036854775807) (oa : Int) (oa0 : -9223372036854775808 ≤ oa) (oa1 : oa ≤ 9223372036854775807) (ob : Int) (ob0 : -9223372036854775808 ≤ ob) (ob1 : ob ≤ 9223372036854775807) (ow : Int) (ow0 : 0 ≤ ow) (ow1 : ow ≤ 4294967295) (ov : Int) (ov0 : 0 ≤ ov) (ov1 : ov ≤ 4294967295) (on : Int) (on0 : 0 ≤ on) (on1 : on ≤ 18446744073709551615) (ba : Option Addr) (nb bc : Nat) (Z : List Int) (hZ : RA w0 F .u8 ba nb bc Z) (hbc : nb ≤ bc) (hZU : U8s Z) (wa : Option Addr) (nw wc : Nat) (Y : List Int) (hY : RA w0 F .u32 wa nw wc Y) (hYU : W32s Y) (os : ByteArray) (hwt : os.size ≤ 2147483647 ∧ nb ≤ 2147483647 ∧ nw ≤ 536870911) :
    CallK Try.prog 20 [.pointer (some ⟨xw, 0, none⟩), .agg [Value.int .i64 kd, .int .i64 who, .int .i64 oa, .int .i64 ob, .int .u32 ow, .int .u32 ov, .int .u64 on, .slice ba nb bc, .slice wa nw wc, .string os].toArray] w0 (Blk xw (.cells [Value.slice S.wl S.N S.wc, .slice S.vl S.N S.vc, .slice S.rl S.M S.rc, .slice S.ql S.M S.qc, .slice S.ka8 S.K8 S.kc8, .slice S.ka S.K S.kc].toArray 51 (0, 0)) :: Own 61 1 (.slice S.wl S.N S.wc) S.N (ptrs S.N fun j => (S.W j).bw) :: Own 88 1 (.slice S.vl S.N S.vc) S.N (ptrs S.N fun j => (S.W j).bx) :: Own 69 1 (.slice S.rl S.M S.rc) S.M (ptrs S.M fun j => (S.R j).bq) :: Own 92 1 (.slice S.ql S.M S.qc) S.M (ptrs S.M fun j => (S.R j).by_) :: BigF S.N (fun j => wrA (S.W j)) :: BigF S.M (fun j => rdA (S.R j)) :: Own 102 4 (.slice S.ka8 S.K8 S.kc8) S.K8 (rowsN S.K8 (fun j => bkR8 (S.B8 j))) :: BigF S.K8 (fun j => bkA8 (S.B8 j)) :: Own 104 4 (.slice S.ka S.K S.kc) S.K (rowsN S.K (fun j => bkR (S.B j))) :: BigF S.K (fun j => bkA (S.B j)) :: F) (Gives w0 fun v F2 => ∃ S' : WS, v = .bool true ∧ SOk S' (T + 8 + os.size) ∧ (S.N ≤ S'.N ∧ S.M ≤ S'.M) ∧ F2 = Blk xw (.cells [Value.slice S'.wl S'.N S'.wc, .slice S'.vl S'.N S'.vc, .slice S'.rl S'.M S'.rc, .slice S'.ql S'.M S'.qc, .slice S'.ka8 S'.K8 S'.kc8, .slice S'.ka S'.K S'.kc].toArray 51 (0, 0)) :: Own 61 1 (.slice S'.wl S'.N S'.wc) S'.N (ptrs S'.N fun j => (S'.W j).bw) :: Own 88 1 (.slice S'.vl S'.N S'.vc) S'.N (ptrs S'.N fun j => (S'.W j).bx) :: Own 69 1 (.slice S'.rl S'.M S'.rc) S'.M (ptrs S'.M fun j => (S'.R j).bq) :: Own 92 1 (.slice S'.ql S'.M S'.qc) S'.M (ptrs S'.M fun j => (S'.R j).by_) :: BigF S'.N (fun j => wrA (S'.W j)) :: BigF S'.M (fun j => rdA (S'.R j)) :: Own 102 4 (.slice S'.ka8 S'.K8 S'.kc8) S'.K8 (rowsN S'.K8 (fun j => bkR8 (S'.B8 j))) :: BigF S'.K8 (fun j => bkA8 (S'.B8 j)) :: Own 104 4 (.slice S'.ka S'.K S'.kc) S'.K (rowsN S'.K (fun j => bkR (S'.B j))) :: BigF S'.K (fun j => bkA (S'.B j)) :: F) := by
  refine c_enter Try.func20 rfl rfl rfl ?_
  refine g_seq ?_
  refine g_region ?_
  refine l_boxs rfl rfl ?_; intro b3
  refine l_assign rfl rfl ?_
  refine l_nil ?_
  refine g_seq ?_
  refine g_seq ?_
  refine g_region ?_
  refine l_fieldAddr rfl fa_56_0 rfl ?_
  first | refine l_ld rfl Try.isAgg3 rfl rfl ?_ | refine l_ldw rfl Try.isAgg3 rfl (by omega) ?_
  refine l_nil ?_
  refine g_block ?_
  refine g_seq ?_
  refine g_region ?_
  refine l_eql rfl rfl rfl ?_
  refine l_assign rfl rfl ?_
  refine l_nil ?_
  refine g_cond rfl ?_ ?_
  · intro hbr
    have hbr := of_decide_eq_true hbr
    refine g_seq ?_
    refine g_region ?_
    refine l_fieldAddr rfl fa_56_8 rfl ?_
    refine l_ld rfl Try.isAgg54 rfl rfl ?_
    refine l_call rfl Try.call56 rfl (lent_ok _ _ wa nw wc Y hY.1 hY.ir.ex (by omega) hYU) ?_; rintro _ _ ⟨g1, X, rfl, hX, rfl⟩
    refine l_assign rfl rfl ?_
    refine l_nil ?_
    refine g_seq ?_
    refine g_region ?_
    refine l_move rfl rfl ?_
    refine l_call rfl Try.call37 rfl (pack_ok _ _ (some ⟨g1, 0, none⟩) nw (nw + 9) Y ⟨hY.1, .inr ⟨g1, 0, rfl, lent_row hX hY.1 (by first | exact mem_getO 0 rfl | exact mem_getO 1 rfl | exact mem_getO 2 rfl | exact mem_getO 3 rfl | exact mem_getO 4 rfl | exact mem_getO 5 rfl | exact mem_getO 6 rfl | exact mem_getO 7 rfl | exact mem_getO 8 rfl | exact mem_getO 9 rfl | exact mem_getO 10 rfl | exact mem_getO 11 rfl | exact mem_getO 12 rfl | exact mem_getO 13 rfl | exact mem_getO 14 rfl | exact mem_getO 15 rfl | exact mem_getO 16 rfl | exact mem_getO 17 rfl | exact mem_getO 18 rfl | exact mem_getO 19 rfl | exact mem_getO 20 rfl | exact mem_getO 21 rfl | exact mem_getO 22 rfl | exact mem_getO 23 rfl | exact mem_getO 24 rfl | exact mem_getO 25 rfl)⟩⟩ hYU (by omega)) ?_; rintro _ _ ⟨g2, rfl, rfl⟩
    refine l_assign rfl rfl ?_
    refine l_nil ?_
    refine g_seq ?_
    refine gp_start mo (by kernel_rfl) (by kernel_rfl) ?_
    refine gp_quiet 0 rfl rfl rfl rfl rfl rfl (q_move rfl) ?_
    refine gp_quiet 1 rfl rfl rfl rfl rfl rfl (q_nilCheck rfl) ?_
    refine gp_quiet 2 rfl rfl rfl rfl rfl rfl (q_fieldAddr fa_51_4 rfl) ?_
    refine gp_quiet 3 rfl rfl rfl rfl rfl rfl (q_move rfl) ?_
    refine gp_quiet 4 rfl rfl rfl rfl rfl rfl (q_fieldAddr fa_56_8 rfl) ?_
    refine gp_quiet 5 rfl rfl rfl rfl rfl rfl (q_ld Try.isAgg54 rfl rfl) ?_
    refine gp_effa 6 [5] [4, 3, 2, 1, 0] rfl rfl rfl rfl rfl rfl rfl (does_call Try.call58 rfl (rpack2 _ _ wa nw wc Y hY.ir.ex hYU (by omega))) ?_
    rintro _ _ ⟨a4, c4, rfl, h4, rfl⟩
    refine ⟨?_, ?_⟩
    · refine .cons rfl rfl rfl rfl rfl (q_fieldAddr fa_56_8 rfl) ?_
      refine .cons rfl rfl rfl rfl rfl (q_move rfl) ?_
      refine .cons rfl rfl rfl rfl rfl (q_fieldAddr fa_51_4 rfl) ?_
      refine .cons rfl rfl rfl rfl rfl (q_nilCheck rfl) ?_
      refine .cons rfl rfl rfl rfl rfl (q_move rfl) ?_
      exact .nil
    refine gp_take (Own 5 1 (.slice (some ⟨g2, 0, none⟩) (4 * nw) (4 * nw)) (4 * nw) (ints .u8 (packB Y nw))) ?_
    refine gp_take (BigF S.K8 (fun j => bkA8 (S.B8 j))) ?_
    refine gp_take (Own 102 4 (.slice S.ka8 S.K8 S.kc8) S.K8 (rowsN S.K8 (fun j => bkR8 (S.B8 j)))) ?_
    refine gp_take (Blk xw (.cells [Value.slice S.wl S.N S.wc, .slice S.vl S.N S.vc, .slice S.rl S.M S.rc, .slice S.ql S.M S.qc, .slice S.ka8 S.K8 S.kc8, .slice S.ka S.K S.kc].toArray 51 (0, 0))) ?_
    refine gp_effa 7 [2, 3] [4, 1, 0] rfl rfl rfl rfl rfl rfl rfl (does_call Try.call57 rfl (keepw_ok8 _ _ xw _ _ _ _ _ S.ka8 S.K8 S.kc8 S.B8 hS.hB8 (by have := hS.hK8; omega) (some ⟨g2, 0, none⟩) a4 (4 * nw) (4 * nw) c4 (packB Y nw) (packB_len _ _) (by omega) (U8s.of (packB_bd _ _)) (.inr ⟨_, rfl⟩) (h4.reads (packB_len _ _) (by first | exact mem_getO 0 rfl | exact mem_getO 1 rfl | exact mem_getO 2 rfl | exact mem_getO 3 rfl | exact mem_getO 4 rfl | exact mem_getO 5 rfl | exact mem_getO 6 rfl | exact mem_getO 7 rfl | exact mem_getO 8 rfl | exact mem_getO 9 rfl | exact mem_getO 10 rfl | exact mem_getO 11 rfl | exact mem_getO 12 rfl | exact mem_getO 13 rfl | exact mem_getO 14 rfl | exact mem_getO 15 rfl | exact mem_getO 16 rfl | exact mem_getO 17 rfl | exact mem_getO 18 rfl | exact mem_getO 19 rfl | exact mem_getO 20 rfl | exact mem_getO 21 rfl | exact mem_getO 22 rfl | exact mem_getO 23 rfl | exact mem_getO 24 rfl | exact mem_getO 25 rfl)))) ?_
    rintro _ _ ⟨B1, ka1, kc1, rfl, hB1, hka1, rfl⟩
    refine ⟨?_, ?_⟩
    · refine .cons rfl rfl rfl rfl rfl (q_fieldAddr fa_56_8 rfl) ?_
      refine .cons rfl rfl rfl rfl rfl (q_nilCheck rfl) ?_
      refine .cons rfl rfl rfl rfl rfl (q_move rfl) ?_
      exact .nil
    refine gp_quiet 8 rfl rfl rfl rfl rfl rfl (q_assign rfl) ?_
    refine gp_end rfl rfl ?_
    refine g_seq ?_
    refine g_region ?_
    refine l_move rfl rfl ?_
    refine l_fieldAddr rfl fa_56_8 rfl ?_
    refine l_ld rfl Try.isAgg54 rfl rfl ?_
    refine l_take (Own 23 1 (.slice (some ⟨g1, 0, none⟩) (nw + 9) (nw + 9)) (nw + 9) (ints .u32 X)) ?_
    refine l_call rfl Try.call59 rfl (back2_ok _ _ g1 X wa nw wc Y hY.1 hY.ir.ex (by omega) hYU hX) ?_; rintro _ _ ⟨rfl, rfl⟩
    refine l_assign rfl rfl ?_
    refine l_nil ?_
    refine g_seq ?_
    refine g_region ?_
    refine l_move rfl rfl ?_
    refine l_call rfl Try.call37 rfl (pack_ok _ _ (some ⟨g1, 0, none⟩) nw (nw + 9) (List.replicate nw 2021161080) (marks_ir (by first | exact mem_getO 0 rfl | exact mem_getO 1 rfl | exact mem_getO 2 rfl | exact mem_getO 3 rfl | exact mem_getO 4 rfl | exact mem_getO 5 rfl | exact mem_getO 6 rfl | exact mem_getO 7 rfl | exact mem_getO 8 rfl | exact mem_getO 9 rfl | exact mem_getO 10 rfl | exact mem_getO 11 rfl | exact mem_getO 12 rfl | exact mem_getO 13 rfl | exact mem_getO 14 rfl | exact mem_getO 15 rfl | exact mem_getO 16 rfl | exact mem_getO 17 rfl | exact mem_getO 18 rfl | exact mem_getO 19 rfl | exact mem_getO 20 rfl | exact mem_getO 21 rfl | exact mem_getO 22 rfl | exact mem_getO 23 rfl | exact mem_getO 24 rfl | exact mem_getO 25 rfl)) (.rep _ (by decide)) (by omega)) ?_; rintro _ _ ⟨g3, rfl, rfl⟩
    refine l_assign rfl rfl ?_
    refine l_nil ?_
    refine g_seq ?_
    refine gp_start mo (by kernel_rfl) (by kernel_rfl) ?_
    refine gp_quiet 0 rfl rfl rfl rfl rfl rfl (q_move rfl) ?_
    refine gp_quiet 1 rfl rfl rfl rfl rfl rfl (q_nilCheck rfl) ?_
    refine gp_quiet 2 rfl rfl rfl rfl rfl rfl (q_fieldAddr fa_51_4 rfl) ?_
    refine gp_quiet 3 rfl rfl rfl rfl rfl rfl (q_move rfl) ?_
    refine gp_quiet 4 rfl rfl rfl rfl rfl rfl (q_move rfl) ?_
    refine gp_effa 5 [4] [3, 2, 1, 0] rfl rfl rfl rfl rfl rfl rfl (does_call Try.call58 rfl (rpack2 _ _ (some ⟨g1, 0, none⟩) nw (nw + 9) (List.replicate nw 2021161080) (marks_ir (by first | exact mem_getO 0 rfl | exact mem_getO 1 rfl | exact mem_getO 2 rfl | exact mem_getO 3 rfl | exact mem_getO 4 rfl | exact mem_getO 5 rfl | exact mem_getO 6 rfl | exact mem_getO 7 rfl | exact mem_getO 8 rfl | exact mem_getO 9 rfl | exact mem_getO 10 rfl | exact mem_getO 11 rfl | exact mem_getO 12 rfl | exact mem_getO 13 rfl | exact mem_getO 14 rfl | exact mem_getO 15 rfl | exact mem_getO 16 rfl | exact mem_getO 17 rfl | exact mem_getO 18 rfl | exact mem_getO 19 rfl | exact mem_getO 20 rfl | exact mem_getO 21 rfl | exact mem_getO 22 rfl | exact mem_getO 23 rfl | exact mem_getO 24 rfl | exact mem_getO 25 rfl)) (.rep _ (by decide)) (by omega))) ?_
    rintro _ _ ⟨a5, c5, rfl, h5, rfl⟩
    refine ⟨?_, ?_⟩
    · refine .cons rfl rfl rfl rfl rfl (q_move rfl) ?_
      refine .cons rfl rfl rfl rfl rfl (q_fieldAddr fa_51_4 rfl) ?_
      refine .cons rfl rfl rfl rfl rfl (q_nilCheck rfl) ?_
      refine .cons rfl rfl rfl rfl rfl (q_move rfl) ?_
      exact .nil
    refine gp_take (Own 5 1 (.slice (some ⟨g3, 0, none⟩) (4 * nw) (4 * nw)) (4 * nw) (ints .u8 (packB (List.replicate nw 2021161080) nw))) ?_
    refine gp_take (BigF (S.K8 + 1) (fun j => bkA8 (B1 j))) ?_
    refine gp_take (Own 102 4 (.slice ka1 (S.K8 + 1) kc1) (S.K8 + 1) (rowsN (S.K8 + 1) (fun j => bkR8 (B1 j)))) ?_
    refine gp_take (Blk xw (.cells [Value.slice S.wl S.N S.wc, .slice S.vl S.N S.vc, .slice S.rl S.M S.rc, .slice S.ql S.M S.qc, .slice ka1 (S.K8 + 1) kc1, .slice S.ka S.K S.kc].toArray 51 (0, 0))) ?_
    refine gp_effa 6 [2, 3] [1, 0] rfl rfl rfl rfl rfl rfl rfl (does_call Try.call57 rfl (keepw_ok8 _ _ xw _ _ _ _ _ ka1 (S.K8 + 1) kc1 B1 hB1 (by have := hS.hK8; omega) (some ⟨g3, 0, none⟩) a5 (4 * nw) (4 * nw) c5 (packB (List.replicate nw 2021161080) nw) (packB_len _ _) (by omega) (U8s.of (packB_bd _ _)) (.inr ⟨_, rfl⟩) (h5.reads (packB_len _ _) (by first | exact mem_getO 0 rfl | exact mem_getO 1 rfl | exact mem_getO 2 rfl | exact mem_getO 3 rfl | exact mem_getO 4 rfl | exact mem_getO 5 rfl | exact mem_getO 6 rfl | exact mem_getO 7 rfl | exact mem_getO 8 rfl | exact mem_getO 9 rfl | exact mem_getO 10 rfl | exact mem_getO 11 rfl | exact mem_getO 12 rfl | exact mem_getO 13 rfl | exact mem_getO 14 rfl | exact mem_getO 15 rfl | exact mem_getO 16 rfl | exact mem_getO 17 rfl | exact mem_getO 18 rfl | exact mem_getO 19 rfl | exact mem_getO 20 rfl | exact mem_getO 21 rfl | exact mem_getO 22 rfl | exact mem_getO 23 rfl | exact mem_getO 24 rfl | exact mem_getO 25 rfl)))) ?_
    rintro _ _ ⟨B2, ka2, kc2, rfl, hB2, hka2, rfl⟩
    refine ⟨?_, ?_⟩
    · refine .cons rfl rfl rfl rfl rfl (q_nilCheck rfl) ?_
      refine .cons rfl rfl rfl rfl rfl (q_move rfl) ?_
      exact .nil
    refine gp_quiet 7 rfl rfl rfl rfl rfl rfl (q_assign rfl) ?_
    refine gp_end rfl rfl ?_
    refine g_seq ?_
    refine g_region ?_
    refine l_move rfl rfl ?_
    refine l_move rfl rfl ?_
    refine l_guard_yes rfl rfl ?_
    refine l_move rfl rfl ?_
    refine l_pick_t rfl rfl rfl ?_
    refine l_move rfl rfl ?_
    refine l_guard_yes rfl rfl ?_
    refine l_move rfl rfl ?_
    refine l_pick_t rfl rfl rfl ?_
    refine l_assign rfl rfl ?_
    refine l_nil ?_
    refine g_ret Try.func20 rfl (.tmp rfl .nil) ?_
    exact Gives.mki ⟨⟨S.N, S.W, S.wl, S.wc, S.vl, S.vc, S.M, S.R, S.rl, S.rc, S.ql, S.qc, S.K8 + 1 + 1, B2, ka2, kc2, S.K, S.B, S.ka, S.kc⟩, (by first | rfl | exact congrArg Value.bool (decide_eq_true rfl) | (simp [resVal]; done)), ((hS.le (T2 := T + 8 + os.size) (by omega)).bk8 hB2 hka2 kc2 (by have := hS.hK8; omega)), ⟨Nat.le_refl _, Nat.le_refl _⟩, rfl⟩
  intro hbr
  have hbr := of_decide_eq_false hbr
  refine g_seq ?_
  refine g_region ?_
  refine l_eql rfl rfl rfl ?_
  refine l_assign rfl rfl ?_
  refine l_nil ?_
  refine g_cond rfl ?_ ?_
  · intro hbr
    have hbr := of_decide_eq_true hbr
    refine g_seq ?_
    refine g_region ?_
    refine l_fieldAddr rfl fa_56_7 rfl ?_
    refine l_ld rfl Try.isAgg36 rfl rfl ?_
    refine l_call rfl Try.call49 rfl (lent_ok8 _ _ ba nb bc Z hZ.1 hZ.ir.ex (by omega) hZU) ?_; rintro _ _ ⟨g1, X, rfl, hX, rfl⟩
    refine l_assign rfl rfl ?_
    refine l_nil ?_
    refine g_seq ?_
    refine g_region ?_
    refine l_move rfl rfl ?_
    refine l_call rfl Try.call38 rfl (unp_any _ _ (some ⟨g1, 0, none⟩) nb (nb + 9) Z hZ.1 hZU (by omega) (row_reads hZ.1 (lent_row8 hX hZ.1 (by first | exact mem_getO 0 rfl | exact mem_getO 1 rfl | exact mem_getO 2 rfl | exact mem_getO 3 rfl | exact mem_getO 4 rfl | exact mem_getO 5 rfl | exact mem_getO 6 rfl | exact mem_getO 7 rfl | exact mem_getO 8 rfl | exact mem_getO 9 rfl | exact mem_getO 10 rfl | exact mem_getO 11 rfl | exact mem_getO 12 rfl | exact mem_getO 13 rfl | exact mem_getO 14 rfl | exact mem_getO 15 rfl | exact mem_getO 16 rfl | exact mem_getO 17 rfl | exact mem_getO 18 rfl | exact mem_getO 19 rfl | exact mem_getO 20 rfl | exact mem_getO 21 rfl | exact mem_getO 22 rfl | exact mem_getO 23 rfl | exact mem_getO 24 rfl | exact mem_getO 25 rfl)))) ?_; rintro _ _ ⟨a2, c2, rfl, hz2, h2, rfl⟩
    refine l_move rfl rfl ?_
    refine l_extract rfl rfl rfl ?_
    refine l_extract rfl rfl rfl ?_
    refine l_assign rfl rfl ?_
    refine l_assign rfl rfl ?_
    refine l_nil ?_
    refine g_seq ?_
    refine g_region ?_
    refine l_fieldAddr rfl fa_56_7 rfl ?_
    refine l_ld rfl Try.isAgg36 rfl rfl ?_
    refine l_call rfl Try.call60 rfl (runp_any _ _ ba nb bc Z hZ.1 hZU (by omega) hZ.ir.ex hbc) ?_; rintro _ _ ⟨a4, c4, rfl, hz4, h4, rfl⟩
    refine l_move rfl rfl ?_
    refine l_extract rfl rfl rfl ?_
    refine l_extract rfl rfl rfl ?_
    refine l_assign rfl rfl ?_
    refine l_assign rfl rfl ?_
    refine l_nil ?_
    refine g_seq ?_
    refine g_region ?_
    refine l_move rfl rfl ?_
    refine l_nilCheck rfl rfl ?_
    refine l_fieldAddr rfl fa_51_4 rfl ?_
    refine l_move rfl rfl ?_
    refine l_move rfl rfl ?_
    refine l_take (Own 23 1 (.slice a2 (unpN nb) c2) (unpN nb) (ints .u32 (unpB Z (unpN nb)))) ?_
    refine l_take (BigF S.K (fun j => bkA (S.B j))) ?_
    refine l_take (Own 104 4 (.slice S.ka S.K S.kc) S.K (rowsN S.K (fun j => bkR (S.B j)))) ?_
    refine l_take (Blk xw (.cells [Value.slice S.wl S.N S.wc, .slice S.vl S.N S.vc, .slice S.rl S.M S.rc, .slice S.ql S.M S.qc, .slice S.ka8 S.K8 S.kc8, .slice S.ka S.K S.kc].toArray 51 (0, 0))) ?_
    refine l_call rfl Try.call61 rfl (keepw_ok _ _ xw _ _ _ _ _ S.ka S.K S.kc S.B hS.hB (by have := hS.hK; omega) a2 a4 (unpN nb) c2 c4 (unpB Z (unpN nb)) (unpB_len _ _) (by have := unpN_le nb; omega) (W32s.of (unpB_w hZU _)) hz2 (h4.reads (unpB_len _ _) (by first | exact mem_getO 0 rfl | exact mem_getO 1 rfl | exact mem_getO 2 rfl | exact mem_getO 3 rfl | exact mem_getO 4 rfl | exact mem_getO 5 rfl | exact mem_getO 6 rfl | exact mem_getO 7 rfl | exact mem_getO 8 rfl | exact mem_getO 9 rfl | exact mem_getO 10 rfl | exact mem_getO 11 rfl | exact mem_getO 12 rfl | exact mem_getO 13 rfl | exact mem_getO 14 rfl | exact mem_getO 15 rfl | exact mem_getO 16 rfl | exact mem_getO 17 rfl | exact mem_getO 18 rfl | exact mem_getO 19 rfl | exact mem_getO 20 rfl | exact mem_getO 21 rfl | exact mem_getO 22 rfl | exact mem_getO 23 rfl | exact mem_getO 24 rfl | exact mem_getO 25 rfl))) ?_; rintro _ _ ⟨B1, ka1, kc1, rfl, hB1, hka1, rfl⟩
    refine l_assign rfl rfl ?_
    refine l_nil ?_
    refine g_seq ?_
    refine g_region ?_
    refine l_move rfl rfl ?_
    refine l_fieldAddr rfl fa_56_7 rfl ?_
    refine l_ld rfl Try.isAgg36 rfl rfl ?_
    refine l_take (Own 5 1 (.slice (some ⟨g1, 0, none⟩) (nb + 9) (nb + 9)) (nb + 9) (ints .u8 X)) ?_
    refine l_call rfl Try.call51 rfl (back2_ok8 _ _ g1 X ba nb bc Z hZ.1 hZ.ir.ex (by omega) hZU hX) ?_; rintro _ _ ⟨rfl, rfl⟩
    refine l_assign rfl rfl ?_
    refine l_nil ?_
    refine g_seq ?_
    refine g_region ?_
    refine l_move rfl rfl ?_
    refine l_call rfl Try.call38 rfl (unp_any _ _ (some ⟨g1, 0, none⟩) nb (nb + 9) (List.replicate nb 78) (marks_len _ _) (.rep _ (by decide)) (by omega) (row_reads (marks_len _ _) (marks_row (by first | exact mem_getO 0 rfl | exact mem_getO 1 rfl | exact mem_getO 2 rfl | exact mem_getO 3 rfl | exact mem_getO 4 rfl | exact mem_getO 5 rfl | exact mem_getO 6 rfl | exact mem_getO 7 rfl | exact mem_getO 8 rfl | exact mem_getO 9 rfl | exact mem_getO 10 rfl | exact mem_getO 11 rfl | exact mem_getO 12 rfl | exact mem_getO 13 rfl | exact mem_getO 14 rfl | exact mem_getO 15 rfl | exact mem_getO 16 rfl | exact mem_getO 17 rfl | exact mem_getO 18 rfl | exact mem_getO 19 rfl | exact mem_getO 20 rfl | exact mem_getO 21 rfl | exact mem_getO 22 rfl | exact mem_getO 23 rfl | exact mem_getO 24 rfl | exact mem_getO 25 rfl)))) ?_; rintro _ _ ⟨a3, c3, rfl, hz3, h3, rfl⟩
    refine l_move rfl rfl ?_
    refine l_extract rfl rfl rfl ?_
    refine l_extract rfl rfl rfl ?_
    refine l_assign rfl rfl ?_
    refine l_assign rfl rfl ?_
    refine l_nil ?_
    refine g_seq ?_
    refine g_region ?_
    refine l_move rfl rfl ?_
    refine l_call rfl Try.call60 rfl (runp_any _ _ (some ⟨g1, 0, none⟩) nb (nb + 9) (List.replicate nb 78) (marks_len _ _) (.rep _ (by decide)) (by omega) (marks_ir (by first | exact mem_getO 0 rfl | exact mem_getO 1 rfl | exact mem_getO 2 rfl | exact mem_getO 3 rfl | exact mem_getO 4 rfl | exact mem_getO 5 rfl | exact mem_getO 6 rfl | exact mem_getO 7 rfl | exact mem_getO 8 rfl | exact mem_getO 9 rfl | exact mem_getO 10 rfl | exact mem_getO 11 rfl | exact mem_getO 12 rfl | exact mem_getO 13 rfl | exact mem_getO 14 rfl | exact mem_getO 15 rfl | exact mem_getO 16 rfl | exact mem_getO 17 rfl | exact mem_getO 18 rfl | exact mem_getO 19 rfl | exact mem_getO 20 rfl | exact mem_getO 21 rfl | exact mem_getO 22 rfl | exact mem_getO 23 rfl | exact mem_getO 24 rfl | exact mem_getO 25 rfl)) (by omega)) ?_; rintro _ _ ⟨a5, c5, rfl, hz5, h5, rfl⟩
    refine l_move rfl rfl ?_
    refine l_extract rfl rfl rfl ?_
    refine l_extract rfl rfl rfl ?_
    refine l_assign rfl rfl ?_
    refine l_assign rfl rfl ?_
    refine l_nil ?_
    refine g_seq ?_
    refine g_region ?_
    refine l_move rfl rfl ?_
    refine l_nilCheck rfl rfl ?_
    refine l_fieldAddr rfl fa_51_4 rfl ?_
    refine l_move rfl rfl ?_
    refine l_move rfl rfl ?_
    refine l_take (Own 23 1 (.slice a3 (unpN nb) c3) (unpN nb) (ints .u32 (unpB (List.replicate nb 78) (unpN nb)))) ?_
    refine l_take (BigF (S.K + 1) (fun j => bkA (B1 j))) ?_
    refine l_take (Own 104 4 (.slice ka1 (S.K + 1) kc1) (S.K + 1) (rowsN (S.K + 1) (fun j => bkR (B1 j)))) ?_
    refine l_take (Blk xw (.cells [Value.slice S.wl S.N S.wc, .slice S.vl S.N S.vc, .slice S.rl S.M S.rc, .slice S.ql S.M S.qc, .slice S.ka8 S.K8 S.kc8, .slice ka1 (S.K + 1) kc1].toArray 51 (0, 0))) ?_
    refine l_call rfl Try.call61 rfl (keepw_ok _ _ xw _ _ _ _ _ ka1 (S.K + 1) kc1 B1 hB1 (by have := hS.hK; omega) a3 a5 (unpN nb) c3 c5 (unpB (List.replicate nb 78) (unpN nb)) (unpB_len _ _) (by have := unpN_le nb; omega) (W32s.of (unpB_w (U8s.rep _ (by decide)) _)) hz3 (h5.reads (unpB_len _ _) (by first | exact mem_getO 0 rfl | exact mem_getO 1 rfl | exact mem_getO 2 rfl | exact mem_getO 3 rfl | exact mem_getO 4 rfl | exact mem_getO 5 rfl | exact mem_getO 6 rfl | exact mem_getO 7 rfl | exact mem_getO 8 rfl | exact mem_getO 9 rfl | exact mem_getO 10 rfl | exact mem_getO 11 rfl | exact mem_getO 12 rfl | exact mem_getO 13 rfl | exact mem_getO 14 rfl | exact mem_getO 15 rfl | exact mem_getO 16 rfl | exact mem_getO 17 rfl | exact mem_getO 18 rfl | exact mem_getO 19 rfl | exact mem_getO 20 rfl | exact mem_getO 21 rfl | exact mem_getO 22 rfl | exact mem_getO 23 rfl | exact mem_getO 24 rfl | exact mem_getO 25 rfl))) ?_; rintro _ _ ⟨B2, ka2, kc2, rfl, hB2, hka2, rfl⟩
    refine l_assign rfl rfl ?_
    refine l_nil ?_
    refine g_seq ?_
    refine g_region ?_
    refine l_move rfl rfl ?_
    refine l_move rfl rfl ?_
    refine l_guard_yes rfl rfl ?_
    refine l_move rfl rfl ?_
    refine l_guard_yes rfl rfl ?_
    refine l_move rfl rfl ?_
    refine l_guard_yes rfl rfl ?_
    refine l_eql rfl rfl rfl ?_
    refine l_pick_t rfl rfl rfl ?_
    refine l_move rfl rfl ?_
    refine l_split 112 rfl ?_ ?_
    · intro hbr
      have hbr := of_decide_eq_true hbr
      refine l_guard_yes rfl rfl ?_
      refine l_move rfl rfl ?_
      refine l_pick_t rfl rfl rfl ?_
      refine l_move rfl rfl ?_
      refine l_guard_yes rfl rfl ?_
      refine l_move rfl rfl ?_
      refine l_pick_t rfl rfl rfl ?_
      refine l_move rfl rfl ?_
      refine l_guard_yes rfl rfl ?_
      refine l_move rfl rfl ?_
      refine l_guard_yes rfl rfl ?_
      refine l_move rfl rfl ?_
      refine l_guard_yes rfl rfl ?_
      refine l_eql rfl rfl rfl ?_
      refine l_pick_t rfl rfl rfl ?_
      refine l_assign rfl rfl ?_
      refine l_nil ?_
      refine g_ret Try.func20 rfl (.tmp rfl .nil) ?_
      exact Gives.mki ⟨⟨S.N, S.W, S.wl, S.wc, S.vl, S.vc, S.M, S.R, S.rl, S.rc, S.ql, S.qc, S.K8, S.B8, S.ka8, S.kc8, S.K + 1 + 1, B2, ka2, kc2⟩, (by first | rfl | exact congrArg Value.bool (decide_eq_true rfl) | (simp [resVal]; done)), ((hS.le (T2 := T + 8 + os.size) (by omega)).bk32 hB2 hka2 kc2 (by have := hS.hK; omega)), ⟨Nat.le_refl _, Nat.le_refl _⟩, rfl⟩
    · intro hbr
      have hbr := of_decide_eq_false hbr
      (exfalso; first | omega | (simp at hbr; done))
  intro hbr
  have hbr := of_decide_eq_false hbr
  refine g_seq ?_
  refine g_region ?_
  refine l_eql rfl rfl rfl ?_
  refine l_assign rfl rfl ?_
  refine l_nil ?_
  refine g_cond rfl ?_ ?_
  · intro hbr
    have hbr := of_decide_eq_true hbr
    refine g_seq ?_
    refine g_region ?_
    refine l_fieldAddr rfl fa_56_7 rfl ?_
    refine l_ld rfl Try.isAgg36 rfl rfl ?_
    refine l_call rfl Try.call49 rfl (lent_ok8 _ _ ba nb bc Z hZ.1 hZ.ir.ex (by omega) hZU) ?_; rintro _ _ ⟨g1, X, rfl, hX, rfl⟩
    refine l_assign rfl rfl ?_
    refine l_nil ?_
    refine g_seq ?_
    refine g_region ?_
    refine l_move rfl rfl ?_
    refine l_call rfl Try.call15 rfl (sum_ok _ _ (some ⟨g1, 0, none⟩) nb (nb + 9) Z ⟨hZ.1, .inr ⟨g1, 0, rfl, lent_row8 hX hZ.1 (by first | exact mem_getO 0 rfl | exact mem_getO 1 rfl | exact mem_getO 2 rfl | exact mem_getO 3 rfl | exact mem_getO 4 rfl | exact mem_getO 5 rfl | exact mem_getO 6 rfl | exact mem_getO 7 rfl | exact mem_getO 8 rfl | exact mem_getO 9 rfl | exact mem_getO 10 rfl | exact mem_getO 11 rfl | exact mem_getO 12 rfl | exact mem_getO 13 rfl | exact mem_getO 14 rfl | exact mem_getO 15 rfl | exact mem_getO 16 rfl | exact mem_getO 17 rfl | exact mem_getO 18 rfl | exact mem_getO 19 rfl | exact mem_getO 20 rfl | exact mem_getO 21 rfl | exact mem_getO 22 rfl | exact mem_getO 23 rfl | exact mem_getO 24 rfl | exact mem_getO 25 rfl)⟩⟩ hZU (by omega)) ?_; rintro _ _ ⟨rfl, rfl⟩
    refine l_assign rfl rfl ?_
    refine l_nil ?_
    refine g_seq ?_
    refine g_region ?_
    refine l_move rfl rfl ?_
    refine l_fieldAddr rfl fa_56_7 rfl ?_
    refine l_ld rfl Try.isAgg36 rfl rfl ?_
    refine l_take (Own 5 1 (.slice (some ⟨g1, 0, none⟩) (nb + 9) (nb + 9)) (nb + 9) (ints .u8 X)) ?_
    refine l_call rfl Try.call51 rfl (back2_ok8 _ _ g1 X ba nb bc Z hZ.1 hZ.ir.ex (by omega) hZU hX) ?_; rintro _ _ ⟨rfl, rfl⟩
    refine l_assign rfl rfl ?_
    refine l_nil ?_
    refine g_seq ?_
    refine g_region ?_
    refine l_move rfl rfl ?_
    refine l_call rfl Try.call15 rfl (sum_ok _ _ (some ⟨g1, 0, none⟩) nb (nb + 9) (List.replicate nb 78) (marks_ir (by first | exact mem_getO 0 rfl | exact mem_getO 1 rfl | exact mem_getO 2 rfl | exact mem_getO 3 rfl | exact mem_getO 4 rfl | exact mem_getO 5 rfl | exact mem_getO 6 rfl | exact mem_getO 7 rfl | exact mem_getO 8 rfl | exact mem_getO 9 rfl | exact mem_getO 10 rfl | exact mem_getO 11 rfl | exact mem_getO 12 rfl | exact mem_getO 13 rfl | exact mem_getO 14 rfl | exact mem_getO 15 rfl | exact mem_getO 16 rfl | exact mem_getO 17 rfl | exact mem_getO 18 rfl | exact mem_getO 19 rfl | exact mem_getO 20 rfl | exact mem_getO 21 rfl | exact mem_getO 22 rfl | exact mem_getO 23 rfl | exact mem_getO 24 rfl | exact mem_getO 25 rfl)) (.rep _ (by decide)) (by omega)) ?_; rintro _ _ ⟨rfl, rfl⟩
    refine l_assign rfl rfl ?_
    refine l_nil ?_
    refine g_seq ?_
    refine g_region ?_
    refine l_move rfl rfl ?_
    refine l_fieldAddr rfl fa_56_7 rfl ?_
    refine l_ld rfl Try.isAgg36 rfl rfl ?_
    refine l_call rfl Try.call62 rfl (rsum_ok _ _ ba nb bc Z hZ.ir.ex hZU (by omega)) ?_; rintro _ _ ⟨rfl, rfl⟩
    refine l_eql rfl rfl rfl ?_
    refine l_move rfl rfl ?_
    refine l_split 141 rfl ?_ ?_
    · intro hbr
      have hbr := of_decide_eq_true hbr
      refine l_guard_yes rfl rfl ?_
      refine l_move rfl rfl ?_
      refine l_pick_t rfl rfl rfl ?_
      refine l_move rfl rfl ?_
      refine l_guard_yes rfl rfl ?_
      refine l_move rfl rfl ?_
      refine l_guard_yes rfl rfl ?_
      refine l_move rfl rfl ?_
      refine l_guard_yes rfl rfl ?_
      refine l_call rfl Try.call62 rfl (rsum_ok _ _ (some ⟨g1, 0, none⟩) nb (nb + 9) (List.replicate nb 78) (marks_ir (by first | exact mem_getO 0 rfl | exact mem_getO 1 rfl | exact mem_getO 2 rfl | exact mem_getO 3 rfl | exact mem_getO 4 rfl | exact mem_getO 5 rfl | exact mem_getO 6 rfl | exact mem_getO 7 rfl | exact mem_getO 8 rfl | exact mem_getO 9 rfl | exact mem_getO 10 rfl | exact mem_getO 11 rfl | exact mem_getO 12 rfl | exact mem_getO 13 rfl | exact mem_getO 14 rfl | exact mem_getO 15 rfl | exact mem_getO 16 rfl | exact mem_getO 17 rfl | exact mem_getO 18 rfl | exact mem_getO 19 rfl | exact mem_getO 20 rfl | exact mem_getO 21 rfl | exact mem_getO 22 rfl | exact mem_getO 23 rfl | exact mem_getO 24 rfl | exact mem_getO 25 rfl)) (.rep _ (by decide)) (by omega)) ?_; rintro _ _ ⟨rfl, rfl⟩
      refine l_guard_yes rfl rfl ?_
      refine l_eql rfl rfl rfl ?_
      refine l_pick_t rfl rfl rfl ?_
      refine l_assign rfl rfl ?_
      refine l_nil ?_
      refine g_ret Try.func20 rfl (.tmp rfl .nil) ?_
      exact Gives.mki ⟨S, (by first | rfl | exact congrArg Value.bool (decide_eq_true rfl) | (simp [resVal]; done)), (hS.le (T2 := T + 8 + os.size) (by omega)), ⟨Nat.le_refl _, Nat.le_refl _⟩, rfl⟩
    · intro hbr
      have hbr := of_decide_eq_false hbr
      (exfalso; first | omega | (simp at hbr; done))
  intro hbr
  have hbr := of_decide_eq_false hbr
  refine g_skip ?_
  refine g_inBlock ?_
  refine g_seq ?_
  refine g_region ?_
  refine l_assign rfl rfl ?_
  refine l_nil ?_
  refine g_ret Try.func20 rfl (.tmp rfl .nil) ?_
  exact Gives.mki ⟨S, (by first | rfl | exact congrArg Value.bool (decide_eq_true rfl) | (simp [resVal]; done)), (hS.le (T2 := T + 8 + os.size) (by omega)), ⟨Nat.le_refl _, Nat.le_refl _⟩, rfl⟩
def S00 : WS := ⟨0, fun _ => ⟨0, 0, none, 0, 0, none, 0, 0, []⟩, none, 0, none, 0, 0, fun _ => ⟨0, 0, 0, 0, none, 0, 0, [], 0, 0⟩, none, 0, none, 0, 0, fun _ => ⟨none, 0, none, 0, 0, []⟩, none, 0, 0, fun _ => ⟨none, 0, none, 0, 0, []⟩, none, 0⟩
theorem s00_ok : SOk S00 0 := ⟨fun j hj => absurd hj (Nat.not_lt_zero _), fun j hj => absurd hj (Nat.not_lt_zero _), .inl rfl, .inl rfl, .inl rfl, .inl rfl, fun j hj => absurd hj (Nat.not_lt_zero _), .inl rfl, fun j hj => absurd hj (Nat.not_lt_zero _), .inl rfl, Nat.zero_le _, Nat.zero_le _, Nat.le_refl _, Nat.le_refl _⟩
theorem world0 {w0 : World} {F : List Atom} {w : World} {xw : Nat} (h : Holds w0 (Blk xw (.cells [Value.slice none 0 0, .slice none 0 0, .slice none 0 0, .slice none 0 0, .slice none 0 0, .slice none 0 0].toArray 51 (0, 0)) :: F) w) : Holds w0 (Blk xw (.cells [Value.slice S00.wl S00.N S00.wc, .slice S00.vl S00.N S00.vc, .slice S00.rl S00.M S00.rc, .slice S00.ql S00.M S00.qc, .slice S00.ka8 S00.K8 S00.kc8, .slice S00.ka S00.K S00.kc].toArray 51 (0, 0)) :: Own 61 1 (.slice S00.wl S00.N S00.wc) S00.N (ptrs S00.N fun j => (S00.W j).bw) :: Own 88 1 (.slice S00.vl S00.N S00.vc) S00.N (ptrs S00.N fun j => (S00.W j).bx) :: Own 69 1 (.slice S00.rl S00.M S00.rc) S00.M (ptrs S00.M fun j => (S00.R j).bq) :: Own 92 1 (.slice S00.ql S00.M S00.qc) S00.M (ptrs S00.M fun j => (S00.R j).by_) :: BigF S00.N (fun j => wrA (S00.W j)) :: BigF S00.M (fun j => rdA (S00.R j)) :: Own 102 4 (.slice S00.ka8 S00.K8 S00.kc8) S00.K8 (rowsN S00.K8 (fun j => bkR8 (S00.B8 j))) :: BigF S00.K8 (fun j => bkA8 (S00.B8 j)) :: Own 104 4 (.slice S00.ka S00.K S00.kc) S00.K (rowsN S00.K (fun j => bkR (S00.B j))) :: BigF S00.K (fun j => bkA (S00.B j)) :: F) w := by
  have h1 := (BigF.zero h (fun j => bkA (S00.B j))).own_nil 104 4
  have h2 := (BigF.zero h1 (fun j => bkA8 (S00.B8 j))).own_nil 102 4
  have h3 := BigF.zero (BigF.zero h2 (fun j => rdA (S00.R j))) (fun j => wrA (S00.W j))
  have h4 := (((h3.own_nil 92 1).own_nil 69 1).own_nil 88 1).own_nil 61 1
  have h5 : Holds w0 (Own 61 1 (.slice S00.wl S00.N S00.wc) S00.N (ptrs S00.N fun j => (S00.W j).bw) :: Own 88 1 (.slice S00.vl S00.N S00.vc) S00.N (ptrs S00.N fun j => (S00.W j).bx) :: Own 69 1 (.slice S00.rl S00.M S00.rc) S00.M (ptrs S00.M fun j => (S00.R j).bq) :: Own 92 1 (.slice S00.ql S00.M S00.qc) S00.M (ptrs S00.M fun j => (S00.R j).by_) :: BigF S00.N (fun j => wrA (S00.W j)) :: BigF S00.M (fun j => rdA (S00.R j)) :: Own 102 4 (.slice S00.ka8 S00.K8 S00.kc8) S00.K8 (rowsN S00.K8 (fun j => bkR8 (S00.B8 j))) :: BigF S00.K8 (fun j => bkA8 (S00.B8 j)) :: Own 104 4 (.slice S00.ka S00.K S00.kc) S00.K (rowsN S00.K (fun j => bkR (S00.B j))) :: BigF S00.K (fun j => bkA (S00.B j)) :: Blk xw (.cells [Value.slice S00.wl S00.N S00.wc, .slice S00.vl S00.N S00.vc, .slice S00.rl S00.M S00.rc, .slice S00.ql S00.M S00.qc, .slice S00.ka8 S00.K8 S00.kc8, .slice S00.ka S00.K S00.kc].toArray 51 (0, 0)) :: F) w := h4
  exact SPI.holds h5
theorem ra_nil {w0 : World} {F : List Atom} {kd : IntKind} : RA w0 F kd none 0 0 [] := ⟨rfl, .inl ⟨rfl, fun _ => rfl⟩⟩
theorem weight_ok (w0 : World) (F : List Atom) (kd : Int) (kd0 : -9223372036854775808 ≤ kd) (kd1 : kd ≤ 9223372036854775807) (who : Int) (who0 : -9223372036854775808 ≤ who) (who1 : who ≤ 9223372036854775807) (oa : Int) (oa0 : -9223372036854775808 ≤ oa) (oa1 : oa ≤ 9223372036854775807) (ob : Int) (ob0 : -9223372036854775808 ≤ ob) (ob1 : ob ≤ 9223372036854775807) (ow : Int) (ow0 : 0 ≤ ow) (ow1 : ow ≤ 4294967295) (ov : Int) (ov0 : 0 ≤ ov) (ov1 : ov ≤ 4294967295) (on : Int) (on0 : 0 ≤ on) (on1 : on ≤ 18446744073709551615) (ba : Option Addr) (nb bc : Nat) (Z : List Int) (hZ : RA w0 F .u8 ba nb bc Z) (hbc : nb ≤ bc) (hZU : U8s Z) (wa : Option Addr) (nw wc : Nat) (Y : List Int) (hY : RA w0 F .u32 wa nw wc Y) (hYU : W32s Y) (os : ByteArray) (hn0 : nb ≤ 9223372036854775807 ∧ nw ≤ 9223372036854775807 ∧ os.size ≤ 9223372036854775807) :
    CallK Try.prog 18 [.agg [Value.int .i64 kd, .int .i64 who, .int .i64 oa, .int .i64 ob, .int .u32 ow, .int .u32 ov, .int .u64 on, .slice ba nb bc, .slice wa nw wc, .string os].toArray] w0 (F) (Gives w0 fun v F2 => ∃ x : Int, v = .int .i64 x ∧ (8 ≤ x ∧ x ≤ 8589934600) ∧ Hid (x ≤ 2147483647 → (os.size ≤ 2147483647 ∧ nb ≤ 2147483647 ∧ nw ≤ 536870911) ∧ x = 8 + os.size + nb + 4 * nw) ∧ F2 = F) := by
  refine c_enter Try.func18 rfl rfl rfl ?_
  refine g_seq ?_
  refine g_region ?_
  refine l_boxs rfl rfl ?_; intro b1
  refine l_assign rfl rfl ?_
  refine l_nil ?_
  refine g_seq ?_
  refine g_seq ?_
  refine g_region ?_
  refine l_fieldAddr rfl fa_56_9 rfl ?_
  refine l_ld rfl Try.isAgg9 rfl rfl ?_
  refine l_lens rfl Try.underlying9 rfl ?_
  refine l_gtr rfl rfl rfl ?_
  refine l_move rfl rfl ?_
  refine l_split 7 rfl ?_ ?_
  · intro hbr
    have hbr := of_decide_eq_true hbr
    refine l_guard_no rfl rfl rfl ?_
    refine l_guard_no rfl rfl rfl ?_
    refine l_guard_no rfl rfl rfl ?_
    refine l_guard_no rfl rfl rfl ?_
    refine l_pick_t rfl rfl rfl ?_
    refine l_move rfl rfl ?_
    refine l_guard_no rfl rfl rfl ?_
    refine l_guard_no rfl rfl rfl ?_
    refine l_guard_no rfl rfl rfl ?_
    refine l_guard_no rfl rfl rfl ?_
    refine l_pick_t rfl rfl rfl ?_
    refine l_nil ?_
    first | refine g_cond_t rfl ?_ | refine g_cond_t (congrArg (fun b => some (Value.bool b)) (decide_eq_true hbr)) ?_
    refine g_seq ?_
    refine g_region ?_
    refine l_assign rfl rfl ?_
    refine l_nil ?_
    refine g_ret Try.func18 rfl (.tmp rfl .nil) ?_
    (first | exact Gives.mki ⟨_, rfl, ⟨by omega, by omega⟩, ⟨fun h => absurd h (by decide)⟩, rfl⟩ | exact Gives.mki ⟨_, rfl, ⟨by omega, by omega⟩, ⟨fun h => ⟨⟨by omega, by omega, by omega⟩, by omega⟩⟩, rfl⟩)
  intro hbr
  have hbr := of_decide_eq_false hbr
  refine l_guard_yes rfl rfl ?_
  refine l_fieldAddr rfl fa_56_7 rfl ?_
  refine l_guard_yes rfl rfl ?_
  refine l_ld rfl Try.isAgg36 rfl rfl ?_
  refine l_guard_yes rfl rfl ?_
  refine l_len rfl Try.underlying36 rfl ?_
  refine l_guard_yes rfl rfl ?_
  refine l_gtr rfl rfl rfl ?_
  refine l_pick_f rfl rfl rfl ?_
  refine l_move rfl rfl ?_
  refine l_split 13 rfl ?_ ?_
  · intro hbr
    have hbr := of_decide_eq_true hbr
    refine l_guard_no rfl rfl rfl ?_
    refine l_guard_no rfl rfl rfl ?_
    refine l_guard_no rfl rfl rfl ?_
    refine l_guard_no rfl rfl rfl ?_
    refine l_pick_t rfl rfl rfl ?_
    refine l_nil ?_
    first | refine g_cond_t rfl ?_ | refine g_cond_t (congrArg (fun b => some (Value.bool b)) (decide_eq_true hbr)) ?_
    refine g_seq ?_
    refine g_region ?_
    refine l_assign rfl rfl ?_
    refine l_nil ?_
    refine g_ret Try.func18 rfl (.tmp rfl .nil) ?_
    (first | exact Gives.mki ⟨_, rfl, ⟨by omega, by omega⟩, ⟨fun h => absurd h (by decide)⟩, rfl⟩ | exact Gives.mki ⟨_, rfl, ⟨by omega, by omega⟩, ⟨fun h => ⟨⟨by omega, by omega, by omega⟩, by omega⟩⟩, rfl⟩)
  intro hbr
  have hbr := of_decide_eq_false hbr
  refine l_guard_yes rfl rfl ?_
  refine l_fieldAddr rfl fa_56_8 rfl ?_
  refine l_guard_yes rfl rfl ?_
  refine l_ld rfl Try.isAgg54 rfl rfl ?_
  refine l_guard_yes rfl rfl ?_
  refine l_len rfl Try.underlying54 rfl ?_
  refine l_guard_yes rfl rfl ?_
  refine l_gtr rfl rfl rfl ?_
  refine l_pick_f rfl rfl rfl ?_
  refine l_nil ?_
  refine g_cond rfl ?_ ?_
  · intro hbr
    have hbr := of_decide_eq_true hbr
    refine g_seq ?_
    refine g_region ?_
    refine l_assign rfl rfl ?_
    refine l_nil ?_
    refine g_ret Try.func18 rfl (.tmp rfl .nil) ?_
    (first | exact Gives.mki ⟨_, rfl, ⟨by omega, by omega⟩, ⟨fun h => absurd h (by decide)⟩, rfl⟩ | exact Gives.mki ⟨_, rfl, ⟨by omega, by omega⟩, ⟨fun h => ⟨⟨by omega, by omega, by omega⟩, by omega⟩⟩, rfl⟩)
  intro hbr
  have hbr := of_decide_eq_false hbr
  refine g_skip ?_
  refine g_seq ?_
  refine g_region ?_
  refine l_fieldAddr rfl fa_56_9 rfl ?_
  refine l_ld rfl Try.isAgg9 rfl rfl ?_
  refine l_lens rfl Try.underlying9 rfl ?_
  first | refine l_add rfl rfl rfl (w_i64 (by omega) (by omega)) ?_ | refine l_addw rfl rfl rfl ?_
  refine l_fieldAddr rfl fa_56_7 rfl ?_
  refine l_ld rfl Try.isAgg36 rfl rfl ?_
  refine l_len rfl Try.underlying36 rfl ?_
  first | refine l_add rfl rfl rfl (w_i64 (by omega) (by omega)) ?_ | refine l_addw rfl rfl rfl ?_
  refine l_fieldAddr rfl fa_56_8 rfl ?_
  refine l_ld rfl Try.isAgg54 rfl rfl ?_
  refine l_len rfl Try.underlying54 rfl ?_
  first | refine l_mul rfl rfl rfl (w_i64 (by omega) (by omega)) ?_ | refine l_mulw rfl rfl rfl ?_
  first | refine l_add rfl rfl rfl (w_i64 (by omega) (by omega)) ?_ | refine l_addw rfl rfl rfl ?_
  refine l_assign rfl rfl ?_
  refine l_nil ?_
  refine g_ret Try.func18 rfl (.tmp rfl .nil) ?_
  (first | exact Gives.mki ⟨_, rfl, ⟨by omega, by omega⟩, ⟨fun h => absurd h (by decide)⟩, rfl⟩ | exact Gives.mki ⟨_, rfl, ⟨by omega, by omega⟩, ⟨fun h => ⟨⟨by omega, by omega, by omega⟩, by omega⟩⟩, rfl⟩)
theorem vis_s56 {w : World} {r : List Value} (h : Vis Try.prog w 56 r) : ∃ (x0 : Int) (x1 : Int) (x2 : Int) (x3 : Int) (x4 : Int) (x5 : Int) (x6 : Int) (x7 : Option Addr) (n7 c7 : Nat) (X7 : List Int) (x8 : Option Addr) (n8 c8 : Nat) (X8 : List Int) (x9 : ByteArray), r = [.int .i64 x0, .int .i64 x1, .int .i64 x2, .int .i64 x3, .int .u32 x4, .int .u32 x5, .int .u64 x6, .slice x7 n7 c7, .slice x8 n8 c8, .string x9] ∧ (Lit.int .i64 x0).wf = true ∧ (Lit.int .i64 x1).wf = true ∧ (Lit.int .i64 x2).wf = true ∧ (Lit.int .i64 x3).wf = true ∧ (Lit.int .u32 x4).wf = true ∧ (Lit.int .u32 x5).wf = true ∧ (Lit.int .u64 x6).wf = true ∧ (n7 ≤ c7 ∧ c7 ≤ maxLen ∧ X7.length = n7 ∧ (∀ x ∈ X7, (Lit.int .u8 x).wf = true) ∧ ((n7 = 0 ∧ (x7 = none → c7 = 0)) ∨ ∃ b o, x7 = some ⟨b, o, none⟩ ∧ ∀ (j : Nat) u, (ints .u8 X7)[j]? = some u → w.cell? ⟨b, o + j, none⟩ = some u)) ∧ (n8 ≤ c8 ∧ c8 ≤ maxLen ∧ X8.length = n8 ∧ (∀ x ∈ X8, (Lit.int .u32 x).wf = true) ∧ ((n8 = 0 ∧ (x8 = none → c8 = 0)) ∨ ∃ b o, x8 = some ⟨b, o, none⟩ ∧ ∀ (j : Nat) u, (ints .u32 X8)[j]? = some u → w.cell? ⟨b, o + j, none⟩ = some u)) ∧ x9.size ≤ maxLen := by
  obtain ⟨hl, hf⟩ := vis_struct Try.underlying56 h
  have hc : Try.prog.cellsOf 56 = 10 := by kernel_rfl
  have cc23 : Try.prog.cellsOf 23 = 1 := by kernel_rfl
  have cc3 : Try.prog.cellsOf 3 = 1 := by kernel_rfl
  have cc36 : Try.prog.cellsOf 36 = 1 := by kernel_rfl
  have cc53 : Try.prog.cellsOf 53 = 1 := by kernel_rfl
  have cc54 : Try.prog.cellsOf 54 = 1 := by kernel_rfl
  have cc9 : Try.prog.cellsOf 9 = 1 := by kernel_rfl
  match r, hl.trans hc with
  | [z0, z1, z2, z3, z4, z5, z6, z7, z8, z9], _ =>
    obtain ⟨x0, e0, w0⟩ := vis_int Try.underlying3 (hf 0 _ rfl)
    obtain ⟨x1, e1, w1⟩ := vis_int Try.underlying3 (hf 1 _ rfl)
    obtain ⟨x2, e2, w2⟩ := vis_int Try.underlying3 (hf 2 _ rfl)
    obtain ⟨x3, e3, w3⟩ := vis_int Try.underlying3 (hf 3 _ rfl)
    obtain ⟨x4, e4, w4⟩ := vis_int Try.underlying23 (hf 4 _ rfl)
    obtain ⟨x5, e5, w5⟩ := vis_int Try.underlying23 (hf 5 _ rfl)
    obtain ⟨x6, e6, w6⟩ := vis_int Try.underlying53 (hf 6 _ rfl)
    obtain ⟨x7, n7, c7, X7, e7, w7⟩ := vis_ints Try.underlying36 Try.underlying5 (by kernel_rfl) (hf 7 _ rfl)
    obtain ⟨x8, n8, c8, X8, e8, w8⟩ := vis_ints Try.underlying54 Try.underlying23 (by kernel_rfl) (hf 8 _ rfl)
    obtain ⟨x9, e9, w9⟩ := vis_string Try.underlying9 (hf 9 _ rfl)
    simp [cc23, cc3, cc36, cc53, cc54, cc9] at e0 e1 e2 e3 e4 e5 e6 e7 e8 e9
    subst e0 e1 e2 e3 e4 e5 e6 e7 e8 e9
    exact ⟨x0, x1, x2, x3, x4, x5, x6, x7, n7, c7, X7, x8, n8, c8, X8, x9, rfl, w0, w1, w2, w3, w4, w5, w6, w7, w8, w9⟩
structure OpR where
  kd : Int
  who : Int
  oa : Int
  ob : Int
  ow : Int
  ov : Int
  on : Int
  ba : Option Addr
  bc : Nat
  Z : List Int
  wa : Option Addr
  wc : Nat
  Y : List Int
  os : ByteArray
def opRow (r : OpR) : List Value := [.int .i64 r.kd, .int .i64 r.who, .int .i64 r.oa, .int .i64 r.ob, .int .u32 r.ow, .int .u32 r.ov, .int .u64 r.on, .slice r.ba r.Z.length r.bc, .slice r.wa r.Y.length r.wc, .string r.os]
structure OpOk (w0 : World) (F : List Atom) (r : OpR) : Prop where
  kd : -9223372036854775808 ≤ r.kd ∧ r.kd ≤ 9223372036854775807
  who : -9223372036854775808 ≤ r.who ∧ r.who ≤ 9223372036854775807
  oa : -9223372036854775808 ≤ r.oa ∧ r.oa ≤ 9223372036854775807
  ob : -9223372036854775808 ≤ r.ob ∧ r.ob ≤ 9223372036854775807
  ow : 0 ≤ r.ow ∧ r.ow ≤ 4294967295
  ov : 0 ≤ r.ov ∧ r.ov ≤ 4294967295
  on : 0 ≤ r.on ∧ r.on ≤ 18446744073709551615
  z : RA w0 F .u8 r.ba r.Z.length r.bc r.Z
  bc : r.Z.length ≤ r.bc
  zu : U8s r.Z
  y : RA w0 F .u32 r.wa r.Y.length r.wc r.Y
  yu : W32s r.Y
  n0 : r.Z.length ≤ 9223372036854775807 ∧ r.Y.length ≤ 9223372036854775807 ∧ r.os.size ≤ 9223372036854775807
theorem op_at {w0 : World} {F : List Atom} {L : List OpR} (h : ∀ r ∈ L, OpOk w0 F r) {i : Nat} (hi : i < L.length) : ∃ r, (L.map opRow)[i]? = some (opRow r) ∧ OpOk w0 F r :=
  ⟨L[i], by simp [hi], h _ (List.getElem_mem _)⟩
theorem op_len (L : List OpR) : ∀ r ∈ L.map opRow, r.length = 10 := by
  intro r hr
  obtain ⟨o, _, rfl⟩ := List.mem_map.1 hr
  rfl
theorem ra_old {W : World} {kd : IntKind} {a : Option Addr} {n c : Nat} {X : List Int} (hl : X.length = n) (hx : (n = 0 ∧ (a = none → c = 0)) ∨ ∃ b o, a = some ⟨b, o, none⟩ ∧ ∀ (j : Nat) u, (ints kd X)[j]? = some u → W.cell? ⟨b, o + j, none⟩ = some u) : RA W [Old W] kd a n c X := by
  refine ⟨hl, ?_⟩
  rcases hx with h | ⟨b, o, h, hr⟩
  · exact .inl h
  · exact .inr ⟨b, o, h, RowAt.old (by simp) hr⟩
theorem vis_op {w : World} {r : List Value} (h : Vis Try.prog w 56 r) : ∃ o, r = opRow o ∧ OpOk w [Old w] o := by
  obtain ⟨a, b, c, d, e, f, g, za, zn, zc, Z, ya, yn, yc, Y, os, rfl, w0, w1, w2, w3, w4, w5, w6, ⟨z1, z2, z3, z4, z5⟩, ⟨y1, y2, y3, y4, y5⟩, s1⟩ := vis_s56 h
  subst z3 y3
  exact ⟨⟨a, b, c, d, e, f, g, za, zc, Z, ya, yc, Y, os⟩, rfl, wf_i64 w0, wf_i64 w1, wf_i64 w2, wf_i64 w3, wf_u32 w4, wf_u32 w5, wf_u64 w6, ra_old rfl z5, z1, U8s.of fun x hx => wf_u8 (z4 x hx), ra_old rfl y5, W32s.of fun x hx => wf_u32 (y4 x hx), Nat.le_trans z1 z2, Nat.le_trans y1 y2, s1⟩
set_option maxHeartbeats 16000000 in
theorem exact_ok (w0 : World) (F : List Atom) (qa : Option Addr) (qn qc : Nat) (Q : List OpR) (hQn : Q.length = qn) (hqn : qn ≤ 9223372036854775807) (hQ : qn = 0 ∨ ∃ b o, qa = some ⟨b, o, none⟩ ∧ RowAt w0 F b o (Q.map opRow).flatten) (hQo : ∀ r ∈ Q, OpOk w0 F r) :
    CallK Try.prog 7 [.slice qa qn qc] w0 (F) (Gives w0 fun v F2 => v = .bool true ∧ F2 = F) := by
  refine c_enter Try.func7 rfl rfl rfl ?_
  refine g_seq ?_
  refine g_region ?_
  refine l_assign rfl rfl ?_
  refine l_nil ?_
  refine g_seq ?_
  refine g_region ?_
  refine l_call rfl Try.call9 rfl (fixed_ok _ _) ?_; rintro _ F9 ⟨rfl, hF9⟩; rw [hF9]; clear hF9 F9
  refine l_assign rfl rfl ?_
  refine l_nil ?_
  refine g_seq ?_
  refine g_region ?_
  refine l_call rfl Try.call16 rfl (nobody_ok _ _) ?_; rintro _ F9 ⟨rfl, hF9⟩; rw [hF9]; clear hF9 F9
  refine l_assign rfl rfl ?_
  refine l_nil ?_
  refine g_seq ?_
  refine g_seq ?_
  refine g_region ?_
  refine l_move rfl rfl ?_
  refine l_not rfl rfl ?_
  refine l_move rfl rfl ?_
  refine l_guard_yes rfl rfl ?_
  refine l_move rfl rfl ?_
  refine l_guard_yes rfl rfl ?_
  refine l_not rfl rfl ?_
  refine l_pick_f rfl rfl rfl ?_
  refine l_nil ?_
  first | refine g_cond_f rfl ?_ | refine g_cond_f (congrArg (fun b => some (Value.bool b)) (decide_eq_false hbr)) ?_
  refine g_skip ?_
  refine g_seq ?_
  refine g_region ?_
  refine l_build rfl rfl (fun w => bd_51_z w) ?_
  refine l_boxs rfl rfl ?_; intro b19
  refine l_assign rfl rfl ?_
  refine l_nil ?_
  refine g_seq ?_
  refine g_region ?_
  refine gl_heap (fun w hw => world0 (xw := b19) hw) ?_
  have hz0 : (ByteArray.mk #[]).size = 0 := rfl
  refine l_move rfl rfl ?_
  refine l_build rfl rfl (fun w => bd_56_0 _ w) ?_
  refine l_take (BigF S00.K (fun j => bkA (S00.B j))) ?_
  refine l_take (Own 104 4 (.slice S00.ka S00.K S00.kc) S00.K (rowsN S00.K (fun j => bkR (S00.B j)))) ?_
  refine l_take (BigF S00.K8 (fun j => bkA8 (S00.B8 j))) ?_
  refine l_take (Own 102 4 (.slice S00.ka8 S00.K8 S00.kc8) S00.K8 (rowsN S00.K8 (fun j => bkR8 (S00.B8 j)))) ?_
  refine l_take (BigF S00.M (fun j => rdA (S00.R j))) ?_
  refine l_take (BigF S00.N (fun j => wrA (S00.W j))) ?_
  refine l_take (Own 92 1 (.slice S00.ql S00.M S00.qc) S00.M (ptrs S00.M fun j => (S00.R j).by_)) ?_
  refine l_take (Own 69 1 (.slice S00.rl S00.M S00.rc) S00.M (ptrs S00.M fun j => (S00.R j).bq)) ?_
  refine l_take (Own 88 1 (.slice S00.vl S00.N S00.vc) S00.N (ptrs S00.N fun j => (S00.W j).bx)) ?_
  refine l_take (Own 61 1 (.slice S00.wl S00.N S00.wc) S00.N (ptrs S00.N fun j => (S00.W j).bw)) ?_
  refine l_take (Blk b19 (.cells [Value.slice S00.wl S00.N S00.wc, .slice S00.vl S00.N S00.vc, .slice S00.rl S00.M S00.rc, .slice S00.ql S00.M S00.qc, .slice S00.ka8 S00.K8 S00.kc8, .slice S00.ka S00.K S00.kc].toArray 51 (0, 0))) ?_
  refine l_call rfl Try.call17 rfl (begins_w _ _ b19 S00 0 s00_ok (by decide) 8 (by decide) (by decide) 0 (by decide) (by decide) 0 (by decide) (by decide) 0 (by decide) (by decide) 0 (by decide) (by decide) 0 (by decide) (by decide) 0 (by decide) (by decide) none 0 0 [] ra_nil (Nat.le_refl _) (fun i => by simp) none 0 0 [] ra_nil (fun i => by simp) _ ⟨by first | decide | (simp; done) | omega, by decide, by decide⟩ rfl) ?_; rintro _ _ ⟨S1, rfl, hS1, hN1, ⟨hk1, _⟩, rfl⟩
  obtain ⟨hn1, hm1⟩ := hk1 rfl
  clear hk1
  have hn1 : S1.N = 1 := hn1
  have hm1 : S1.M = 0 := hm1
  refine l_assign rfl rfl ?_
  refine l_nil ?_
  refine g_seq ?_
  refine g_seq ?_
  refine g_region ?_
  refine l_move rfl rfl ?_
  refine l_not rfl rfl ?_
  refine l_nil ?_
  first | refine g_cond_f rfl ?_ | refine g_cond_f (congrArg (fun b => some (Value.bool b)) (decide_eq_false hbr)) ?_
  refine g_skip ?_
  refine g_seq ?_
  refine g_region ?_
  refine l_move rfl rfl ?_
  refine l_buildSlice rfl Try.underlying36 Try.sizeOf5 Try.zeroValue5 rfl rfl rfl rfl rfl rfl ?_; intro b26
  refine l_build rfl rfl (fun w => bd_56_0_7 _ _ _ _ w) ?_
  refine l_take (BigF S1.K (fun j => bkA (S1.B j))) ?_
  refine l_take (Own 104 4 (.slice S1.ka S1.K S1.kc) S1.K (rowsN S1.K (fun j => bkR (S1.B j)))) ?_
  refine l_take (BigF S1.K8 (fun j => bkA8 (S1.B8 j))) ?_
  refine l_take (Own 102 4 (.slice S1.ka8 S1.K8 S1.kc8) S1.K8 (rowsN S1.K8 (fun j => bkR8 (S1.B8 j)))) ?_
  refine l_take (BigF S1.M (fun j => rdA (S1.R j))) ?_
  refine l_take (BigF S1.N (fun j => wrA (S1.W j))) ?_
  refine l_take (Own 92 1 (.slice S1.ql S1.M S1.qc) S1.M (ptrs S1.M fun j => (S1.R j).by_)) ?_
  refine l_take (Own 69 1 (.slice S1.rl S1.M S1.rc) S1.M (ptrs S1.M fun j => (S1.R j).bq)) ?_
  refine l_take (Own 88 1 (.slice S1.vl S1.N S1.vc) S1.N (ptrs S1.N fun j => (S1.W j).bx)) ?_
  refine l_take (Own 61 1 (.slice S1.wl S1.N S1.wc) S1.N (ptrs S1.N fun j => (S1.W j).bw)) ?_
  refine l_take (Blk b19 (.cells [Value.slice S1.wl S1.N S1.wc, .slice S1.vl S1.N S1.vc, .slice S1.rl S1.M S1.rc, .slice S1.ql S1.M S1.qc, .slice S1.ka8 S1.K8 S1.kc8, .slice S1.ka S1.K S1.kc].toArray 51 (0, 0))) ?_
  refine l_call rfl Try.call17 rfl (begins_ok _ _ b19 S1 8 (hS1.le (by first | decide | (simp; done) | omega)) (by decide) (by omega) 14 (by decide) (by decide) 0 (by decide) (by decide) 0 (by decide) (by decide) 0 (by decide) (by decide) 0 (by decide) (by decide) 0 (by decide) (by decide) 0 (by decide) (by decide) (some ⟨b26, 0, none⟩) 3 3 [7, 0, 1] ⟨rfl, .inr ⟨b26, 0, rfl, RowAt.own (E := 5) (sz := 1) (cap := 3) (n := 3) (by first | exact mem_getO 0 rfl | exact mem_getO 1 rfl | exact mem_getO 2 rfl | exact mem_getO 3 rfl | exact mem_getO 4 rfl | exact mem_getO 5 rfl | exact mem_getO 6 rfl | exact mem_getO 7 rfl | exact mem_getO 8 rfl | exact mem_getO 9 rfl | exact mem_getO 10 rfl | exact mem_getO 11 rfl | exact mem_getO 12 rfl | exact mem_getO 13 rfl | exact mem_getO 14 rfl | exact mem_getO 15 rfl | exact mem_getO 16 rfl | exact mem_getO 17 rfl | exact mem_getO 18 rfl | exact mem_getO 19 rfl | exact mem_getO 20 rfl | exact mem_getO 21 rfl | exact mem_getO 22 rfl | exact mem_getO 23 rfl | exact mem_getO 24 rfl | exact mem_getO 25 rfl)⟩⟩ (Nat.le_refl _) (fun i => by rcases i with _ | _ | _ | i <;> simp) none 0 0 [] ra_nil (fun i => by simp) _ ⟨by first | decide | (simp; done) | omega, by decide, by decide⟩) ?_; rintro _ _ ⟨S2, rfl, hS2, hN2, ⟨_, hk2⟩, rfl⟩
  obtain ⟨hn2, hm2⟩ := hk2 (by decide)
  clear hk2
  refine l_assign rfl rfl ?_
  refine l_nil ?_
  refine g_seq ?_
  refine g_seq ?_
  refine g_region ?_
  refine l_move rfl rfl ?_
  refine l_not rfl rfl ?_
  refine l_nil ?_
  first | refine g_cond_f rfl ?_ | refine g_cond_f (congrArg (fun b => some (Value.bool b)) (decide_eq_false hbr)) ?_
  refine g_skip ?_
  refine g_seq ?_
  refine g_region ?_
  refine l_assign rfl rfl ?_
  refine l_nil ?_
  refine g_seq ?_
  refine g_seq ?_
  refine g_region ?_
  refine l_assign rfl rfl ?_
  refine l_nil ?_
  refine g_block ?_
  refine g_loopk (X := Int × Int × WS) [(0, _), (5, _)] (.cons rfl (.cons rfl (.nil))) (fun z => (0 ≤ z.1 ∧ z.1 ≤ Q.length) ∧ (0 ≤ z.2.1 ∧ z.2.1 ≤ 2147483647) ∧ SOk z.2.2 (z.2.1.toNat + 16) ∧ 1 ≤ z.2.2.N ∧ 1 ≤ z.2.2.M) (fun z => ((Q.length : Int) - z.1).toNat) (fun z => [(6, .bool true), (7, .int .i64 z.2.1), (8, .int .i64 z.1)]) (fun z => Blk b19 (.cells [Value.slice z.2.2.wl z.2.2.N z.2.2.wc, .slice z.2.2.vl z.2.2.N z.2.2.vc, .slice z.2.2.rl z.2.2.M z.2.2.rc, .slice z.2.2.ql z.2.2.M z.2.2.qc, .slice z.2.2.ka8 z.2.2.K8 z.2.2.kc8, .slice z.2.2.ka z.2.2.K z.2.2.kc].toArray 51 (0, 0)) :: Own 61 1 (.slice z.2.2.wl z.2.2.N z.2.2.wc) z.2.2.N (ptrs z.2.2.N fun j => (z.2.2.W j).bw) :: Own 88 1 (.slice z.2.2.vl z.2.2.N z.2.2.vc) z.2.2.N (ptrs z.2.2.N fun j => (z.2.2.W j).bx) :: Own 69 1 (.slice z.2.2.rl z.2.2.M z.2.2.rc) z.2.2.M (ptrs z.2.2.M fun j => (z.2.2.R j).bq) :: Own 92 1 (.slice z.2.2.ql z.2.2.M z.2.2.qc) z.2.2.M (ptrs z.2.2.M fun j => (z.2.2.R j).by_) :: BigF z.2.2.N (fun j => wrA (z.2.2.W j)) :: BigF z.2.2.M (fun j => rdA (z.2.2.R j)) :: Own 102 4 (.slice z.2.2.ka8 z.2.2.K8 z.2.2.kc8) z.2.2.K8 (rowsN z.2.2.K8 (fun j => bkR8 (z.2.2.B8 j))) :: BigF z.2.2.K8 (fun j => bkA8 (z.2.2.B8 j)) :: Own 104 4 (.slice z.2.2.ka z.2.2.K z.2.2.kc) z.2.2.K (rowsN z.2.2.K (fun j => bkR (z.2.2.B j))) :: BigF z.2.2.K (fun j => bkA (z.2.2.B j)) :: F) ((0, 0, S2)) (⟨⟨by simp only; omega, by simp only; omega⟩, ⟨by simp only; omega, by simp only; omega⟩, hS2.le (by simp only; omega), by simp only; omega, by simp only; omega⟩) (.cons rfl (.cons rfl (.cons rfl .nil))) (fun w hw => SPI.holds hw) ?_
  rintro ⟨i, tt, S⟩ ⟨⟨i0, i1⟩, ⟨t0, t1⟩, hS, hN, hM⟩ ih
  dsimp only [List.cons_append, List.nil_append] at ih ⊢
  simp only at i0 i1 t0 t1 hS hN hM
  refine g_seq ?_
  refine g_seq ?_
  refine g_region ?_
  refine l_move rfl rfl ?_
  refine l_move rfl rfl ?_
  refine l_len rfl Try.underlying40 rfl ?_
  refine l_lss rfl rfl rfl ?_
  refine l_nil ?_
  refine g_cond rfl ?_ ?_
  · intro hbr
    have hbr := of_decide_eq_true hbr
    refine g_skip ?_
    refine g_seq ?_
    refine g_block ?_
    refine g_seq ?_
    refine g_region ?_
    refine l_move rfl rfl ?_
    refine l_move rfl rfl ?_
    obtain ⟨bo, oo, rfl, hro⟩ := hQ.resolve_left (by omega)
    obtain ⟨⟨kd, who, oa, ob, ow, ov, on, ba, bc, Z, wa, wc, Y, os⟩, hop, hkd, hwho, hoa, hob, how, hov, hon, hRZ, hbc, hZU, hRY, hYU, hn0⟩ := op_at hQo (i := i.toNat) (by omega)
    simp only at hkd hwho hoa hob how hov hon hRZ hbc hZU hRY hYU hn0
    refine l_ixs rfl Try.underlying40 Try.sizeOf56 rfl rfl (by omega) (by omega) ?_
    refine l_loadr (l := [Value.int .i64 kd, .int .i64 who, .int .i64 oa, .int .i64 ob, .int .u32 ow, .int .u32 ov, .int .u64 on, .slice ba Z.length bc, .slice wa Y.length wc, .string os]) rfl Try.isAgg56 Try.sizeOf56 rfl rfl (row_elem hro.ex (op_len Q) hop) ?_
    refine l_allocs rfl Try.zeroValue56 ?_; intro b9
    refine l_sts Try.sizeOf56 rfl rfl rfl rfl rfl ?_
    refine l_nil ?_
    refine g_seq ?_
    refine g_region ?_
    refine l_move rfl rfl ?_
    refine l_lds rfl Try.isAgg56 Try.sizeOf56 rfl rfl ?_
    refine l_call rfl Try.call18 rfl (weight_ok _ _ kd hkd.1 hkd.2 who hwho.1 hwho.2 oa hoa.1 hoa.2 ob hob.1 hob.2 ow how.1 how.2 ov hov.1 hov.2 on hon.1 hon.2 ba Z.length bc Z hRZ.ex hbc hZU wa Y.length wc Y hRY.ex hYU os hn0) ?_; rintro _ _ ⟨wx, rfl, hwb, hwx, rfl⟩
    first | refine l_add rfl rfl rfl (w_i64 (by omega) (by omega)) ?_ | refine l_addw rfl rfl rfl ?_
    refine l_assign rfl rfl ?_
    refine l_nil ?_
    refine g_seq ?_
    refine g_seq ?_
    refine g_region ?_
    refine l_move rfl rfl ?_
    refine l_gtr rfl rfl rfl ?_
    refine l_nil ?_
    refine g_cond rfl ?_ ?_
    · intro hbr
      have hbr := of_decide_eq_true hbr
      refine g_seq ?_
      refine g_region ?_
      refine l_assign rfl rfl ?_
      refine l_nil ?_
      refine g_ret Try.func7 rfl (.tmp rfl .nil) ?_
      exact Gives.mki ⟨(by first | rfl | exact congrArg Value.bool (decide_eq_true rfl) | (simp [resVal]; done)), rfl⟩
    intro hbr
    have hbr := of_decide_eq_false hbr
    refine g_skip ?_
    refine g_seq ?_
    refine g_block ?_
    refine g_seq ?_
    refine g_region ?_
    obtain ⟨hwt, hxe⟩ := hwx.out (by omega)
    clear hwx
    refine l_fieldAddr rfl fa_56_0 rfl ?_
    first | refine l_ld rfl Try.isAgg3 rfl rfl ?_ | refine l_ldw rfl Try.isAgg3 rfl (by omega) ?_
    refine l_leq rfl rfl rfl ?_
    refine l_assign rfl rfl ?_
    refine l_nil ?_
    refine g_cond rfl ?_ ?_
    · intro hbr
      have hbr := of_decide_eq_true hbr
      refine g_region ?_
      refine l_lds rfl Try.isAgg56 Try.sizeOf56 rfl rfl ?_
      refine l_call rfl Try.call19 rfl (numbers_ok _ _ kd hkd.1 hkd.2 who hwho.1 hwho.2 oa hoa.1 hoa.2 ob hob.1 hob.2 ow how.1 how.2 ov hov.1 hov.2 on hon.1 hon.2 ba Z.length bc Z hRZ.ex hbc hZU wa Y.length wc Y hRY.ex hYU os hwt) ?_; rintro _ _ ⟨rfl, rfl⟩
      refine l_assign rfl rfl ?_
      refine l_nil ?_
      refine g_inBlock ?_
      refine g_seq ?_
      refine g_region ?_
      refine l_move rfl rfl ?_
      refine l_not rfl rfl ?_
      refine l_nil ?_
      first | refine g_cond_f rfl ?_ | refine g_cond_f (congrArg (fun b => some (Value.bool b)) (decide_eq_false hbr)) ?_
      refine g_skip ?_
      refine g_inBlock ?_
      refine g_region ?_
      refine l_move rfl rfl ?_
      first | refine l_add rfl rfl rfl (w_i64 (by omega) (by omega)) ?_ | refine l_addw rfl rfl rfl ?_
      refine l_assign rfl rfl ?_
      refine l_nil ?_
      (first | exact g_againi (ih (i + 1, tt + wx, S2) ⟨⟨by simp only; omega, by simp only; omega⟩, ⟨by simp only; omega, by simp only; omega⟩, hS2.le (by simp only; omega), by simp only; omega, by simp only; omega⟩ (by simp only; omega)) (.cons rfl (.cons rfl (.cons rfl (.cons rfl (.cons rfl (.nil)))))) | exact g_againi (ih (i + 1, tt + wx, S) ⟨⟨by simp only; omega, by simp only; omega⟩, ⟨by simp only; omega, by simp only; omega⟩, hS.le (by simp only; omega), by simp only; omega, by simp only; omega⟩ (by simp only; omega)) (.cons rfl (.cons rfl (.cons rfl (.cons rfl (.cons rfl (.nil)))))))
    intro hbr
    have hbr := of_decide_eq_false hbr
    refine g_seq ?_
    refine g_region ?_
    refine l_fieldAddr rfl fa_56_0 rfl ?_
    first | refine l_ld rfl Try.isAgg3 rfl rfl ?_ | refine l_ldw rfl Try.isAgg3 rfl (by omega) ?_
    refine l_leq rfl rfl rfl ?_
    refine l_assign rfl rfl ?_
    refine l_nil ?_
    refine g_cond rfl ?_ ?_
    · intro hbr
      have hbr := of_decide_eq_true hbr
      refine g_region ?_
      refine l_move rfl rfl ?_
      refine l_lds rfl Try.isAgg56 Try.sizeOf56 rfl rfl ?_
      refine l_take (BigF S.K (fun j => bkA (S.B j))) ?_
      refine l_take (Own 104 4 (.slice S.ka S.K S.kc) S.K (rowsN S.K (fun j => bkR (S.B j)))) ?_
      refine l_take (BigF S.K8 (fun j => bkA8 (S.B8 j))) ?_
      refine l_take (Own 102 4 (.slice S.ka8 S.K8 S.kc8) S.K8 (rowsN S.K8 (fun j => bkR8 (S.B8 j)))) ?_
      refine l_take (BigF S.M (fun j => rdA (S.R j))) ?_
      refine l_take (BigF S.N (fun j => wrA (S.W j))) ?_
      refine l_take (Own 92 1 (.slice S.ql S.M S.qc) S.M (ptrs S.M fun j => (S.R j).by_)) ?_
      refine l_take (Own 69 1 (.slice S.rl S.M S.rc) S.M (ptrs S.M fun j => (S.R j).bq)) ?_
      refine l_take (Own 88 1 (.slice S.vl S.N S.vc) S.N (ptrs S.N fun j => (S.W j).bx)) ?_
      refine l_take (Own 61 1 (.slice S.wl S.N S.wc) S.N (ptrs S.N fun j => (S.W j).bw)) ?_
      refine l_take (Blk b19 (.cells [Value.slice S.wl S.N S.wc, .slice S.vl S.N S.vc, .slice S.rl S.M S.rc, .slice S.ql S.M S.qc, .slice S.ka8 S.K8 S.kc8, .slice S.ka S.K S.kc].toArray 51 (0, 0))) ?_
      refine l_call rfl Try.call20 rfl (lists_ok _ _ b19 S (tt.toNat + 16) hS (by omega) kd hkd.1 hkd.2 who hwho.1 hwho.2 oa hoa.1 hoa.2 ob hob.1 hob.2 ow how.1 how.2 ov hov.1 hov.2 on hon.1 hon.2 ba Z.length bc Z hRZ.ex hbc hZU wa Y.length wc Y hRY.ex hYU os hwt) ?_; rintro _ _ ⟨S2, rfl, hS2, hNM, rfl⟩
      refine l_assign rfl rfl ?_
      refine l_nil ?_
      refine g_inBlock ?_
      refine g_seq ?_
      refine g_region ?_
      refine l_move rfl rfl ?_
      refine l_not rfl rfl ?_
      refine l_nil ?_
      first | refine g_cond_f rfl ?_ | refine g_cond_f (congrArg (fun b => some (Value.bool b)) (decide_eq_false hbr)) ?_
      refine g_skip ?_
      refine g_inBlock ?_
      refine g_region ?_
      refine l_move rfl rfl ?_
      first | refine l_add rfl rfl rfl (w_i64 (by omega) (by omega)) ?_ | refine l_addw rfl rfl rfl ?_
      refine l_assign rfl rfl ?_
      refine l_nil ?_
      (first | exact g_againi (ih (i + 1, tt + wx, S2) ⟨⟨by simp only; omega, by simp only; omega⟩, ⟨by simp only; omega, by simp only; omega⟩, hS2.le (by simp only; omega), by simp only; omega, by simp only; omega⟩ (by simp only; omega)) (.cons rfl (.cons rfl (.cons rfl (.cons rfl (.cons rfl (.nil)))))) | exact g_againi (ih (i + 1, tt + wx, S) ⟨⟨by simp only; omega, by simp only; omega⟩, ⟨by simp only; omega, by simp only; omega⟩, hS.le (by simp only; omega), by simp only; omega, by simp only; omega⟩ (by simp only; omega)) (.cons rfl (.cons rfl (.cons rfl (.cons rfl (.cons rfl (.nil)))))))
    intro hbr
    have hbr := of_decide_eq_false hbr
    refine g_seq ?_
    refine g_region ?_
    refine l_fieldAddr rfl fa_56_0 rfl ?_
    first | refine l_ld rfl Try.isAgg3 rfl rfl ?_ | refine l_ldw rfl Try.isAgg3 rfl (by omega) ?_
    refine l_eql rfl rfl rfl ?_
    refine l_move rfl rfl ?_
    refine l_split 67 rfl ?_ ?_
    · intro hbr
      have hbr := of_decide_eq_true hbr
      refine l_guard_no rfl rfl rfl ?_
      refine l_guard_no rfl rfl rfl ?_
      refine l_guard_no rfl rfl rfl ?_
      refine l_pick_t rfl rfl rfl ?_
      refine l_move rfl rfl ?_
      refine l_guard_no rfl rfl rfl ?_
      refine l_guard_no rfl rfl rfl ?_
      refine l_guard_no rfl rfl rfl ?_
      refine l_pick_t rfl rfl rfl ?_
      refine l_assign rfl rfl ?_
      refine l_nil ?_
      first | refine g_cond_t rfl ?_ | refine g_cond_t (congrArg (fun b => some (Value.bool b)) (decide_eq_true hbr)) ?_
      refine g_region ?_
      refine l_move rfl rfl ?_
      refine l_lds rfl Try.isAgg56 Try.sizeOf56 rfl rfl ?_
      refine l_take (BigF S.K (fun j => bkA (S.B j))) ?_
      refine l_take (Own 104 4 (.slice S.ka S.K S.kc) S.K (rowsN S.K (fun j => bkR (S.B j)))) ?_
      refine l_take (BigF S.K8 (fun j => bkA8 (S.B8 j))) ?_
      refine l_take (Own 102 4 (.slice S.ka8 S.K8 S.kc8) S.K8 (rowsN S.K8 (fun j => bkR8 (S.B8 j)))) ?_
      refine l_take (BigF S.M (fun j => rdA (S.R j))) ?_
      refine l_take (BigF S.N (fun j => wrA (S.W j))) ?_
      refine l_take (Own 92 1 (.slice S.ql S.M S.qc) S.M (ptrs S.M fun j => (S.R j).by_)) ?_
      refine l_take (Own 69 1 (.slice S.rl S.M S.rc) S.M (ptrs S.M fun j => (S.R j).bq)) ?_
      refine l_take (Own 88 1 (.slice S.vl S.N S.vc) S.N (ptrs S.N fun j => (S.W j).bx)) ?_
      refine l_take (Own 61 1 (.slice S.wl S.N S.wc) S.N (ptrs S.N fun j => (S.W j).bw)) ?_
      refine l_take (Blk b19 (.cells [Value.slice S.wl S.N S.wc, .slice S.vl S.N S.vc, .slice S.rl S.M S.rc, .slice S.ql S.M S.qc, .slice S.ka8 S.K8 S.kc8, .slice S.ka S.K S.kc].toArray 51 (0, 0))) ?_
      refine l_call rfl Try.call17 rfl (begins_ok _ _ b19 S (tt.toNat + 16) hS (by omega) hN kd hkd.1 hkd.2 who hwho.1 hwho.2 oa hoa.1 hoa.2 ob hob.1 hob.2 ow how.1 how.2 ov hov.1 hov.2 on hon.1 hon.2 ba Z.length bc Z hRZ.ex hbc hZU wa Y.length wc Y hRY.ex hYU os hwt) ?_; rintro _ _ ⟨S2, rfl, hS2, hNM, _, rfl⟩
      refine l_assign rfl rfl ?_
      refine l_nil ?_
      refine g_inBlock ?_
      refine g_seq ?_
      refine g_region ?_
      refine l_move rfl rfl ?_
      refine l_not rfl rfl ?_
      refine l_nil ?_
      first | refine g_cond_f rfl ?_ | refine g_cond_f (congrArg (fun b => some (Value.bool b)) (decide_eq_false hbr)) ?_
      refine g_skip ?_
      refine g_inBlock ?_
      refine g_region ?_
      refine l_move rfl rfl ?_
      first | refine l_add rfl rfl rfl (w_i64 (by omega) (by omega)) ?_ | refine l_addw rfl rfl rfl ?_
      refine l_assign rfl rfl ?_
      refine l_nil ?_
      (first | exact g_againi (ih (i + 1, tt + wx, S2) ⟨⟨by simp only; omega, by simp only; omega⟩, ⟨by simp only; omega, by simp only; omega⟩, hS2.le (by simp only; omega), by simp only; omega, by simp only; omega⟩ (by simp only; omega)) (.cons rfl (.cons rfl (.cons rfl (.cons rfl (.cons rfl (.nil)))))) | exact g_againi (ih (i + 1, tt + wx, S) ⟨⟨by simp only; omega, by simp only; omega⟩, ⟨by simp only; omega, by simp only; omega⟩, hS.le (by simp only; omega), by simp only; omega, by simp only; omega⟩ (by simp only; omega)) (.cons rfl (.cons rfl (.cons rfl (.cons rfl (.cons rfl (.nil)))))))
    intro hbr
    have hbr := of_decide_eq_false hbr
    refine l_guard_yes rfl rfl ?_
    refine l_fieldAddr rfl fa_56_0 rfl ?_
    refine l_guard_yes rfl rfl ?_
    first | refine l_ld rfl Try.isAgg3 rfl rfl ?_ | refine l_ldw rfl Try.isAgg3 rfl (by omega) ?_
    refine l_guard_yes rfl rfl ?_
    refine l_eql rfl rfl rfl ?_
    refine l_pick_f rfl rfl rfl ?_
    refine l_move rfl rfl ?_
    refine l_split 72 rfl ?_ ?_
    · intro hbr
      have hbr := of_decide_eq_true hbr
      refine l_guard_no rfl rfl rfl ?_
      refine l_guard_no rfl rfl rfl ?_
      refine l_guard_no rfl rfl rfl ?_
      refine l_pick_t rfl rfl rfl ?_
      refine l_assign rfl rfl ?_
      refine l_nil ?_
      first | refine g_cond_t rfl ?_ | refine g_cond_t (congrArg (fun b => some (Value.bool b)) (decide_eq_true hbr)) ?_
      refine g_region ?_
      refine l_move rfl rfl ?_
      refine l_lds rfl Try.isAgg56 Try.sizeOf56 rfl rfl ?_
      refine l_take (BigF S.K (fun j => bkA (S.B j))) ?_
      refine l_take (Own 104 4 (.slice S.ka S.K S.kc) S.K (rowsN S.K (fun j => bkR (S.B j)))) ?_
      refine l_take (BigF S.K8 (fun j => bkA8 (S.B8 j))) ?_
      refine l_take (Own 102 4 (.slice S.ka8 S.K8 S.kc8) S.K8 (rowsN S.K8 (fun j => bkR8 (S.B8 j)))) ?_
      refine l_take (BigF S.M (fun j => rdA (S.R j))) ?_
      refine l_take (BigF S.N (fun j => wrA (S.W j))) ?_
      refine l_take (Own 92 1 (.slice S.ql S.M S.qc) S.M (ptrs S.M fun j => (S.R j).by_)) ?_
      refine l_take (Own 69 1 (.slice S.rl S.M S.rc) S.M (ptrs S.M fun j => (S.R j).bq)) ?_
      refine l_take (Own 88 1 (.slice S.vl S.N S.vc) S.N (ptrs S.N fun j => (S.W j).bx)) ?_
      refine l_take (Own 61 1 (.slice S.wl S.N S.wc) S.N (ptrs S.N fun j => (S.W j).bw)) ?_
      refine l_take (Blk b19 (.cells [Value.slice S.wl S.N S.wc, .slice S.vl S.N S.vc, .slice S.rl S.M S.rc, .slice S.ql S.M S.qc, .slice S.ka8 S.K8 S.kc8, .slice S.ka S.K S.kc].toArray 51 (0, 0))) ?_
      refine l_call rfl Try.call17 rfl (begins_ok _ _ b19 S (tt.toNat + 16) hS (by omega) hN kd hkd.1 hkd.2 who hwho.1 hwho.2 oa hoa.1 hoa.2 ob hob.1 hob.2 ow how.1 how.2 ov hov.1 hov.2 on hon.1 hon.2 ba Z.length bc Z hRZ.ex hbc hZU wa Y.length wc Y hRY.ex hYU os hwt) ?_; rintro _ _ ⟨S2, rfl, hS2, hNM, _, rfl⟩
      refine l_assign rfl rfl ?_
      refine l_nil ?_
      refine g_inBlock ?_
      refine g_seq ?_
      refine g_region ?_
      refine l_move rfl rfl ?_
      refine l_not rfl rfl ?_
      refine l_nil ?_
      first | refine g_cond_f rfl ?_ | refine g_cond_f (congrArg (fun b => some (Value.bool b)) (decide_eq_false hbr)) ?_
      refine g_skip ?_
      refine g_inBlock ?_
      refine g_region ?_
      refine l_move rfl rfl ?_
      first | refine l_add rfl rfl rfl (w_i64 (by omega) (by omega)) ?_ | refine l_addw rfl rfl rfl ?_
      refine l_assign rfl rfl ?_
      refine l_nil ?_
      (first | exact g_againi (ih (i + 1, tt + wx, S2) ⟨⟨by simp only; omega, by simp only; omega⟩, ⟨by simp only; omega, by simp only; omega⟩, hS2.le (by simp only; omega), by simp only; omega, by simp only; omega⟩ (by simp only; omega)) (.cons rfl (.cons rfl (.cons rfl (.cons rfl (.cons rfl (.nil)))))) | exact g_againi (ih (i + 1, tt + wx, S) ⟨⟨by simp only; omega, by simp only; omega⟩, ⟨by simp only; omega, by simp only; omega⟩, hS.le (by simp only; omega), by simp only; omega, by simp only; omega⟩ (by simp only; omega)) (.cons rfl (.cons rfl (.cons rfl (.cons rfl (.cons rfl (.nil)))))))
    intro hbr
    have hbr := of_decide_eq_false hbr
    refine l_guard_yes rfl rfl ?_
    refine l_fieldAddr rfl fa_56_0 rfl ?_
    refine l_guard_yes rfl rfl ?_
    first | refine l_ld rfl Try.isAgg3 rfl rfl ?_ | refine l_ldw rfl Try.isAgg3 rfl (by omega) ?_
    refine l_guard_yes rfl rfl ?_
    refine l_eql rfl rfl rfl ?_
    refine l_pick_f rfl rfl rfl ?_
    refine l_assign rfl rfl ?_
    refine l_nil ?_
    refine g_cond rfl ?_ ?_
    · intro hbr
      have hbr := of_decide_eq_true hbr
      refine g_region ?_
      refine l_move rfl rfl ?_
      refine l_lds rfl Try.isAgg56 Try.sizeOf56 rfl rfl ?_
      refine l_take (BigF S.K (fun j => bkA (S.B j))) ?_
      refine l_take (Own 104 4 (.slice S.ka S.K S.kc) S.K (rowsN S.K (fun j => bkR (S.B j)))) ?_
      refine l_take (BigF S.K8 (fun j => bkA8 (S.B8 j))) ?_
      refine l_take (Own 102 4 (.slice S.ka8 S.K8 S.kc8) S.K8 (rowsN S.K8 (fun j => bkR8 (S.B8 j)))) ?_
      refine l_take (BigF S.M (fun j => rdA (S.R j))) ?_
      refine l_take (BigF S.N (fun j => wrA (S.W j))) ?_
      refine l_take (Own 92 1 (.slice S.ql S.M S.qc) S.M (ptrs S.M fun j => (S.R j).by_)) ?_
      refine l_take (Own 69 1 (.slice S.rl S.M S.rc) S.M (ptrs S.M fun j => (S.R j).bq)) ?_
      refine l_take (Own 88 1 (.slice S.vl S.N S.vc) S.N (ptrs S.N fun j => (S.W j).bx)) ?_
      refine l_take (Own 61 1 (.slice S.wl S.N S.wc) S.N (ptrs S.N fun j => (S.W j).bw)) ?_
      refine l_take (Blk b19 (.cells [Value.slice S.wl S.N S.wc, .slice S.vl S.N S.vc, .slice S.rl S.M S.rc, .slice S.ql S.M S.qc, .slice S.ka8 S.K8 S.kc8, .slice S.ka S.K S.kc].toArray 51 (0, 0))) ?_
      refine l_call rfl Try.call17 rfl (begins_ok _ _ b19 S (tt.toNat + 16) hS (by omega) hN kd hkd.1 hkd.2 who hwho.1 hwho.2 oa hoa.1 hoa.2 ob hob.1 hob.2 ow how.1 how.2 ov hov.1 hov.2 on hon.1 hon.2 ba Z.length bc Z hRZ.ex hbc hZU wa Y.length wc Y hRY.ex hYU os hwt) ?_; rintro _ _ ⟨S2, rfl, hS2, hNM, _, rfl⟩
      refine l_assign rfl rfl ?_
      refine l_nil ?_
      refine g_inBlock ?_
      refine g_seq ?_
      refine g_region ?_
      refine l_move rfl rfl ?_
      refine l_not rfl rfl ?_
      refine l_nil ?_
      first | refine g_cond_f rfl ?_ | refine g_cond_f (congrArg (fun b => some (Value.bool b)) (decide_eq_false hbr)) ?_
      refine g_skip ?_
      refine g_inBlock ?_
      refine g_region ?_
      refine l_move rfl rfl ?_
      first | refine l_add rfl rfl rfl (w_i64 (by omega) (by omega)) ?_ | refine l_addw rfl rfl rfl ?_
      refine l_assign rfl rfl ?_
      refine l_nil ?_
      (first | exact g_againi (ih (i + 1, tt + wx, S2) ⟨⟨by simp only; omega, by simp only; omega⟩, ⟨by simp only; omega, by simp only; omega⟩, hS2.le (by simp only; omega), by simp only; omega, by simp only; omega⟩ (by simp only; omega)) (.cons rfl (.cons rfl (.cons rfl (.cons rfl (.cons rfl (.nil)))))) | exact g_againi (ih (i + 1, tt + wx, S) ⟨⟨by simp only; omega, by simp only; omega⟩, ⟨by simp only; omega, by simp only; omega⟩, hS.le (by simp only; omega), by simp only; omega, by simp only; omega⟩ (by simp only; omega)) (.cons rfl (.cons rfl (.cons rfl (.cons rfl (.cons rfl (.nil)))))))
    intro hbr
    have hbr := of_decide_eq_false hbr
    refine g_seq ?_
    refine g_region ?_
    refine l_fieldAddr rfl fa_56_0 rfl ?_
    first | refine l_ld rfl Try.isAgg3 rfl rfl ?_ | refine l_ldw rfl Try.isAgg3 rfl (by omega) ?_
    refine l_leq rfl rfl rfl ?_
    refine l_assign rfl rfl ?_
    refine l_nil ?_
    refine g_cond rfl ?_ ?_
    · intro hbr
      have hbr := of_decide_eq_true hbr
      refine g_region ?_
      refine l_move rfl rfl ?_
      refine l_lds rfl Try.isAgg56 Try.sizeOf56 rfl rfl ?_
      refine l_take (BigF S.K (fun j => bkA (S.B j))) ?_
      refine l_take (Own 104 4 (.slice S.ka S.K S.kc) S.K (rowsN S.K (fun j => bkR (S.B j)))) ?_
      refine l_take (BigF S.K8 (fun j => bkA8 (S.B8 j))) ?_
      refine l_take (Own 102 4 (.slice S.ka8 S.K8 S.kc8) S.K8 (rowsN S.K8 (fun j => bkR8 (S.B8 j)))) ?_
      refine l_take (BigF S.M (fun j => rdA (S.R j))) ?_
      refine l_take (BigF S.N (fun j => wrA (S.W j))) ?_
      refine l_take (Own 92 1 (.slice S.ql S.M S.qc) S.M (ptrs S.M fun j => (S.R j).by_)) ?_
      refine l_take (Own 69 1 (.slice S.rl S.M S.rc) S.M (ptrs S.M fun j => (S.R j).bq)) ?_
      refine l_take (Own 88 1 (.slice S.vl S.N S.vc) S.N (ptrs S.N fun j => (S.W j).bx)) ?_
      refine l_take (Own 61 1 (.slice S.wl S.N S.wc) S.N (ptrs S.N fun j => (S.W j).bw)) ?_
      refine l_take (Blk b19 (.cells [Value.slice S.wl S.N S.wc, .slice S.vl S.N S.vc, .slice S.rl S.M S.rc, .slice S.ql S.M S.qc, .slice S.ka8 S.K8 S.kc8, .slice S.ka S.K S.kc].toArray 51 (0, 0))) ?_
      refine l_call rfl Try.call21 rfl (writes_ok _ _ b19 S (tt.toNat + 16) hS (by omega) hN kd hkd.1 hkd.2 who hwho.1 hwho.2 oa hoa.1 hoa.2 ob hob.1 hob.2 ow how.1 how.2 ov hov.1 hov.2 on hon.1 hon.2 ba Z.length bc Z hRZ.ex hbc hZU wa Y.length wc Y hRY.ex hYU os hwt) ?_; rintro _ _ ⟨S2, rfl, hS2, hNM, rfl⟩
      refine l_assign rfl rfl ?_
      refine l_nil ?_
      refine g_inBlock ?_
      refine g_seq ?_
      refine g_region ?_
      refine l_move rfl rfl ?_
      refine l_not rfl rfl ?_
      refine l_nil ?_
      first | refine g_cond_f rfl ?_ | refine g_cond_f (congrArg (fun b => some (Value.bool b)) (decide_eq_false hbr)) ?_
      refine g_skip ?_
      refine g_inBlock ?_
      refine g_region ?_
      refine l_move rfl rfl ?_
      first | refine l_add rfl rfl rfl (w_i64 (by omega) (by omega)) ?_ | refine l_addw rfl rfl rfl ?_
      refine l_assign rfl rfl ?_
      refine l_nil ?_
      (first | exact g_againi (ih (i + 1, tt + wx, S2) ⟨⟨by simp only; omega, by simp only; omega⟩, ⟨by simp only; omega, by simp only; omega⟩, hS2.le (by simp only; omega), by simp only; omega, by simp only; omega⟩ (by simp only; omega)) (.cons rfl (.cons rfl (.cons rfl (.cons rfl (.cons rfl (.nil)))))) | exact g_againi (ih (i + 1, tt + wx, S) ⟨⟨by simp only; omega, by simp only; omega⟩, ⟨by simp only; omega, by simp only; omega⟩, hS.le (by simp only; omega), by simp only; omega, by simp only; omega⟩ (by simp only; omega)) (.cons rfl (.cons rfl (.cons rfl (.cons rfl (.cons rfl (.nil)))))))
    intro hbr
    have hbr := of_decide_eq_false hbr
    refine g_region ?_
    refine l_move rfl rfl ?_
    refine l_lds rfl Try.isAgg56 Try.sizeOf56 rfl rfl ?_
    refine l_take (BigF S.K (fun j => bkA (S.B j))) ?_
    refine l_take (Own 104 4 (.slice S.ka S.K S.kc) S.K (rowsN S.K (fun j => bkR (S.B j)))) ?_
    refine l_take (BigF S.K8 (fun j => bkA8 (S.B8 j))) ?_
    refine l_take (Own 102 4 (.slice S.ka8 S.K8 S.kc8) S.K8 (rowsN S.K8 (fun j => bkR8 (S.B8 j)))) ?_
    refine l_take (BigF S.M (fun j => rdA (S.R j))) ?_
    refine l_take (BigF S.N (fun j => wrA (S.W j))) ?_
    refine l_take (Own 92 1 (.slice S.ql S.M S.qc) S.M (ptrs S.M fun j => (S.R j).by_)) ?_
    refine l_take (Own 69 1 (.slice S.rl S.M S.rc) S.M (ptrs S.M fun j => (S.R j).bq)) ?_
    refine l_take (Own 88 1 (.slice S.vl S.N S.vc) S.N (ptrs S.N fun j => (S.W j).bx)) ?_
    refine l_take (Own 61 1 (.slice S.wl S.N S.wc) S.N (ptrs S.N fun j => (S.W j).bw)) ?_
    refine l_take (Blk b19 (.cells [Value.slice S.wl S.N S.wc, .slice S.vl S.N S.vc, .slice S.rl S.M S.rc, .slice S.ql S.M S.qc, .slice S.ka8 S.K8 S.kc8, .slice S.ka S.K S.kc].toArray 51 (0, 0))) ?_
    refine l_call rfl Try.call22 rfl (reads_ok _ _ b19 S (tt.toNat + 16) hS (by omega) hM kd hkd.1 hkd.2 who hwho.1 hwho.2 oa hoa.1 hoa.2 ob hob.1 hob.2 ow how.1 how.2 ov hov.1 hov.2 on hon.1 hon.2 ba Z.length bc Z hRZ.ex hbc hZU wa Y.length wc Y hRY.ex hYU os hwt) ?_; rintro _ _ ⟨S2, rfl, hS2, hNM, rfl⟩
    refine l_assign rfl rfl ?_
    refine l_nil ?_
    refine g_inBlock ?_
    refine g_seq ?_
    refine g_region ?_
    refine l_move rfl rfl ?_
    refine l_not rfl rfl ?_
    refine l_nil ?_
    first | refine g_cond_f rfl ?_ | refine g_cond_f (congrArg (fun b => some (Value.bool b)) (decide_eq_false hbr)) ?_
    refine g_skip ?_
    refine g_inBlock ?_
    refine g_region ?_
    refine l_move rfl rfl ?_
    first | refine l_add rfl rfl rfl (w_i64 (by omega) (by omega)) ?_ | refine l_addw rfl rfl rfl ?_
    refine l_assign rfl rfl ?_
    refine l_nil ?_
    (first | exact g_againi (ih (i + 1, tt + wx, S2) ⟨⟨by simp only; omega, by simp only; omega⟩, ⟨by simp only; omega, by simp only; omega⟩, hS2.le (by simp only; omega), by simp only; omega, by simp only; omega⟩ (by simp only; omega)) (.cons rfl (.cons rfl (.cons rfl (.cons rfl (.cons rfl (.nil)))))) | exact g_againi (ih (i + 1, tt + wx, S) ⟨⟨by simp only; omega, by simp only; omega⟩, ⟨by simp only; omega, by simp only; omega⟩, hS.le (by simp only; omega), by simp only; omega, by simp only; omega⟩ (by simp only; omega)) (.cons rfl (.cons rfl (.cons rfl (.cons rfl (.cons rfl (.nil)))))))
  intro hbr
  have hbr := of_decide_eq_false hbr
  refine g_exit rfl ?_
  refine g_seq ?_
  refine g_region ?_
  refine l_move rfl rfl ?_
  refine l_nilCheck rfl rfl ?_
  refine l_fieldAddr rfl fa_51_4 rfl ?_
  refine l_take (BigF S.K (fun j => bkA (S.B j))) ?_
  refine l_take (Own 104 4 (.slice S.ka S.K S.kc) S.K (rowsN S.K (fun j => bkR (S.B j)))) ?_
  refine l_take (BigF S.K8 (fun j => bkA8 (S.B8 j))) ?_
  refine l_take (Own 102 4 (.slice S.ka8 S.K8 S.kc8) S.K8 (rowsN S.K8 (fun j => bkR8 (S.B8 j)))) ?_
  refine l_take (Blk b19 (.cells [Value.slice S.wl S.N S.wc, .slice S.vl S.N S.vc, .slice S.rl S.M S.rc, .slice S.ql S.M S.qc, .slice S.ka8 S.K8 S.kc8, .slice S.ka S.K S.kc].toArray 51 (0, 0))) ?_
  refine l_call rfl Try.call23 rfl (settled_ok _ _ b19 _ _ _ _ S.ka8 S.K8 S.kc8 S.B8 hS.hB8 (by have := hS.hK8; omega) hS.hka8 S.ka S.K S.kc S.B hS.hB (by have := hS.hK; omega) hS.hka) ?_; rintro _ _ ⟨rfl, rfl⟩
  refine l_assign rfl rfl ?_
  refine l_nil ?_
  refine g_ret Try.func7 rfl (.tmp rfl .nil) ?_
  exact Gives.mki ⟨(by first | rfl | exact congrArg Value.bool (decide_eq_true rfl) | (simp [resVal]; done)), rfl⟩
theorem exact_all (W : World) (a0 : Option Addr) (n0 c0 : Nat) (rows : List (List Value)) (hc0 : n0 ≤ c0) (hm0 : c0 ≤ maxLen) (hl0 : rows.length = n0) (hv0 : ∀ r ∈ rows, r.length = 10 ∧ Vis Try.prog W 56 r)
    (hr0 : (n0 = 0 ∧ (a0 = none → c0 = 0)) ∨ ∃ b o, a0 = some ⟨b, o, none⟩ ∧ ∀ (j : Nat) u, rows.flatten[j]? = some u → W.cell? ⟨b, o + j, none⟩ = some u) :
    CallK Try.prog 7 [.slice a0 n0 c0] W [Old W] (Gives W fun v F2 => v = .bool true ∧ F2 = [Old W]) := by
  simp only [maxLen] at hm0
  obtain ⟨L, hL, hLok⟩ := rows_choose (f := opRow) (R := OpOk W [Old W]) (rows := rows) (fun r hr => vis_op (hv0 r hr).2)
  subst hL
  refine exact_ok W [Old W] a0 n0 c0 L (by simpa using hl0) (by omega) ?_ hLok
  rcases hr0 with ⟨h, _⟩ | ⟨b, o, h, hr⟩
  · exact .inl h
  · exact .inr ⟨b, o, h, RowAt.old (by simp) hr⟩
end Go.Proofs.Ytnkmhhjldfapdaa.Fw
