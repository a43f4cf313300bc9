import Derived.Test.YtnkmhhjldfapdaaBack
namespace Go.Proofs.Ytnkmhhjldfapdaa.Fw
open Go Go.Proofs
set_option linter.unusedVariables false
set_option linter.unusedSimpArgs false
set_option maxRecDepth 10000
theorem fa_66_0 (a : Addr) (w : World) : (Instr.fieldAt 66 (.pointer (some a)) 0).run Try.prog w = .ok (.pointer (some (a.add 0))) w := by
  simp [Instr.fieldAt, Try.runUnderlying66, Instr.sureAddr, fieldPlace, Try.sizeOf3, Sem.run_bind, Sem.run_pure]
theorem fa_66_1 (a : Addr) (w : World) : (Instr.fieldAt 66 (.pointer (some a)) 1).run Try.prog w = .ok (.pointer (some (a.add 1))) w := by
  simp [Instr.fieldAt, Try.runUnderlying66, Instr.sureAddr, fieldPlace, Try.sizeOf53, Sem.run_bind, Sem.run_pure]
theorem fa_66_2 (a : Addr) (w : World) : (Instr.fieldAt 66 (.pointer (some a)) 2).run Try.prog w = .ok (.pointer (some (a.add 2))) w := by
  simp [Instr.fieldAt, Try.runUnderlying66, Instr.sureAddr, fieldPlace, Try.sizeOf9, Sem.run_bind, Sem.run_pure]
theorem bd_66_0 (a0_0 : Int) (w : World) : (Instr.build 66 #[(0, .int .i64 a0_0)]).run Try.prog w = .ok (.agg #[.int .i64 a0_0, .int .u64 0, .string ⟨#[]⟩]) w := by kernel_rfl
theorem write_ok (w0 : World) (F : List Atom) (bw br : Nat) (a : Option Addr) (n c : Nat) (B : List Int) (hB : B.length = n) (ha : n = 0 ∨ ∃ g, a = some ⟨g, 0, none⟩) (hnk : n ≤ 4398046511104) (kd nn : Int) (ss : ByteArray) (k0 : -9223372036854775808 ≤ kd) (k1 : kd ≤ 9223372036854775807) (n0 : 0 ≤ nn) (n1 : nn ≤ 18446744073709551615) (hz : ss.size ≤ 2147483647) (B0 : List Int) (hB0 : B ++ enc (kd, nn, ss) = B0) (m : Nat) (hm : n + (enc (kd, nn, ss)).length = m) :
    CallK Try.prog 26 [.pointer (some ⟨bw, 0, none⟩), .agg #[.int .i64 kd, .int .u64 nn, .string ss]] w0 (Blk bw (.cells [Value.pointer (some ⟨br, 0, none⟩)].toArray 111 (0, 0)) :: Blk br (.cells [Value.slice a n c, .int .i64 0].toArray 109 (0, 0)) :: Own 5 1 (.slice a n c) n (ints .u8 B) :: F) (Gives w0 fun v F2 => ∃ a2 c2, (m = 0 ∨ ∃ g, a2 = some ⟨g, 0, none⟩) ∧ F2 = Blk bw (.cells [Value.pointer (some ⟨br, 0, none⟩)].toArray 111 (0, 0)) :: Blk br (.cells [Value.slice a2 m c2, .int .i64 0].toArray 109 (0, 0)) :: Own 5 1 (.slice a2 m c2) m (ints .u8 B0) :: F) := by
  have hec := enc_cases (kd, nn, ss)
  simp only at hec
  refine c_enter Try.func26 rfl rfl rfl ?_
  refine g_seq ?_
  refine g_region ?_
  refine l_boxs rfl rfl ?_; intro b3
  refine l_nil ?_
  refine g_seq ?_
  refine g_region ?_
  refine l_fieldAddr rfl fa_66_0 rfl ?_
  first | refine l_ld rfl Try.isAgg3 rfl rfl ?_ | refine l_ldw rfl Try.isAgg3 rfl (by omega) ?_
  refine l_call rfl Try.call14 rfl (pick_ok _ _ kd k0 k1 4 (by omega) (by omega)) ?_; rintro _ F9 ⟨rfl, hF9⟩; rw [hF9]; clear hF9 F9
  have hpk := @pickV_bd kd 4 (by decide)
  refine l_nil ?_
  refine g_block ?_
  refine g_seq ?_
  refine g_region ?_
  refine l_eql rfl rfl rfl ?_
  refine l_assign rfl rfl ?_
  refine l_nil ?_
  refine g_cond rfl ?_ ?_
  · intro hbr
    have hbr := of_decide_eq_true hbr
    refine g_region ?_
    refine l_move rfl rfl ?_
    refine l_fieldAddr rfl fa_66_1 rfl ?_
    first | refine l_ld rfl Try.isAgg53 rfl rfl ?_ | refine l_ldw rfl Try.isAgg53 rfl (by omega) ?_
    refine l_convm (m := 256) rfl wr_u8 Try.underlying53 Try.underlying5 rfl ?_
    refine l_frontv (.slice a n c) ?_
    refine l_frontb br ?_
    refine l_frontb bw ?_
    refine l_call rfl Try.call40 rfl (u8_ok _ _ bw br a n c B hB ha hnk _ (by omega) (by omega) B0 (by rw [← hB0, enc_0 (o := (kd, nn, ss)) (show pickV kd 4 = 0 by omega)])) ?_; rintro _ _ ⟨a2, c2, ha2, rfl⟩
    obtain rfl : m = n + 1 := by omega
    refine l_nil ?_
    refine g_inBlock ?_
    refine g_end Try.func26 rfl .nil ?_
    exact Gives.mki ⟨a2, c2, ha2, rfl⟩
  intro hbr
  have hbr := of_decide_eq_false hbr
  refine g_seq ?_
  refine g_region ?_
  refine l_eql rfl rfl rfl ?_
  refine l_assign rfl rfl ?_
  refine l_nil ?_
  refine g_cond rfl ?_ ?_
  · intro hbr
    have hbr := of_decide_eq_true hbr
    refine g_region ?_
    refine l_move rfl rfl ?_
    refine l_fieldAddr rfl fa_66_1 rfl ?_
    first | refine l_ld rfl Try.isAgg53 rfl rfl ?_ | refine l_ldw rfl Try.isAgg53 rfl (by omega) ?_
    refine l_convm (m := 4294967296) rfl wr_u32 Try.underlying53 Try.underlying23 rfl ?_
    refine l_frontv (.slice a n c) ?_
    refine l_frontb br ?_
    refine l_frontb bw ?_
    refine l_call rfl Try.call45 rfl (u32_ok _ _ bw br a n c B hB ha hnk _ (by omega) (by omega) B0 (by rw [← hB0, enc_1 (o := (kd, nn, ss)) (show pickV kd 4 = 1 by omega)])) ?_; rintro _ _ ⟨a2, c2, ha2, rfl⟩
    obtain rfl : m = n + 4 := by omega
    refine l_nil ?_
    refine g_inBlock ?_
    refine g_end Try.func26 rfl .nil ?_
    exact Gives.mki ⟨a2, c2, ha2, rfl⟩
  intro hbr
  have hbr := of_decide_eq_false hbr
  refine g_seq ?_
  refine g_region ?_
  refine l_eql rfl rfl rfl ?_
  refine l_assign rfl rfl ?_
  refine l_nil ?_
  refine g_cond rfl ?_ ?_
  · intro hbr
    have hbr := of_decide_eq_true hbr
    refine g_region ?_
    refine l_move rfl rfl ?_
    refine l_fieldAddr rfl fa_66_1 rfl ?_
    first | refine l_ld rfl Try.isAgg53 rfl rfl ?_ | refine l_ldw rfl Try.isAgg53 rfl (by omega) ?_
    refine l_frontv (.slice a n c) ?_
    refine l_frontb br ?_
    refine l_frontb bw ?_
    refine l_call rfl Try.call46 rfl (u64_ok _ _ bw br a n c B hB ha hnk _ (by omega) (by omega) B0 (by rw [← hB0, enc_2 (o := (kd, nn, ss)) (show pickV kd 4 = 2 by omega)])) ?_; rintro _ _ ⟨a2, c2, ha2, rfl⟩
    obtain rfl : m = n + 8 := by omega
    refine l_nil ?_
    refine g_inBlock ?_
    refine g_end Try.func26 rfl .nil ?_
    exact Gives.mki ⟨a2, c2, ha2, rfl⟩
  intro hbr
  have hbr := of_decide_eq_false hbr
  refine g_region ?_
  refine l_move rfl rfl ?_
  refine l_fieldAddr rfl fa_66_2 rfl ?_
  refine l_ld rfl Try.isAgg9 rfl rfl ?_
  refine l_frontv (.slice a n c) ?_
  refine l_frontb br ?_
  refine l_frontb bw ?_
  refine l_call rfl Try.call41 rfl (wtext_ok _ _ bw br a n c B hB ha hnk ss (by omega) B0 (by rw [← hB0, enc_3 (o := (kd, nn, ss)) (show pickV kd 4 = 3 by omega)])) ?_; rintro _ _ ⟨a2, c2, ha2, rfl⟩
  obtain rfl : m = n + 4 + ss.size := by omega
  refine l_nil ?_
  refine g_inBlock ?_
  refine g_end Try.func26 rfl .nil ?_
  exact Gives.mki ⟨a2, c2, ha2, rfl⟩
theorem reads_whole (w0 : World) (F : List Atom) (bq bs g n : Nat) (B : List Int) (hB : B.length = n) (hU : ∀ i, 0 ≤ B.getD i 0 ∧ B.getD i 0 ≤ 255) (hn : n ≤ 140737488355327) (kd nn : Int) (ss : ByteArray) (k0 : -9223372036854775808 ≤ kd) (k1 : kd ≤ 9223372036854775807) (n0 : 0 ≤ nn) (n1 : nn ≤ 18446744073709551615) (hz : ss.size ≤ 2147483647) (pre post : List Int) (hW : B = pre ++ (enc (kd, nn, ss) ++ post)) (p p9 : Int) (hp : p = pre.length) (hp9 : p9 = p + (enc (kd, nn, ss)).length) :
    CallK Try.prog 30 [.pointer (some ⟨bq, 0, none⟩), .agg #[.int .i64 kd, .int .u64 nn, .string ss]] w0 (Blk bq (.cells [Value.pointer (some ⟨bs, 0, none⟩), .int .i64 0].toArray 113 (0, 0)) :: Blk bs (.cells [Value.slice (some ⟨g, 0, none⟩) n n, .int .i64 p].toArray 109 (0, 0)) :: Own 5 1 (.slice (some ⟨g, 0, none⟩) n n) n (ints .u8 B) :: F) (Gives w0 fun v F2 => v = .bool true ∧ F2 = Blk bq (.cells [Value.pointer (some ⟨bs, 0, none⟩), .int .i64 0].toArray 113 (0, 0)) :: Blk bs (.cells [Value.slice (some ⟨g, 0, none⟩) n n, .int .i64 p9].toArray 109 (0, 0)) :: Own 5 1 (.slice (some ⟨g, 0, none⟩) n n) n (ints .u8 B) :: F) := by
  have hec := enc_cases (kd, nn, ss)
  simp only at hec
  have hlen := congrArg List.length hW
  rw [List.length_append, List.length_append] at hlen
  refine c_enter Try.func30 rfl rfl rfl ?_
  refine g_seq ?_
  refine g_region ?_
  refine l_boxs rfl rfl ?_; intro b3
  refine l_assign rfl rfl ?_
  refine l_nil ?_
  refine g_seq ?_
  refine g_seq ?_
  refine g_region ?_
  refine l_fieldAddr rfl fa_66_0 rfl ?_
  first | refine l_ld rfl Try.isAgg3 rfl rfl ?_ | refine l_ldw rfl Try.isAgg3 rfl (by omega) ?_
  refine l_call rfl Try.call14 rfl (pick_ok _ _ kd k0 k1 4 (by omega) (by omega)) ?_; rintro _ F9 ⟨rfl, hF9⟩; rw [hF9]; clear hF9 F9
  have hpk := @pickV_bd kd 4 (by decide)
  refine l_nil ?_
  refine g_block ?_
  refine g_seq ?_
  refine g_region ?_
  refine l_eql rfl rfl rfl ?_
  refine l_assign rfl rfl ?_
  refine l_nil ?_
  refine g_cond rfl ?_ ?_
  · intro hbr
    have hbr := of_decide_eq_true hbr
    refine g_seq ?_
    refine g_region ?_
    refine l_move rfl rfl ?_
    refine l_fronto g ?_
    refine l_frontb bs ?_
    refine l_frontb bq ?_
    refine l_call rfl Try.call42 rfl (r8_ok _ _ bq bs g n B hB hU hn p 0 (by omega) (by omega) (by omega) (by omega)) ?_; rintro _ _ ⟨m, p2, q2, hR, rfl, rfl⟩
    rw [hp, show (1 : Int) = ((1 : Nat) : Int) from rfl, rdN_whole (k := 1) (x := nn % 256) (pre := pre) (post := post) (by rw [hW, enc_0 (o := (kd, nn, ss)) (show pickV kd 4 = 0 by omega)]) (by omega) (by rw [show (256 : Int) ^ 1 = 256 from rfl]; omega)] at hR
    injection hR with hR1 hR2
    injection hR2 with hR2 hR3
    subst hR1 hR3
    obtain rfl : p2 = p9 := by omega
    refine l_assign rfl rfl ?_
    refine l_nil ?_
    refine g_seq ?_
    refine g_region ?_
    refine l_move rfl rfl ?_
    refine l_fieldAddr rfl fa_66_1 rfl ?_
    first | refine l_ld rfl Try.isAgg53 rfl rfl ?_ | refine l_ldw rfl Try.isAgg53 rfl (by omega) ?_
    refine l_convm (m := 256) rfl wr_u8 Try.underlying53 Try.underlying5 rfl ?_
    refine l_eql rfl rfl rfl ?_
    refine l_assign rfl rfl ?_
    refine l_nil ?_
    refine g_ret Try.func30 rfl (.tmp rfl .nil) ?_
    (first | exact Gives.mki ⟨rfl, rfl⟩ | exact Gives.mki ⟨(show Value.bool _ = _ from congrArg Value.bool (decide_eq_true (by omega))), rfl⟩)
  intro hbr
  have hbr := of_decide_eq_false hbr
  refine g_seq ?_
  refine g_region ?_
  refine l_eql rfl rfl rfl ?_
  refine l_assign rfl rfl ?_
  refine l_nil ?_
  refine g_cond rfl ?_ ?_
  · intro hbr
    have hbr := of_decide_eq_true hbr
    refine g_seq ?_
    refine g_region ?_
    refine l_move rfl rfl ?_
    refine l_fronto g ?_
    refine l_frontb bs ?_
    refine l_frontb bq ?_
    refine l_call rfl Try.call47 rfl (r32_ok _ _ bq bs g n B hB hU hn p 0 (by omega) (by omega) (by omega) (by omega)) ?_; rintro _ _ ⟨m, p2, q2, hR, rfl, rfl⟩
    rw [hp, show (4 : Int) = ((4 : Nat) : Int) from rfl, rdN_whole (k := 4) (x := nn % 4294967296) (pre := pre) (post := post) (by rw [hW, enc_1 (o := (kd, nn, ss)) (show pickV kd 4 = 1 by omega)]) (by omega) (by rw [show (256 : Int) ^ 4 = 4294967296 from rfl]; omega)] at hR
    injection hR with hR1 hR2
    injection hR2 with hR2 hR3
    subst hR1 hR3
    obtain rfl : p2 = p9 := by omega
    refine l_assign rfl rfl ?_
    refine l_nil ?_
    refine g_seq ?_
    refine g_region ?_
    refine l_move rfl rfl ?_
    refine l_fieldAddr rfl fa_66_1 rfl ?_
    first | refine l_ld rfl Try.isAgg53 rfl rfl ?_ | refine l_ldw rfl Try.isAgg53 rfl (by omega) ?_
    refine l_convm (m := 4294967296) rfl wr_u32 Try.underlying53 Try.underlying23 rfl ?_
    refine l_eql rfl rfl rfl ?_
    refine l_assign rfl rfl ?_
    refine l_nil ?_
    refine g_ret Try.func30 rfl (.tmp rfl .nil) ?_
    (first | exact Gives.mki ⟨rfl, rfl⟩ | exact Gives.mki ⟨(show Value.bool _ = _ from congrArg Value.bool (decide_eq_true (by omega))), rfl⟩)
  intro hbr
  have hbr := of_decide_eq_false hbr
  refine g_seq ?_
  refine g_region ?_
  refine l_eql rfl rfl rfl ?_
  refine l_assign rfl rfl ?_
  refine l_nil ?_
  refine g_cond rfl ?_ ?_
  · intro hbr
    have hbr := of_decide_eq_true hbr
    refine g_seq ?_
    refine g_region ?_
    refine l_move rfl rfl ?_
    refine l_fronto g ?_
    refine l_frontb bs ?_
    refine l_frontb bq ?_
    refine l_call rfl Try.call48 rfl (r64_ok _ _ bq bs g n B hB hU hn p 0 (by omega) (by omega) (by omega) (by omega)) ?_; rintro _ _ ⟨m, p2, q2, hR, rfl, rfl⟩
    rw [hp, show (8 : Int) = ((8 : Nat) : Int) from rfl, rdN_whole (k := 8) (x := nn) (pre := pre) (post := post) (by rw [hW, enc_2 (o := (kd, nn, ss)) (show pickV kd 4 = 2 by omega)]) (by omega) (by rw [show (256 : Int) ^ 8 = 18446744073709551616 from rfl]; omega)] at hR
    injection hR with hR1 hR2
    injection hR2 with hR2 hR3
    subst hR1 hR3
    obtain rfl : p2 = p9 := by omega
    refine l_assign rfl rfl ?_
    refine l_nil ?_
    refine g_seq ?_
    refine g_region ?_
    refine l_move rfl rfl ?_
    refine l_fieldAddr rfl fa_66_1 rfl ?_
    first | refine l_ld rfl Try.isAgg53 rfl rfl ?_ | refine l_ldw rfl Try.isAgg53 rfl (by omega) ?_
    refine l_eql rfl rfl rfl ?_
    refine l_assign rfl rfl ?_
    refine l_nil ?_
    refine g_ret Try.func30 rfl (.tmp rfl .nil) ?_
    (first | exact Gives.mki ⟨rfl, rfl⟩ | exact Gives.mki ⟨(show Value.bool _ = _ from congrArg Value.bool (decide_eq_true (by omega))), rfl⟩)
  intro hbr
  have hbr := of_decide_eq_false hbr
  refine g_skip ?_
  refine g_inBlock ?_
  refine g_seq ?_
  refine g_region ?_
  refine l_move rfl rfl ?_
  refine l_fieldAddr rfl fa_66_2 rfl ?_
  refine l_ld rfl Try.isAgg9 rfl rfl ?_
  refine l_lens rfl Try.underlying9 rfl ?_
  refine l_fronto g ?_
  refine l_frontb bs ?_
  refine l_frontb bq ?_
  refine l_call rfl Try.call35 rfl (rtext_ok _ _ bq bs g n B hB hU hn p 0 (by omega) (by omega) (by omega) (by omega) _ (by omega) (by omega)) ?_; rintro _ _ ⟨T, p2, q2, hR, rfl, rfl⟩
  rw [hp, rdT_whole (pre := pre) (post := post) hz (by rw [hW, enc_3 (o := (kd, nn, ss)) (show pickV kd 4 = 3 by omega)])] at hR
  injection hR with hR1 hR2
  injection hR2 with hR2 hR3
  subst hR1 hR3
  obtain rfl : p2 = p9 := by omega
  rw [str_bytes]
  refine l_assign rfl rfl ?_
  refine l_nil ?_
  refine g_seq ?_
  refine g_region ?_
  refine l_move rfl rfl ?_
  refine l_fieldAddr rfl fa_66_2 rfl ?_
  refine l_ld rfl Try.isAgg9 rfl rfl ?_
  refine l_eqls rfl rfl rfl ?_
  rw [show (ss.toList == ss.toList) = true from beq_self_eq_true _]
  refine l_assign rfl rfl ?_
  refine l_nil ?_
  refine g_ret Try.func30 rfl (.tmp rfl .nil) ?_
  (first | exact Gives.mki ⟨rfl, rfl⟩ | exact Gives.mki ⟨(show Value.bool _ = _ from congrArg Value.bool (decide_eq_true (by omega))), rfl⟩)
theorem reads_none (w0 : World) (F : List Atom) (bq bs g n : Nat) (B : List Int) (hB : B.length = n) (hU : ∀ i, 0 ≤ B.getD i 0 ∧ B.getD i 0 ≤ 255) (hn : n ≤ 140737488355327) (kd : Int) (k0 : -9223372036854775808 ≤ kd) (k1 : kd ≤ 9223372036854775807) (p q : Int) (p0 : 0 ≤ p) (p1 : p ≤ n) (e : Nat) (he : (pickV kd 4 = 0 ∧ e = 1) ∨ (pickV kd 4 = 1 ∧ e = 4) ∨ (pickV kd 4 = 2 ∧ e = 8)) (hs : q = 12 ∨ (q = 0 ∧ (B.length : Int) - p < e)) :
    CallK Try.prog 30 [.pointer (some ⟨bq, 0, none⟩), .agg #[.int .i64 kd, .int .u64 0, .string ⟨#[]⟩]] w0 (Blk bq (.cells [Value.pointer (some ⟨bs, 0, none⟩), .int .i64 q].toArray 113 (0, 0)) :: Blk bs (.cells [Value.slice (some ⟨g, 0, none⟩) n n, .int .i64 p].toArray 109 (0, 0)) :: Own 5 1 (.slice (some ⟨g, 0, none⟩) n n) n (ints .u8 B) :: F) (Gives w0 fun v F2 => v = .bool true ∧ F2 = Blk bq (.cells [Value.pointer (some ⟨bs, 0, none⟩), .int .i64 12].toArray 113 (0, 0)) :: Blk bs (.cells [Value.slice (some ⟨g, 0, none⟩) n n, .int .i64 p].toArray 109 (0, 0)) :: Own 5 1 (.slice (some ⟨g, 0, none⟩) n n) n (ints .u8 B) :: F) := by
  refine c_enter Try.func30 rfl rfl rfl ?_
  refine g_seq ?_
  refine g_region ?_
  refine l_boxs rfl rfl ?_; intro b3
  refine l_assign rfl rfl ?_
  refine l_nil ?_
  refine g_seq ?_
  refine g_seq ?_
  refine g_region ?_
  refine l_fieldAddr rfl fa_66_0 rfl ?_
  first | refine l_ld rfl Try.isAgg3 rfl rfl ?_ | refine l_ldw rfl Try.isAgg3 rfl (by omega) ?_
  refine l_call rfl Try.call14 rfl (pick_ok _ _ kd k0 k1 4 (by omega) (by omega)) ?_; rintro _ F9 ⟨rfl, hF9⟩; rw [hF9]; clear hF9 F9
  have hpk := @pickV_bd kd 4 (by decide)
  refine l_nil ?_
  refine g_block ?_
  refine g_seq ?_
  refine g_region ?_
  refine l_eql rfl rfl rfl ?_
  refine l_assign rfl rfl ?_
  refine l_nil ?_
  refine g_cond rfl ?_ ?_
  · intro hbr
    have hbr := of_decide_eq_true hbr
    refine g_seq ?_
    refine g_region ?_
    refine l_move rfl rfl ?_
    refine l_fronto g ?_
    refine l_frontb bs ?_
    refine l_frontb bq ?_
    refine l_call rfl Try.call42 rfl (r8_ok _ _ bq bs g n B hB hU hn p q (by omega) (by omega) (by omega) (by omega)) ?_; rintro _ _ ⟨m, p2, q2, hR, rfl, rfl⟩
    rw [rdN_none (by omega)] at hR
    injection hR with hR1 hR2
    injection hR2 with hR2 hR3
    subst hR1 hR2 hR3
    refine l_assign rfl rfl ?_
    refine l_nil ?_
    refine g_seq ?_
    refine g_region ?_
    refine l_move rfl rfl ?_
    refine l_fieldAddr rfl fa_66_1 rfl ?_
    first | refine l_ld rfl Try.isAgg53 rfl rfl ?_ | refine l_ldw rfl Try.isAgg53 rfl (by omega) ?_
    refine l_convm (m := 256) rfl wr_u8 Try.underlying53 Try.underlying5 rfl ?_
    refine l_eql rfl rfl rfl ?_
    refine l_assign rfl rfl ?_
    refine l_nil ?_
    refine g_ret Try.func30 rfl (.tmp rfl .nil) ?_
    (first | exact Gives.mki ⟨rfl, rfl⟩ | exact Gives.mki ⟨(show Value.bool _ = _ from congrArg Value.bool (decide_eq_true (by omega))), rfl⟩)
  intro hbr
  have hbr := of_decide_eq_false hbr
  refine g_seq ?_
  refine g_region ?_
  refine l_eql rfl rfl rfl ?_
  refine l_assign rfl rfl ?_
  refine l_nil ?_
  refine g_cond rfl ?_ ?_
  · intro hbr
    have hbr := of_decide_eq_true hbr
    refine g_seq ?_
    refine g_region ?_
    refine l_move rfl rfl ?_
    refine l_fronto g ?_
    refine l_frontb bs ?_
    refine l_frontb bq ?_
    refine l_call rfl Try.call47 rfl (r32_ok _ _ bq bs g n B hB hU hn p q (by omega) (by omega) (by omega) (by omega)) ?_; rintro _ _ ⟨m, p2, q2, hR, rfl, rfl⟩
    rw [rdN_none (by omega)] at hR
    injection hR with hR1 hR2
    injection hR2 with hR2 hR3
    subst hR1 hR2 hR3
    refine l_assign rfl rfl ?_
    refine l_nil ?_
    refine g_seq ?_
    refine g_region ?_
    refine l_move rfl rfl ?_
    refine l_fieldAddr rfl fa_66_1 rfl ?_
    first | refine l_ld rfl Try.isAgg53 rfl rfl ?_ | refine l_ldw rfl Try.isAgg53 rfl (by omega) ?_
    refine l_convm (m := 4294967296) rfl wr_u32 Try.underlying53 Try.underlying23 rfl ?_
    refine l_eql rfl rfl rfl ?_
    refine l_assign rfl rfl ?_
    refine l_nil ?_
    refine g_ret Try.func30 rfl (.tmp rfl .nil) ?_
    (first | exact Gives.mki ⟨rfl, rfl⟩ | exact Gives.mki ⟨(show Value.bool _ = _ from congrArg Value.bool (decide_eq_true (by omega))), rfl⟩)
  intro hbr
  have hbr := of_decide_eq_false hbr
  refine g_seq ?_
  refine g_region ?_
  refine l_eql rfl rfl rfl ?_
  refine l_assign rfl rfl ?_
  refine l_nil ?_
  refine g_cond rfl ?_ ?_
  · intro hbr
    have hbr := of_decide_eq_true hbr
    refine g_seq ?_
    refine g_region ?_
    refine l_move rfl rfl ?_
    refine l_fronto g ?_
    refine l_frontb bs ?_
    refine l_frontb bq ?_
    refine l_call rfl Try.call48 rfl (r64_ok _ _ bq bs g n B hB hU hn p q (by omega) (by omega) (by omega) (by omega)) ?_; rintro _ _ ⟨m, p2, q2, hR, rfl, rfl⟩
    rw [rdN_none (by omega)] at hR
    injection hR with hR1 hR2
    injection hR2 with hR2 hR3
    subst hR1 hR2 hR3
    refine l_assign rfl rfl ?_
    refine l_nil ?_
    refine g_seq ?_
    refine g_region ?_
    refine l_move rfl rfl ?_
    refine l_fieldAddr rfl fa_66_1 rfl ?_
    first | refine l_ld rfl Try.isAgg53 rfl rfl ?_ | refine l_ldw rfl Try.isAgg53 rfl (by omega) ?_
    refine l_eql rfl rfl rfl ?_
    refine l_assign rfl rfl ?_
    refine l_nil ?_
    refine g_ret Try.func30 rfl (.tmp rfl .nil) ?_
    (first | exact Gives.mki ⟨rfl, rfl⟩ | exact Gives.mki ⟨(show Value.bool _ = _ from congrArg Value.bool (decide_eq_true (by omega))), rfl⟩)
  · intro hbr
    have hbr := of_decide_eq_false hbr
    (exfalso; omega)
theorem zero_none (w0 : World) (F : List Atom) (bq bs g n : Nat) (B : List Int) (hB : B.length = n) (hU : ∀ i, 0 ≤ B.getD i 0 ∧ B.getD i 0 ≤ 255) (hn : n ≤ 140737488355327) (kd : Int) (k0 : -9223372036854775808 ≤ kd) (k1 : kd ≤ 9223372036854775807) (p q : Int) (p0 : 0 ≤ p) (p1 : p ≤ n) (e : Nat) (he : (pickV kd 4 = 0 ∧ e = 1) ∨ (pickV kd 4 = 1 ∧ e = 4) ∨ (pickV kd 4 = 2 ∧ e = 8)) (hs : q = 12 ∨ (q = 0 ∧ (B.length : Int) - p < e)) (nn : Int) (ss : ByteArray) :
    CallK Try.prog 36 [.pointer (some ⟨bq, 0, none⟩), .agg #[.int .i64 kd, .int .u64 nn, .string ss]] w0 (Blk bq (.cells [Value.pointer (some ⟨bs, 0, none⟩), .int .i64 q].toArray 113 (0, 0)) :: Blk bs (.cells [Value.slice (some ⟨g, 0, none⟩) n n, .int .i64 p].toArray 109 (0, 0)) :: Own 5 1 (.slice (some ⟨g, 0, none⟩) n n) n (ints .u8 B) :: F) (Gives w0 fun v F2 => v = .bool true ∧ F2 = Blk bq (.cells [Value.pointer (some ⟨bs, 0, none⟩), .int .i64 12].toArray 113 (0, 0)) :: Blk bs (.cells [Value.slice (some ⟨g, 0, none⟩) n n, .int .i64 p].toArray 109 (0, 0)) :: Own 5 1 (.slice (some ⟨g, 0, none⟩) n n) n (ints .u8 B) :: F) := by
  refine c_enter Try.func36 rfl rfl rfl ?_
  refine g_seq ?_
  refine g_region ?_
  refine l_boxs rfl rfl ?_; intro b3
  refine l_assign rfl rfl ?_
  refine l_nil ?_
  refine g_seq ?_
  refine g_region ?_
  refine l_move rfl rfl ?_
  refine l_fieldAddr rfl fa_66_0 rfl ?_
  first | refine l_ld rfl Try.isAgg3 rfl rfl ?_ | refine l_ldw rfl Try.isAgg3 rfl (by omega) ?_
  refine l_build rfl rfl (fun w => bd_66_0 _ w) ?_
  refine l_fronto g ?_
  refine l_frontb bs ?_
  refine l_frontb bq ?_
  refine l_call rfl Try.call30 rfl (reads_none _ _ bq bs g n B hB hU hn kd k0 k1 p q p0 p1 e he hs) ?_; rintro _ _ ⟨rfl, rfl⟩
  refine l_assign rfl rfl ?_
  refine l_nil ?_
  refine g_ret Try.func36 rfl (.tmp rfl .nil) ?_
  exact Gives.mki ⟨rfl, rfl⟩
theorem much_ok (w0 : World) (F : List Atom) (a : Option Addr) (n c : Nat) (L : List Item) (hI : ItR w0 F a n L) (hz : ∀ i, i < n → (iat L i).2.2.size ≤ 140737488355328) (hn : n ≤ 9223372036854775807) :
    CallK Try.prog 24 [.slice a n c] w0 (F) (Gives w0 fun v F2 => ∃ b, v = .bool b ∧ F2 = F ∧ (b = false → tot L n ≤ 2147483647)) := by
  have hl := hI.1
  refine c_enter Try.func24 rfl rfl rfl ?_
  refine g_seq ?_
  refine g_region ?_
  refine l_assign rfl rfl ?_
  refine l_nil ?_
  refine g_seq ?_
  refine g_region ?_
  refine l_assign rfl rfl ?_
  refine l_nil ?_
  refine g_seq ?_
  refine g_seq ?_
  refine g_region ?_
  refine l_assign rfl rfl ?_
  refine l_nil ?_
  refine g_block ?_
  refine g_loopc (X := Int) [(0, _)] (.cons rfl (.nil)) (fun i => 0 ≤ i ∧ i ≤ n ∧ tot L i.toNat ≤ 2147483647) (fun i => (n - i).toNat) (fun i => [(3, .int .i64 (tot L i.toNat)), (4, .int .i64 i)]) (0) (⟨by omega, by omega, by simp [tot]⟩) (.cons rfl (.cons rfl .nil)) ?_
  rintro i ⟨i0, i1, ht⟩ ih
  dsimp only [List.cons_append, List.nil_append] at ih ⊢
  have htn := tot_nn L i.toNat
  have hts : tot L (i + 1).toNat = tot L i.toNat + (iat L i.toNat).2.2.size + 8 := by rw [show (i + 1).toNat = i.toNat + 1 by omega]; rfl
  refine g_seq ?_
  refine g_seq ?_
  refine g_region ?_
  refine l_move rfl rfl ?_
  refine l_move rfl rfl ?_
  refine l_len rfl Try.underlying59 rfl ?_
  refine l_lss rfl rfl rfl ?_
  refine l_nil ?_
  refine g_cond rfl ?_ ?_
  · intro hbr
    have hbr := of_decide_eq_true hbr
    refine g_skip ?_
    refine g_seq ?_
    refine g_block ?_
    refine g_seq ?_
    refine g_region ?_
    refine l_move rfl rfl ?_
    refine l_move rfl rfl ?_
    refine l_move rfl rfl ?_
    obtain ⟨b9, o9, rfl, hr9⟩ := hI.row (i := i.toNat) (by omega)
    have hzi := hz i.toNat (by omega)
    refine l_ixs rfl Try.underlying59 Try.sizeOf66 rfl rfl (by omega) (by omega) ?_
    refine l_fieldAddr rfl fa_66_2 rfl ?_
    refine l_loadc (v := .string (iat L i.toNat).2.2) rfl Try.isAgg9 rfl ((row_elem hr9.ex (itV_len L) (itV_at (by omega))).cell (j := 2) rfl) ?_
    refine l_lens rfl Try.underlying9 rfl ?_
    first | refine l_add rfl rfl rfl (w_i64 (by omega) (by omega)) ?_ | refine l_addw rfl rfl rfl ?_
    first | refine l_add rfl rfl rfl (w_i64 (by omega) (by omega)) ?_ | refine l_addw rfl rfl rfl ?_
    refine l_assign rfl rfl ?_
    refine l_nil ?_
    refine g_seq ?_
    refine g_region ?_
    refine l_move rfl rfl ?_
    refine l_gtr rfl rfl rfl ?_
    refine l_nil ?_
    refine g_cond rfl ?_ ?_
    · intro hbr
      have hbr := of_decide_eq_true hbr
      refine g_seq ?_
      refine g_region ?_
      refine l_assign rfl rfl ?_
      refine l_nil ?_
      refine g_ret Try.func24 rfl (.tmp rfl .nil) ?_
      (first | exact Gives.mki ⟨false, rfl, rfl, fun _ => ht⟩ | exact Gives.mki ⟨true, rfl, rfl, fun h => by cases h⟩)
    intro hbr
    have hbr := of_decide_eq_false hbr
    refine g_skip ?_
    refine g_inBlock ?_
    refine g_region ?_
    refine l_move rfl rfl ?_
    first | refine l_add rfl rfl rfl (w_i64 (by omega) (by omega)) ?_ | refine l_addw rfl rfl rfl ?_
    refine l_assign rfl rfl ?_
    refine l_nil ?_
    rw [← hts]
    exact g_againi (ih (i + 1) ⟨by omega, by omega, by omega⟩ (by omega)) (.cons rfl (.cons rfl (.cons rfl (.nil))))
  intro hbr
  have hbr := of_decide_eq_false hbr
  refine g_exit rfl ?_
  obtain rfl : i = n := by omega
  rw [Int.toNat_natCast] at ht
  refine g_seq ?_
  refine g_region ?_
  refine l_assign rfl rfl ?_
  refine l_nil ?_
  refine g_ret Try.func24 rfl (.tmp rfl .nil) ?_
  (first | exact Gives.mki ⟨false, rfl, rfl, fun _ => ht⟩ | exact Gives.mki ⟨true, rfl, rfl, fun h => by cases h⟩)
end Go.Proofs.Ytnkmhhjldfapdaa.Fw
