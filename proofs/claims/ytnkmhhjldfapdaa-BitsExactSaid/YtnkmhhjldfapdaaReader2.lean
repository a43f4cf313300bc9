import Derived.Test.YtnkmhhjldfapdaaReader
namespace Go.Proofs.Ytnkmhhjldfapdaa.Fw
open Go Go.Proofs
set_option linter.unusedVariables false
set_option linter.unusedSimpArgs false
set_option maxRecDepth 10000
theorem bd_109_0 (a0_0 : Option Addr) (n0_0 c0_0 : Nat) (w : World) : (Instr.build 109 #[(0, .slice a0_0 n0_0 c0_0)]).run Try.prog w = .ok (.agg #[.slice a0_0 n0_0 c0_0, .int .i64 0]) w := by kernel_rfl
theorem bd_113_0 (a0_0 : Option Addr) (w : World) : (Instr.build 113 #[(0, .pointer a0_0)]).run Try.prog w = .ok (.agg #[.pointer a0_0, .int .i64 0]) w := by kernel_rfl
theorem rdN_spec {B : List Int} (hU : ∀ i, 0 ≤ B.getD i 0 ∧ B.getD i 0 ≤ 255) {p q k m p2 q2 : Int} (h : rdN B p q k = (m, p2, q2)) : ((q ≠ 0 ∧ m = 0 ∧ p2 = p ∧ q2 = q) ∨ (q = 0 ∧ (B.length : Int) - p < k ∧ m = 0 ∧ p2 = p ∧ q2 = 12) ∨ (q = 0 ∧ ¬ (B.length : Int) - p < k ∧ m = numB B p.toNat k.toNat ∧ p2 = p + k ∧ q2 = 0)) ∧ 0 ≤ m ∧ m < 256 ^ k.toNat := by
  have h0 : (0 : Int) < 256 ^ k.toNat := Int.pow_pos (by decide)
  have hb := numB_bd hU k.toNat p.toNat
  unfold rdN at h
  split at h
  · injection h with h1 h2; injection h2 with h2 h3; omega
  · split at h
    · injection h with h1 h2; injection h2 with h2 h3; omega
    · injection h with h1 h2; injection h2 with h2 h3; omega
/-- What a reader's text tells, and where the reader stands then. -/
def rdT (B : List Int) (p q most : Int) : List Int × Int × Int :=
  if q ≠ 0 then ([], p, q) else if (rdN B p q 4).2.2 ≠ 0 then ([], p, (rdN B p q 4).2.2) else if (rdN B p q 4).1 > max most 0 then ([], p, 14) else if (rdN B p q 4).1 > (B.length : Int) - (rdN B p q 4).2.1 then ([], p, 12)
  else ((B.drop (rdN B p q 4).2.1.toNat).take (((rdN B p q 4).2.1 + (rdN B p q 4).1).toNat - (rdN B p q 4).2.1.toNat), (rdN B p q 4).2.1 + (rdN B p q 4).1, 0)
theorem rdT_flt {B : List Int} {p q most : Int} (h : q ≠ 0) : rdT B p q most = ([], p, q) := by unfold rdT; rw [if_pos h]
theorem rdT_num {B : List Int} {p q most m p2 q2 : Int} (h : q = 0) (hR : rdN B p q 4 = (m, p2, q2)) (h2 : q2 ≠ 0) : rdT B p q most = ([], p, q2) := by unfold rdT; rw [if_neg (by omega), hR]; dsimp only; rw [if_pos h2]
theorem rdT_most {B : List Int} {p q most m p2 q2 : Int} (h : q = 0) (hR : rdN B p q 4 = (m, p2, q2)) (h2 : q2 = 0) (h3 : m > max most 0) : rdT B p q most = ([], p, 14) := by unfold rdT; rw [if_neg (by omega), hR]; dsimp only; rw [if_neg (by omega), if_pos h3]
theorem rdT_short {B : List Int} {p q most m p2 q2 : Int} (h : q = 0) (hR : rdN B p q 4 = (m, p2, q2)) (h2 : q2 = 0) (h3 : ¬ m > max most 0) (h4 : m > (B.length : Int) - p2) : rdT B p q most = ([], p, 12) := by unfold rdT; rw [if_neg (by omega), hR]; dsimp only; rw [if_neg (by omega), if_neg h3, if_pos h4]
theorem rdT_ok {B : List Int} {p q most m p2 q2 : Int} (h : q = 0) (hR : rdN B p q 4 = (m, p2, q2)) (h2 : q2 = 0) (h3 : ¬ m > max most 0) (h4 : ¬ m > (B.length : Int) - p2) : rdT B p q most = ((B.drop p2.toNat).take ((p2 + m).toNat - p2.toNat), p2 + m, 0) := by unfold rdT; rw [if_neg (by omega), hR]; dsimp only; rw [if_neg (by omega), if_neg h3, if_neg h4]
def endV (n : Nat) (p q : Int) : Int := if q ≠ 0 then q else if (n : Int) - p > 0 then 13 else 0
theorem r8_ok (w0 : World) (F : List Atom) (bq bs g n : Nat) (B : List Int) (hB : B.length = n) (hU : ∀ i, 0 ≤ B.getD i 0 ∧ B.getD i 0 ≤ 255) (hn : n ≤ 140737488355327) (p q : Int) (p0 : 0 ≤ p) (p1 : p ≤ n) (q0 : 0 ≤ q) (q1 : q ≤ 20) :
    CallK Try.prog 42 [.pointer (some ⟨bq, 0, none⟩)] w0 (Blk bq (.cells [Value.pointer (some ⟨bs, 0, none⟩), .int .i64 q].toArray 113 (0, 0)) :: Blk bs (.cells [Value.slice (some ⟨g, 0, none⟩) n n, .int .i64 p].toArray 109 (0, 0)) :: Own 5 1 (.slice (some ⟨g, 0, none⟩) n n) n (ints .u8 B) :: F) (Gives w0 fun v F2 => ∃ m p2 q2, rdN B p q 1 = (m, p2, q2) ∧ v = .int .u8 m ∧ F2 = Blk bq (.cells [Value.pointer (some ⟨bs, 0, none⟩), .int .i64 q2].toArray 113 (0, 0)) :: Blk bs (.cells [Value.slice (some ⟨g, 0, none⟩) n n, .int .i64 p2].toArray 109 (0, 0)) :: Own 5 1 (.slice (some ⟨g, 0, none⟩) n n) n (ints .u8 B) :: F) := by
  refine c_enter Try.func42 rfl rfl rfl ?_
  refine g_seq ?_
  refine g_region ?_
  refine l_assign rfl rfl ?_
  refine l_nil ?_
  refine g_seq ?_
  refine g_region ?_
  refine l_move rfl rfl ?_
  refine l_call rfl Try.call75 rfl (number_ok _ _ bq bs g n B hB hU hn p q (by omega) (by omega) (by omega) (by omega) 1 (by omega) (by omega)) ?_; rintro _ _ ⟨m, p2, q2, hR, rfl, rfl⟩
  have hsp := rdN_spec hU hR
  rw [show (256 : Int) ^ (1 : Int).toNat = 256 from rfl] at hsp
  have hsp1 := hsp.1
  have hsp2 := hsp.2
  first | refine l_conv rfl Try.underlying53 Try.underlying5 rfl (w_u8 (by omega) (by omega)) ?_ | refine l_convm (m := 256) rfl wr_u8 Try.underlying53 Try.underlying5 rfl ?_
  refine l_assign rfl rfl ?_
  refine l_nil ?_
  refine g_ret Try.func42 rfl (.tmp rfl .nil) ?_
  exact Gives.mki ⟨m, p2, q2, hR, rfl, rfl⟩
theorem r32_ok (w0 : World) (F : List Atom) (bq bs g n : Nat) (B : List Int) (hB : B.length = n) (hU : ∀ i, 0 ≤ B.getD i 0 ∧ B.getD i 0 ≤ 255) (hn : n ≤ 140737488355327) (p q : Int) (p0 : 0 ≤ p) (p1 : p ≤ n) (q0 : 0 ≤ q) (q1 : q ≤ 20) :
    CallK Try.prog 47 [.pointer (some ⟨bq, 0, none⟩)] w0 (Blk bq (.cells [Value.pointer (some ⟨bs, 0, none⟩), .int .i64 q].toArray 113 (0, 0)) :: Blk bs (.cells [Value.slice (some ⟨g, 0, none⟩) n n, .int .i64 p].toArray 109 (0, 0)) :: Own 5 1 (.slice (some ⟨g, 0, none⟩) n n) n (ints .u8 B) :: F) (Gives w0 fun v F2 => ∃ m p2 q2, rdN B p q 4 = (m, p2, q2) ∧ v = .int .u32 m ∧ F2 = Blk bq (.cells [Value.pointer (some ⟨bs, 0, none⟩), .int .i64 q2].toArray 113 (0, 0)) :: Blk bs (.cells [Value.slice (some ⟨g, 0, none⟩) n n, .int .i64 p2].toArray 109 (0, 0)) :: Own 5 1 (.slice (some ⟨g, 0, none⟩) n n) n (ints .u8 B) :: F) := by
  refine c_enter Try.func47 rfl rfl rfl ?_
  refine g_seq ?_
  refine g_region ?_
  refine l_assign rfl rfl ?_
  refine l_nil ?_
  refine g_seq ?_
  refine g_region ?_
  refine l_move rfl rfl ?_
  refine l_call rfl Try.call75 rfl (number_ok _ _ bq bs g n B hB hU hn p q (by omega) (by omega) (by omega) (by omega) 4 (by omega) (by omega)) ?_; rintro _ _ ⟨m, p2, q2, hR, rfl, rfl⟩
  have hsp := rdN_spec hU hR
  rw [show (256 : Int) ^ (4 : Int).toNat = 4294967296 from rfl] at hsp
  have hsp1 := hsp.1
  have hsp2 := hsp.2
  first | refine l_conv rfl Try.underlying53 Try.underlying23 rfl (w_u32 (by omega) (by omega)) ?_ | refine l_convm (m := 4294967296) rfl wr_u32 Try.underlying53 Try.underlying23 rfl ?_
  refine l_assign rfl rfl ?_
  refine l_nil ?_
  refine g_ret Try.func47 rfl (.tmp rfl .nil) ?_
  exact Gives.mki ⟨m, p2, q2, hR, rfl, rfl⟩
theorem r64_ok (w0 : World) (F : List Atom) (bq bs g n : Nat) (B : List Int) (hB : B.length = n) (hU : ∀ i, 0 ≤ B.getD i 0 ∧ B.getD i 0 ≤ 255) (hn : n ≤ 140737488355327) (p q : Int) (p0 : 0 ≤ p) (p1 : p ≤ n) (q0 : 0 ≤ q) (q1 : q ≤ 20) :
    CallK Try.prog 48 [.pointer (some ⟨bq, 0, none⟩)] w0 (Blk bq (.cells [Value.pointer (some ⟨bs, 0, none⟩), .int .i64 q].toArray 113 (0, 0)) :: Blk bs (.cells [Value.slice (some ⟨g, 0, none⟩) n n, .int .i64 p].toArray 109 (0, 0)) :: Own 5 1 (.slice (some ⟨g, 0, none⟩) n n) n (ints .u8 B) :: F) (Gives w0 fun v F2 => ∃ m p2 q2, rdN B p q 8 = (m, p2, q2) ∧ v = .int .u64 m ∧ F2 = Blk bq (.cells [Value.pointer (some ⟨bs, 0, none⟩), .int .i64 q2].toArray 113 (0, 0)) :: Blk bs (.cells [Value.slice (some ⟨g, 0, none⟩) n n, .int .i64 p2].toArray 109 (0, 0)) :: Own 5 1 (.slice (some ⟨g, 0, none⟩) n n) n (ints .u8 B) :: F) := by
  refine c_enter Try.func48 rfl rfl rfl ?_
  refine g_seq ?_
  refine g_region ?_
  refine l_assign rfl rfl ?_
  refine l_nil ?_
  refine g_seq ?_
  refine g_region ?_
  refine l_move rfl rfl ?_
  refine l_call rfl Try.call75 rfl (number_ok _ _ bq bs g n B hB hU hn p q (by omega) (by omega) (by omega) (by omega) 8 (by omega) (by omega)) ?_; rintro _ _ ⟨m, p2, q2, hR, rfl, rfl⟩
  have hsp := rdN_spec hU hR
  rw [show (256 : Int) ^ (8 : Int).toNat = 18446744073709551616 from rfl] at hsp
  have hsp1 := hsp.1
  have hsp2 := hsp.2
  refine l_assign rfl rfl ?_
  refine l_nil ?_
  refine g_ret Try.func48 rfl (.tmp rfl .nil) ?_
  exact Gives.mki ⟨m, p2, q2, hR, rfl, rfl⟩
theorem rtext_ok (w0 : World) (F : List Atom) (bq bs g n : Nat) (B : List Int) (hB : B.length = n) (hU : ∀ i, 0 ≤ B.getD i 0 ∧ B.getD i 0 ≤ 255) (hn : n ≤ 140737488355327) (p q : Int) (p0 : 0 ≤ p) (p1 : p ≤ n) (q0 : 0 ≤ q) (q1 : q ≤ 20) (most : Int) (most0 : -9223372036854775808 ≤ most) (most1 : most ≤ 9223372036854775807) :
    CallK Try.prog 35 [.pointer (some ⟨bq, 0, none⟩), .int .i64 most] w0 (Blk bq (.cells [Value.pointer (some ⟨bs, 0, none⟩), .int .i64 q].toArray 113 (0, 0)) :: Blk bs (.cells [Value.slice (some ⟨g, 0, none⟩) n n, .int .i64 p].toArray 109 (0, 0)) :: Own 5 1 (.slice (some ⟨g, 0, none⟩) n n) n (ints .u8 B) :: F) (Gives w0 fun v F2 => ∃ T p2 q2, rdT B p q most = (T, p2, q2) ∧ v = .string (strOfNums T) ∧ F2 = Blk bq (.cells [Value.pointer (some ⟨bs, 0, none⟩), .int .i64 q2].toArray 113 (0, 0)) :: Blk bs (.cells [Value.slice (some ⟨g, 0, none⟩) n n, .int .i64 p2].toArray 109 (0, 0)) :: Own 5 1 (.slice (some ⟨g, 0, none⟩) n n) n (ints .u8 B) :: F) := by
  refine c_enter Try.func35 rfl rfl rfl ?_
  refine g_seq ?_
  refine g_region ?_
  refine l_assign rfl rfl ?_
  refine l_nil ?_
  refine g_seq ?_
  refine g_seq ?_
  refine g_region ?_
  refine l_move rfl rfl ?_
  refine l_eqpn rfl Try.underlying69 rfl rfl ?_
  refine l_move rfl rfl ?_
  refine l_guard_yes rfl rfl ?_
  refine l_move rfl rfl ?_
  refine l_guard_yes rfl rfl ?_
  refine l_nilCheck rfl rfl ?_
  refine l_guard_yes rfl rfl ?_
  refine l_fieldAddr rfl fa_113_1 rfl ?_
  refine l_guard_yes rfl rfl ?_
  first | refine l_ld rfl Try.isAgg26 rfl rfl ?_ | refine l_ldw rfl Try.isAgg26 rfl (by omega) ?_
  refine l_guard_yes rfl rfl ?_
  refine l_neq rfl rfl rfl ?_
  refine l_pick_f rfl rfl rfl ?_
  refine l_nil ?_
  refine g_cond rfl ?_ ?_
  · intro hbr
    have hbr := of_decide_eq_true hbr
    refine g_seq ?_
    refine g_region ?_
    refine l_assign rfl rfl ?_
    refine l_nil ?_
    refine g_ret Try.func35 rfl (.tmp rfl .nil) ?_
    (first | exact Gives.mki ⟨_, _, _, rdT_flt (by omega), rfl, rfl⟩ | exact Gives.mki ⟨_, _, _, rdT_num (by omega) hR (by omega), rfl, rfl⟩ | exact Gives.mki ⟨_, _, _, rdT_most (by omega) hR (by omega) (by omega), rfl, rfl⟩ | exact Gives.mki ⟨_, _, _, rdT_short (by omega) hR (by omega) (by omega) (by omega), rfl, rfl⟩ | (rw [show q2 = 0 by omega]; exact Gives.mki ⟨_, _, _, rdT_ok (by omega) hR (by omega) (by omega) (by omega), rfl, rfl⟩))
  intro hbr
  have hbr := of_decide_eq_false hbr
  refine g_skip ?_
  refine g_seq ?_
  refine g_region ?_
  refine l_move rfl rfl ?_
  refine l_nilCheck rfl rfl ?_
  refine l_fieldAddr rfl fa_113_0 rfl ?_
  refine l_ld rfl Try.isAgg107 rfl rfl ?_
  refine l_nilCheck rfl rfl ?_
  refine l_fieldAddr rfl fa_109_1 rfl ?_
  first | refine l_ld rfl Try.isAgg3 rfl rfl ?_ | refine l_ldw rfl Try.isAgg3 rfl (by omega) ?_
  refine l_assign rfl rfl ?_
  refine l_nil ?_
  refine g_seq ?_
  refine g_region ?_
  refine l_move rfl rfl ?_
  refine l_call rfl Try.call75 rfl (number_ok _ _ bq bs g n B hB hU hn p q (by omega) (by omega) (by omega) (by omega) 4 (by omega) (by omega)) ?_; rintro _ _ ⟨m, p2, q2, hR, rfl, rfl⟩
  have hsp := rdN_spec hU hR
  rw [show (256 : Int) ^ (4 : Int).toNat = 4294967296 from rfl] at hsp
  have hsp1 := hsp.1
  have hsp2 := hsp.2
  refine l_assign rfl rfl ?_
  refine l_nil ?_
  refine g_seq ?_
  refine g_block ?_
  refine g_seq ?_
  refine g_region ?_
  refine l_move rfl rfl ?_
  refine l_nilCheck rfl rfl ?_
  refine l_fieldAddr rfl fa_113_1 rfl ?_
  first | refine l_ld rfl Try.isAgg26 rfl rfl ?_ | refine l_ldw rfl Try.isAgg26 rfl (by omega) ?_
  refine l_neq rfl rfl rfl ?_
  refine l_assign rfl rfl ?_
  refine l_nil ?_
  refine g_cond rfl ?_ ?_
  · intro hbr
    have hbr := of_decide_eq_true hbr
    refine g_skip ?_
    refine g_inBlock ?_
    refine g_seq ?_
    refine g_seq ?_
    refine g_region ?_
    refine l_move rfl rfl ?_
    refine l_nilCheck rfl rfl ?_
    refine l_fieldAddr rfl fa_113_1 rfl ?_
    first | refine l_ld rfl Try.isAgg26 rfl rfl ?_ | refine l_ldw rfl Try.isAgg26 rfl (by omega) ?_
    refine l_neq rfl rfl rfl ?_
    refine l_nil ?_
    refine g_cond rfl ?_ ?_
    · intro hbr
      have hbr := of_decide_eq_true hbr
      refine g_seq ?_
      refine g_region ?_
      refine l_move rfl rfl ?_
      refine l_nilCheck rfl rfl ?_
      refine l_fieldAddr rfl fa_113_0 rfl ?_
      refine l_ld rfl Try.isAgg107 rfl rfl ?_
      refine l_move rfl rfl ?_
      refine l_nilCheck rfl rfl ?_
      refine l_fieldAddr rfl fa_109_1 rfl ?_
      first | refine l_st Try.sizeOf3 rfl rfl rfl rfl ?_ | refine l_stw Try.sizeOf3 rfl rfl (by omega) ?_
      refine l_nil ?_
      refine g_seq ?_
      refine g_region ?_
      refine l_assign rfl rfl ?_
      refine l_nil ?_
      refine g_ret Try.func35 rfl (.tmp rfl .nil) ?_
      (first | exact Gives.mki ⟨_, _, _, rdT_flt (by omega), rfl, rfl⟩ | exact Gives.mki ⟨_, _, _, rdT_num (by omega) hR (by omega), rfl, rfl⟩ | exact Gives.mki ⟨_, _, _, rdT_most (by omega) hR (by omega) (by omega), rfl, rfl⟩ | exact Gives.mki ⟨_, _, _, rdT_short (by omega) hR (by omega) (by omega) (by omega), rfl, rfl⟩ | (rw [show q2 = 0 by omega]; exact Gives.mki ⟨_, _, _, rdT_ok (by omega) hR (by omega) (by omega) (by omega), rfl, rfl⟩))
    · intro hbr
      have hbr := of_decide_eq_false hbr
      (exfalso; omega)
  intro hbr
  have hbr := of_decide_eq_false hbr
  refine g_seq ?_
  refine g_region ?_
  refine l_move rfl rfl ?_
  refine l_move rfl rfl ?_
  refine l_max rfl rfl rfl ?_
  first | refine l_conv rfl Try.underlying3 Try.underlying53 rfl (w_u64 (by omega) (by omega)) ?_ | refine l_convm (m := 18446744073709551616) rfl wr_u64 Try.underlying3 Try.underlying53 rfl ?_
  refine l_gtr rfl rfl rfl ?_
  refine l_assign rfl rfl ?_
  refine l_nil ?_
  refine g_cond rfl ?_ ?_
  · intro hbr
    have hbr := of_decide_eq_true hbr
    refine g_region ?_
    refine l_move rfl rfl ?_
    refine l_nilCheck rfl rfl ?_
    refine l_fieldAddr rfl fa_113_1 rfl ?_
    first | refine l_st Try.sizeOf26 rfl rfl rfl rfl ?_ | refine l_stw Try.sizeOf26 rfl rfl (by omega) ?_
    refine l_nil ?_
    refine g_inBlock ?_
    refine g_seq ?_
    refine g_seq ?_
    refine g_region ?_
    refine l_move rfl rfl ?_
    refine l_nilCheck rfl rfl ?_
    refine l_fieldAddr rfl fa_113_1 rfl ?_
    first | refine l_ld rfl Try.isAgg26 rfl rfl ?_ | refine l_ldw rfl Try.isAgg26 rfl (by omega) ?_
    refine l_neq rfl rfl rfl ?_
    refine l_nil ?_
    refine g_cond rfl ?_ ?_
    · intro hbr
      have hbr := of_decide_eq_true hbr
      refine g_seq ?_
      refine g_region ?_
      refine l_move rfl rfl ?_
      refine l_nilCheck rfl rfl ?_
      refine l_fieldAddr rfl fa_113_0 rfl ?_
      refine l_ld rfl Try.isAgg107 rfl rfl ?_
      refine l_move rfl rfl ?_
      refine l_nilCheck rfl rfl ?_
      refine l_fieldAddr rfl fa_109_1 rfl ?_
      first | refine l_st Try.sizeOf3 rfl rfl rfl rfl ?_ | refine l_stw Try.sizeOf3 rfl rfl (by omega) ?_
      refine l_nil ?_
      refine g_seq ?_
      refine g_region ?_
      refine l_assign rfl rfl ?_
      refine l_nil ?_
      refine g_ret Try.func35 rfl (.tmp rfl .nil) ?_
      (first | exact Gives.mki ⟨_, _, _, rdT_flt (by omega), rfl, rfl⟩ | exact Gives.mki ⟨_, _, _, rdT_num (by omega) hR (by omega), rfl, rfl⟩ | exact Gives.mki ⟨_, _, _, rdT_most (by omega) hR (by omega) (by omega), rfl, rfl⟩ | exact Gives.mki ⟨_, _, _, rdT_short (by omega) hR (by omega) (by omega) (by omega), rfl, rfl⟩ | (rw [show q2 = 0 by omega]; exact Gives.mki ⟨_, _, _, rdT_ok (by omega) hR (by omega) (by omega) (by omega), rfl, rfl⟩))
    · intro hbr
      have hbr := of_decide_eq_false hbr
      (exfalso; omega)
  intro hbr
  have hbr := of_decide_eq_false hbr
  refine g_seq ?_
  refine g_region ?_
  refine l_move rfl rfl ?_
  refine l_move rfl rfl ?_
  refine l_inl rfl Try.call33 rfl ?_
  refine c_enter Try.func33 rfl rfl rfl ?_
  refine g_seq ?_
  refine g_region ?_
  refine l_assign rfl rfl ?_
  refine l_nil ?_
  refine g_seq ?_
  refine g_seq ?_
  refine g_region ?_
  refine l_move rfl rfl ?_
  refine l_eqpn rfl Try.underlying69 rfl rfl ?_
  refine l_nil ?_
  first | refine g_cond_f rfl ?_ | refine g_cond_f (congrArg (fun b => some (Value.bool b)) (decide_eq_false hbr)) ?_
  refine g_skip ?_
  refine g_seq ?_
  refine g_region ?_
  refine l_move rfl rfl ?_
  refine l_nilCheck rfl rfl ?_
  refine l_fieldAddr rfl fa_113_0 rfl ?_
  refine l_ld rfl Try.isAgg107 rfl rfl ?_
  refine l_inl rfl Try.call74 rfl ?_
  refine c_enter Try.func74 rfl rfl rfl ?_
  refine g_seq ?_
  refine g_region ?_
  refine l_assign rfl rfl ?_
  refine l_nil ?_
  refine g_seq ?_
  refine g_seq ?_
  refine g_region ?_
  refine l_move rfl rfl ?_
  refine l_eqpn rfl Try.underlying107 rfl rfl ?_
  refine l_nil ?_
  first | refine g_cond_f rfl ?_ | refine g_cond_f (congrArg (fun b => some (Value.bool b)) (decide_eq_false hbr)) ?_
  refine g_skip ?_
  refine g_seq ?_
  refine gp_start mo (by kernel_rfl) (by kernel_rfl) ?_
  refine gp_quiet 0 rfl rfl rfl rfl rfl rfl (q_move rfl) ?_
  refine gp_quiet 1 rfl rfl rfl rfl rfl rfl (q_nilCheck rfl) ?_
  refine gp_quiet 2 rfl rfl rfl rfl rfl rfl (q_fieldAddr fa_109_0 rfl) ?_
  refine gp_quiet 3 rfl rfl rfl rfl rfl rfl (q_ld Try.isAgg36 rfl rfl) ?_
  refine gp_quiet 4 rfl rfl rfl rfl rfl rfl (q_len Try.underlying36 rfl) ?_
  refine gp_quiet 5 rfl rfl rfl rfl rfl rfl (q_move rfl) ?_
  refine gp_quiet 6 rfl rfl rfl rfl rfl rfl (q_nilCheck rfl) ?_
  refine gp_quiet 7 rfl rfl rfl rfl rfl rfl (q_fieldAddr fa_109_1 rfl) ?_
  first | refine gp_quiet 8 rfl rfl rfl rfl rfl rfl (q_ld Try.isAgg3 rfl rfl) ?_ | refine gp_quiet 8 rfl rfl rfl rfl rfl rfl (q_ldw Try.isAgg3 rfl (by omega)) ?_
  first | refine gp_quiet 9 rfl rfl rfl rfl rfl rfl (q_sub_ rfl rfl (w_i64 (by omega) (by omega))) ?_ | refine gp_quiet 9 rfl rfl rfl rfl rfl rfl (q_subw rfl rfl) ?_
  refine gp_quiet 10 rfl rfl rfl rfl rfl rfl (q_assign rfl) ?_
  refine gp_end rfl rfl ?_
  refine g_ret Try.func74 rfl (.tmp rfl .nil) ?_
  first | refine ⟨.int _ _, rfl, ?_⟩ | refine ⟨_, rfl, ?_⟩
  refine l_assign rfl rfl ?_
  refine l_nil ?_
  refine g_ret Try.func33 rfl (.tmp rfl .nil) ?_
  first | refine ⟨.int _ _, rfl, ?_⟩ | refine ⟨_, rfl, ?_⟩
  first | refine l_conv rfl Try.underlying3 Try.underlying53 rfl (w_u64 (by omega) (by omega)) ?_ | refine l_convm (m := 18446744073709551616) rfl wr_u64 Try.underlying3 Try.underlying53 rfl ?_
  refine l_gtr rfl rfl rfl ?_
  refine l_assign rfl rfl ?_
  refine l_nil ?_
  refine g_cond rfl ?_ ?_
  · intro hbr
    have hbr := of_decide_eq_true hbr
    refine g_region ?_
    refine l_move rfl rfl ?_
    refine l_nilCheck rfl rfl ?_
    refine l_fieldAddr rfl fa_113_1 rfl ?_
    first | refine l_st Try.sizeOf26 rfl rfl rfl rfl ?_ | refine l_stw Try.sizeOf26 rfl rfl (by omega) ?_
    refine l_nil ?_
    refine g_inBlock ?_
    refine g_seq ?_
    refine g_seq ?_
    refine g_region ?_
    refine l_move rfl rfl ?_
    refine l_nilCheck rfl rfl ?_
    refine l_fieldAddr rfl fa_113_1 rfl ?_
    first | refine l_ld rfl Try.isAgg26 rfl rfl ?_ | refine l_ldw rfl Try.isAgg26 rfl (by omega) ?_
    refine l_neq rfl rfl rfl ?_
    refine l_nil ?_
    refine g_cond rfl ?_ ?_
    · intro hbr
      have hbr := of_decide_eq_true hbr
      refine g_seq ?_
      refine g_region ?_
      refine l_move rfl rfl ?_
      refine l_nilCheck rfl rfl ?_
      refine l_fieldAddr rfl fa_113_0 rfl ?_
      refine l_ld rfl Try.isAgg107 rfl rfl ?_
      refine l_move rfl rfl ?_
      refine l_nilCheck rfl rfl ?_
      refine l_fieldAddr rfl fa_109_1 rfl ?_
      first | refine l_st Try.sizeOf3 rfl rfl rfl rfl ?_ | refine l_stw Try.sizeOf3 rfl rfl (by omega) ?_
      refine l_nil ?_
      refine g_seq ?_
      refine g_region ?_
      refine l_assign rfl rfl ?_
      refine l_nil ?_
      refine g_ret Try.func35 rfl (.tmp rfl .nil) ?_
      (first | exact Gives.mki ⟨_, _, _, rdT_flt (by omega), rfl, rfl⟩ | exact Gives.mki ⟨_, _, _, rdT_num (by omega) hR (by omega), rfl, rfl⟩ | exact Gives.mki ⟨_, _, _, rdT_most (by omega) hR (by omega) (by omega), rfl, rfl⟩ | exact Gives.mki ⟨_, _, _, rdT_short (by omega) hR (by omega) (by omega) (by omega), rfl, rfl⟩ | (rw [show q2 = 0 by omega]; exact Gives.mki ⟨_, _, _, rdT_ok (by omega) hR (by omega) (by omega) (by omega), rfl, rfl⟩))
    · intro hbr
      have hbr := of_decide_eq_false hbr
      (exfalso; omega)
  intro hbr
  have hbr := of_decide_eq_false hbr
  refine g_skip ?_
  refine g_inBlock ?_
  refine g_seq ?_
  refine g_seq ?_
  refine g_region ?_
  refine l_move rfl rfl ?_
  refine l_nilCheck rfl rfl ?_
  refine l_fieldAddr rfl fa_113_1 rfl ?_
  first | refine l_ld rfl Try.isAgg26 rfl rfl ?_ | refine l_ldw rfl Try.isAgg26 rfl (by omega) ?_
  refine l_neq rfl rfl rfl ?_
  refine l_nil ?_
  refine g_cond rfl ?_ ?_
  · intro hbr
    have hbr := of_decide_eq_true hbr
    (exfalso; omega)
  intro hbr
  have hbr := of_decide_eq_false hbr
  refine g_skip ?_
  refine g_seq ?_
  refine gp_start mo (by kernel_rfl) (by kernel_rfl) ?_
  refine gp_quiet 0 rfl rfl rfl rfl rfl rfl (q_move rfl) ?_
  refine gp_quiet 1 rfl rfl rfl rfl rfl rfl (q_nilCheck rfl) ?_
  refine gp_quiet 2 rfl rfl rfl rfl rfl rfl (q_fieldAddr fa_113_0 rfl) ?_
  refine gp_quiet 3 rfl rfl rfl rfl rfl rfl (q_ld Try.isAgg107 rfl rfl) ?_
  refine gp_quiet 4 rfl rfl rfl rfl rfl rfl (q_nilCheck rfl) ?_
  refine gp_quiet 5 rfl rfl rfl rfl rfl rfl (q_fieldAddr fa_109_0 rfl) ?_
  refine gp_quiet 6 rfl rfl rfl rfl rfl rfl (q_ld Try.isAgg36 rfl rfl) ?_
  refine gp_quiet 7 rfl rfl rfl rfl rfl rfl (q_move rfl) ?_
  refine gp_quiet 8 rfl rfl rfl rfl rfl rfl (q_nilCheck rfl) ?_
  refine gp_quiet 9 rfl rfl rfl rfl rfl rfl (q_fieldAddr fa_113_0 rfl) ?_
  refine gp_quiet 10 rfl rfl rfl rfl rfl rfl (q_ld Try.isAgg107 rfl rfl) ?_
  refine gp_quiet 11 rfl rfl rfl rfl rfl rfl (q_nilCheck rfl) ?_
  refine gp_quiet 12 rfl rfl rfl rfl rfl rfl (q_fieldAddr fa_109_1 rfl) ?_
  first | refine gp_quiet 13 rfl rfl rfl rfl rfl rfl (q_ld Try.isAgg3 rfl rfl) ?_ | refine gp_quiet 13 rfl rfl rfl rfl rfl rfl (q_ldw Try.isAgg3 rfl (by omega)) ?_
  refine gp_quiet 14 rfl rfl rfl rfl rfl rfl (q_move rfl) ?_
  refine gp_quiet 15 rfl rfl rfl rfl rfl rfl (q_nilCheck rfl) ?_
  refine gp_quiet 16 rfl rfl rfl rfl rfl rfl (q_fieldAddr fa_113_0 rfl) ?_
  refine gp_quiet 17 rfl rfl rfl rfl rfl rfl (q_ld Try.isAgg107 rfl rfl) ?_
  refine gp_quiet 18 rfl rfl rfl rfl rfl rfl (q_nilCheck rfl) ?_
  refine gp_quiet 19 rfl rfl rfl rfl rfl rfl (q_fieldAddr fa_109_1 rfl) ?_
  first | refine gp_quiet 20 rfl rfl rfl rfl rfl rfl (q_ld Try.isAgg3 rfl rfl) ?_ | refine gp_quiet 20 rfl rfl rfl rfl rfl rfl (q_ldw Try.isAgg3 rfl (by omega)) ?_
  refine gp_quiet 21 rfl rfl rfl rfl rfl rfl (q_move rfl) ?_
  first | refine gp_quiet 22 rfl rfl rfl rfl rfl rfl (q_conv Try.underlying53 Try.underlying3 rfl (w_i64 (by omega) (by omega))) ?_ | refine gp_quiet 22 rfl rfl rfl rfl rfl rfl (q_convw Try.underlying53 Try.underlying3 rfl) ?_
  first | refine gp_quiet 23 rfl rfl rfl rfl rfl rfl (q_add rfl rfl (w_i64 (by omega) (by omega))) ?_ | refine gp_quiet 23 rfl rfl rfl rfl rfl rfl (q_addw rfl rfl) ?_
  refine gp_quiet 24 rfl rfl rfl rfl rfl rfl (q_slice_lh Try.underlying36 Try.sizeOf5 rfl rfl rfl (by omega) (by omega) (by omega)) ?_
  refine gp_quiet 25 rfl rfl rfl rfl rfl rfl (q_bytes_str (W := (B.drop p2.toNat).take ((p2 + m).toNat - p2.toNat)) Try.underlying36 Try.underlying5 Try.underlying9 rfl ⟨by rw [List.length_take, List.length_drop]; omega, .inr ⟨_, _, rfl, words_part (.own (mem_getO 2 rfl)) sloff_spec (by omega)⟩⟩ (fun h => by cases h)) ?_
  refine gp_quiet 26 rfl rfl rfl rfl rfl rfl (q_assign rfl) ?_
  refine gp_end rfl rfl ?_
  refine g_seq ?_
  refine g_region ?_
  refine l_move rfl rfl ?_
  refine l_nilCheck rfl rfl ?_
  refine l_fieldAddr rfl fa_113_0 rfl ?_
  refine l_ld rfl Try.isAgg107 rfl rfl ?_
  refine l_nilCheck rfl rfl ?_
  refine l_fieldAddr rfl fa_109_1 rfl ?_
  first | refine l_ld rfl Try.isAgg3 rfl rfl ?_ | refine l_ldw rfl Try.isAgg3 rfl (by omega) ?_
  refine l_move rfl rfl ?_
  first | refine l_conv rfl Try.underlying53 Try.underlying3 rfl (w_i64 (by omega) (by omega)) ?_ | refine l_convw rfl Try.underlying53 Try.underlying3 rfl ?_
  first | refine l_add rfl rfl rfl (w_i64 (by omega) (by omega)) ?_ | refine l_addw rfl rfl rfl ?_
  refine l_nilCheck rfl rfl ?_
  refine l_fieldAddr rfl fa_109_1 rfl ?_
  first | refine l_st Try.sizeOf3 rfl rfl rfl rfl ?_ | refine l_stw Try.sizeOf3 rfl rfl (by omega) ?_
  refine l_nil ?_
  refine g_seq ?_
  refine g_region ?_
  refine l_move rfl rfl ?_
  refine l_assign rfl rfl ?_
  refine l_nil ?_
  refine g_ret Try.func35 rfl (.tmp rfl .nil) ?_
  (first | exact Gives.mki ⟨_, _, _, rdT_flt (by omega), rfl, rfl⟩ | exact Gives.mki ⟨_, _, _, rdT_num (by omega) hR (by omega), rfl, rfl⟩ | exact Gives.mki ⟨_, _, _, rdT_most (by omega) hR (by omega) (by omega), rfl, rfl⟩ | exact Gives.mki ⟨_, _, _, rdT_short (by omega) hR (by omega) (by omega) (by omega), rfl, rfl⟩ | (rw [show q2 = 0 by omega]; exact Gives.mki ⟨_, _, _, rdT_ok (by omega) hR (by omega) (by omega) (by omega), rfl, rfl⟩))
theorem rend_ok (w0 : World) (F : List Atom) (bq bs g n : Nat) (B : List Int) (hB : B.length = n) (hU : ∀ i, 0 ≤ B.getD i 0 ∧ B.getD i 0 ≤ 255) (hn : n ≤ 140737488355327) (p q : Int) (p0 : 0 ≤ p) (p1 : p ≤ n) (q0 : 0 ≤ q) (q1 : q ≤ 20) :
    CallK Try.prog 32 [.pointer (some ⟨bq, 0, none⟩)] w0 (Blk bq (.cells [Value.pointer (some ⟨bs, 0, none⟩), .int .i64 q].toArray 113 (0, 0)) :: Blk bs (.cells [Value.slice (some ⟨g, 0, none⟩) n n, .int .i64 p].toArray 109 (0, 0)) :: Own 5 1 (.slice (some ⟨g, 0, none⟩) n n) n (ints .u8 B) :: F) (Gives w0 fun v F2 => v = .int .i64 (endV n p q) ∧ F2 = Blk bq (.cells [Value.pointer (some ⟨bs, 0, none⟩), .int .i64 q].toArray 113 (0, 0)) :: Blk bs (.cells [Value.slice (some ⟨g, 0, none⟩) n n, .int .i64 p].toArray 109 (0, 0)) :: Own 5 1 (.slice (some ⟨g, 0, none⟩) n n) n (ints .u8 B) :: F) := by
  refine c_enter Try.func32 rfl rfl rfl ?_
  refine g_seq ?_
  refine g_region ?_
  refine l_assign rfl rfl ?_
  refine l_nil ?_
  refine g_seq ?_
  refine g_block ?_
  refine g_seq ?_
  refine g_region ?_
  refine l_move rfl rfl ?_
  refine l_eqpn rfl Try.underlying69 rfl rfl ?_
  refine l_assign rfl rfl ?_
  refine l_nil ?_
  first | refine g_cond_f rfl ?_ | refine g_cond_f (congrArg (fun b => some (Value.bool b)) (decide_eq_false hbr)) ?_
  refine g_seq ?_
  refine g_region ?_
  refine l_move rfl rfl ?_
  refine l_nilCheck rfl rfl ?_
  refine l_fieldAddr rfl fa_113_1 rfl ?_
  first | refine l_ld rfl Try.isAgg26 rfl rfl ?_ | refine l_ldw rfl Try.isAgg26 rfl (by omega) ?_
  refine l_neq rfl rfl rfl ?_
  refine l_assign rfl rfl ?_
  refine l_nil ?_
  refine g_cond rfl ?_ ?_
  · intro hbr
    have hbr := of_decide_eq_true hbr
    refine g_seq ?_
    refine g_region ?_
    refine l_move rfl rfl ?_
    refine l_nilCheck rfl rfl ?_
    refine l_fieldAddr rfl fa_113_1 rfl ?_
    first | refine l_ld rfl Try.isAgg26 rfl rfl ?_ | refine l_ldw rfl Try.isAgg26 rfl (by omega) ?_
    refine l_assign rfl rfl ?_
    refine l_nil ?_
    refine g_ret Try.func32 rfl (.tmp rfl .nil) ?_
    (first | exact Gives.mki ⟨by unfold endV; rw [if_pos (by omega)]; rfl, rfl⟩ | exact Gives.mki ⟨by unfold endV; rw [if_neg (by omega), if_pos (by omega)]; rfl, rfl⟩ | exact Gives.mki ⟨by unfold endV; rw [if_neg (by omega), if_neg (by omega)]; rfl, rfl⟩)
  intro hbr
  have hbr := of_decide_eq_false hbr
  refine g_seq ?_
  refine g_region ?_
  refine l_move rfl rfl ?_
  refine l_inl rfl Try.call33 rfl ?_
  refine c_enter Try.func33 rfl rfl rfl ?_
  refine g_seq ?_
  refine g_region ?_
  refine l_assign rfl rfl ?_
  refine l_nil ?_
  refine g_seq ?_
  refine g_seq ?_
  refine g_region ?_
  refine l_move rfl rfl ?_
  refine l_eqpn rfl Try.underlying69 rfl rfl ?_
  refine l_nil ?_
  first | refine g_cond_f rfl ?_ | refine g_cond_f (congrArg (fun b => some (Value.bool b)) (decide_eq_false hbr)) ?_
  refine g_skip ?_
  refine g_seq ?_
  refine g_region ?_
  refine l_move rfl rfl ?_
  refine l_nilCheck rfl rfl ?_
  refine l_fieldAddr rfl fa_113_0 rfl ?_
  refine l_ld rfl Try.isAgg107 rfl rfl ?_
  refine l_inl rfl Try.call74 rfl ?_
  refine c_enter Try.func74 rfl rfl rfl ?_
  refine g_seq ?_
  refine g_region ?_
  refine l_assign rfl rfl ?_
  refine l_nil ?_
  refine g_seq ?_
  refine g_seq ?_
  refine g_region ?_
  refine l_move rfl rfl ?_
  refine l_eqpn rfl Try.underlying107 rfl rfl ?_
  refine l_nil ?_
  first | refine g_cond_f rfl ?_ | refine g_cond_f (congrArg (fun b => some (Value.bool b)) (decide_eq_false hbr)) ?_
  refine g_skip ?_
  refine g_seq ?_
  refine gp_start mo (by kernel_rfl) (by kernel_rfl) ?_
  refine gp_quiet 0 rfl rfl rfl rfl rfl rfl (q_move rfl) ?_
  refine gp_quiet 1 rfl rfl rfl rfl rfl rfl (q_nilCheck rfl) ?_
  refine gp_quiet 2 rfl rfl rfl rfl rfl rfl (q_fieldAddr fa_109_0 rfl) ?_
  refine gp_quiet 3 rfl rfl rfl rfl rfl rfl (q_ld Try.isAgg36 rfl rfl) ?_
  refine gp_quiet 4 rfl rfl rfl rfl rfl rfl (q_len Try.underlying36 rfl) ?_
  refine gp_quiet 5 rfl rfl rfl rfl rfl rfl (q_move rfl) ?_
  refine gp_quiet 6 rfl rfl rfl rfl rfl rfl (q_nilCheck rfl) ?_
  refine gp_quiet 7 rfl rfl rfl rfl rfl rfl (q_fieldAddr fa_109_1 rfl) ?_
  first | refine gp_quiet 8 rfl rfl rfl rfl rfl rfl (q_ld Try.isAgg3 rfl rfl) ?_ | refine gp_quiet 8 rfl rfl rfl rfl rfl rfl (q_ldw Try.isAgg3 rfl (by omega)) ?_
  first | refine gp_quiet 9 rfl rfl rfl rfl rfl rfl (q_sub_ rfl rfl (w_i64 (by omega) (by omega))) ?_ | refine gp_quiet 9 rfl rfl rfl rfl rfl rfl (q_subw rfl rfl) ?_
  refine gp_quiet 10 rfl rfl rfl rfl rfl rfl (q_assign rfl) ?_
  refine gp_end rfl rfl ?_
  refine g_ret Try.func74 rfl (.tmp rfl .nil) ?_
  first | refine ⟨.int _ _, rfl, ?_⟩ | refine ⟨_, rfl, ?_⟩
  refine l_assign rfl rfl ?_
  refine l_nil ?_
  refine g_ret Try.func33 rfl (.tmp rfl .nil) ?_
  first | refine ⟨.int _ _, rfl, ?_⟩ | refine ⟨_, rfl, ?_⟩
  refine l_gtr rfl rfl rfl ?_
  refine l_assign rfl rfl ?_
  refine l_nil ?_
  refine g_cond rfl ?_ ?_
  · intro hbr
    have hbr := of_decide_eq_true hbr
    refine g_seq ?_
    refine g_region ?_
    refine l_assign rfl rfl ?_
    refine l_nil ?_
    refine g_ret Try.func32 rfl (.tmp rfl .nil) ?_
    (first | exact Gives.mki ⟨by unfold endV; rw [if_pos (by omega)]; rfl, rfl⟩ | exact Gives.mki ⟨by unfold endV; rw [if_neg (by omega), if_pos (by omega)]; rfl, rfl⟩ | exact Gives.mki ⟨by unfold endV; rw [if_neg (by omega), if_neg (by omega)]; rfl, rfl⟩)
  intro hbr
  have hbr := of_decide_eq_false hbr
  refine g_skip ?_
  refine g_inBlock ?_
  refine g_seq ?_
  refine g_region ?_
  refine l_assign rfl rfl ?_
  refine l_nil ?_
  refine g_ret Try.func32 rfl (.tmp rfl .nil) ?_
  (first | exact Gives.mki ⟨by unfold endV; rw [if_pos (by omega)]; rfl, rfl⟩ | exact Gives.mki ⟨by unfold endV; rw [if_neg (by omega), if_pos (by omega)]; rfl, rfl⟩ | exact Gives.mki ⟨by unfold endV; rw [if_neg (by omega), if_neg (by omega)]; rfl, rfl⟩)
theorem newr_ok (w0 : World) (F : List Atom) (a : Option Addr) (n c : Nat) (B : List Int) (hB : B.length = n) (hn : n ≤ 140737488355327) (hr : Reads w0 F (.slice a n c) n 1 (ints .u8 B)) :
    CallK Try.prog 29 [.slice a n c] w0 (F) (Gives w0 fun v F2 => ∃ bq bs g, v = .pointer (some ⟨bq, 0, none⟩) ∧ F2 = Blk bq (.cells [Value.pointer (some ⟨bs, 0, none⟩), .int .i64 0].toArray 113 (0, 0)) :: Blk bs (.cells [Value.slice (some ⟨g, 0, none⟩) n n, .int .i64 0].toArray 109 (0, 0)) :: Own 5 1 (.slice (some ⟨g, 0, none⟩) n n) n (ints .u8 B) :: F) := by
  refine c_enter Try.func29 rfl rfl rfl ?_
  refine g_seq ?_
  refine g_region ?_
  refine l_assign rfl rfl ?_
  refine l_nil ?_
  refine g_seq ?_
  refine g_region ?_
  refine l_move rfl rfl ?_
  refine l_len rfl Try.underlying36 rfl ?_
  refine l_make1 rfl Try.underlying36 Try.type5 rfl rfl rfl rfl rfl (by omega) (by show (1 : Int) * _ ≤ _; omega) (by omega) ?_; intro g; rw [show List.replicate (n : Int).toNat (Value.int IntKind.u8 0) = ints .u8 (List.replicate n 0) by simp [ints], Int.toNat_natCast]
  refine l_assign rfl rfl ?_
  refine l_nil ?_
  refine g_seq ?_
  refine g_region ?_
  refine l_move rfl rfl ?_
  refine l_move rfl rfl ?_
  refine l_copyw 0 rfl Try.underlying36 Try.sizeOf5 rfl rfl rfl hr.there (by simp) (by rw [spl_full (q := n) (m := n) (by simp) (by omega) (Nat.le_refl _), List.take_of_length_le (by omega)]; rfl) ?_
  refine l_nil ?_
  refine g_seq ?_
  refine g_region ?_
  refine l_move rfl rfl ?_
  refine l_build rfl rfl (fun w => bd_109_0 _ _ _ w) ?_
  refine l_boxs rfl rfl ?_; intro b12
  refine l_build rfl rfl (fun w => bd_113_0 _ w) ?_
  refine l_boxs rfl rfl ?_; intro b14
  refine l_assign rfl rfl ?_
  refine l_nil ?_
  refine g_ret Try.func29 rfl (.tmp rfl .nil) ?_
  exact Gives.mki ⟨b14, b12, g, rfl, rfl⟩
end Go.Proofs.Ytnkmhhjldfapdaa.Fw
