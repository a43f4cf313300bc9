import Derived.Test.YtoflbmjdpngdiaaBar
import Derived.Test.YtoflbmjdpngdiaaRBar
namespace Go.Proofs.Ytoflbmjdpngdiaa.Fw
open Go Go.Proofs
set_option linter.unusedVariables false
set_option linter.unusedSimpArgs false
set_option maxRecDepth 10000
theorem sq_42 (x0 : Int) (x1 : Int) (y0 : Int) (y1 : Int) (w : World) : (Op.equalIn 10000 42 (.agg #[.int .i64 x0, .int .i64 x1]) (.agg #[.int .i64 y0, .int .i64 y1])).run Try.prog w = .ok (decide (x0 = y0) && decide (x1 = y1)) w := by
  rw [run_equalIn_struct w 9999 42 _ _ (by simp [Program.fieldsOf, Try.underlying42]) Try.stoodInHeld42]
  have e0 := fun w => run_equalIn_int (P := Try.prog) w 9998 3 .i64 .i64 x0 y0 Try.underlying3
  have e1 := fun w => run_equalIn_int (P := Try.prog) w 9998 3 .i64 .i64 x1 y1 Try.underlying3
  simp [Program.fieldsOf, Try.underlying42, Op.eqFields, part, Try.isAgg3, e0, e1, Sem.run_bind, Sem.run_pure, Sem.run_ite]
  by_cases h0 : x0 = y0 <;> by_cases h1 : x1 = y1 <;> simp [*]
theorem sqn_42 (x0 : Int) (x1 : Int) (y0 : Int) (y1 : Int) (w : World) : (binOp .neq 42 (.agg #[.int .i64 x0, .int .i64 x1]) (.agg #[.int .i64 y0, .int .i64 y1])).run Try.prog w = .ok (.bool (!(decide (x0 = y0) && decide (x1 = y1)))) w := by
  rw [run_neq_struct, sq_42]; rfl
theorem same_eq (w0 : World) (F : List Atom) (b g n c b2 g2 c2 : Nat) (W : List Int) (hW : W.length = n) (hc : n ≤ c) (hc2 : n ≤ c2) (hn : n ≤ 1073741824) :
    CallK Try.prog 11 [.pointer (some ⟨b, 0, none⟩), .pointer (some ⟨b2, 0, none⟩)] w0 (Blk b (.cells [.slice (some ⟨g, 0, none⟩) n c].toArray 56 (0, 0)) :: Own 23 1 (.slice (some ⟨g, 0, none⟩) n c) n (ints .u32 W) :: Blk b2 (.cells [.slice (some ⟨g2, 0, none⟩) n c2].toArray 58 (0, 0)) :: Own 23 1 (.slice (some ⟨g2, 0, none⟩) n c2) n (ints .u32 W) :: F) (Gives w0 fun v F2 => v = .bool true ∧ F2 = Blk b (.cells [.slice (some ⟨g, 0, none⟩) n c].toArray 56 (0, 0)) :: Own 23 1 (.slice (some ⟨g, 0, none⟩) n c) n (ints .u32 W) :: Blk b2 (.cells [.slice (some ⟨g2, 0, none⟩) n c2].toArray 58 (0, 0)) :: Own 23 1 (.slice (some ⟨g2, 0, none⟩) n c2) n (ints .u32 W) :: F) := by
  refine c_enter Try.func11 rfl rfl rfl ?_
  refine g_seq ?_
  refine g_region ?_
  refine l_assign rfl rfl ?_
  refine l_nil ?_
  refine g_seq ?_
  refine g_region ?_
  refine l_move rfl rfl ?_
  refine l_call rfl Try.call16 rfl (words_ok _ _ b g n c W hW hc hn) ?_; rintro _ _ ⟨q, c9, rfl, hc9, rfl⟩
  refine l_assign rfl rfl ?_
  refine l_nil ?_
  refine g_seq ?_
  refine g_seq ?_
  refine g_region ?_
  refine l_move rfl rfl ?_
  refine l_len rfl Try.underlying26 rfl ?_
  refine l_move rfl rfl ?_
  refine l_nilCheck rfl rfl ?_
  refine l_fieldAddr rfl fa_58_0 rfl ?_
  refine l_ld rfl Try.isAgg26 rfl rfl ?_
  refine l_len rfl Try.underlying26 rfl ?_
  refine l_neq rfl rfl rfl ?_
  refine l_nil ?_
  refine g_cond rfl ?_ ?_
  · intro hbr
    have hbr := of_decide_eq_true hbr
    (exfalso; omega)
  intro hbr
  have hbr := of_decide_eq_false hbr
  refine g_skip ?_
  refine g_seq ?_
  refine g_seq ?_
  refine g_region ?_
  refine l_assign rfl rfl ?_
  refine l_nil ?_
  refine g_block ?_
  refine g_loop (X := Int) (fun i => 0 ≤ i ∧ i ≤ n) (fun i => (n - i).toNat) (fun i => [(1, .pointer (some ⟨b2, 0, none⟩)), (5, .slice (some ⟨q, 0, none⟩) n c9), (6, .int .i64 i)]) (fun i => Own 23 1 (.slice (some ⟨q, 0, none⟩) n c9) n (ints .u32 W) :: Blk b (.cells [.slice (some ⟨g, 0, none⟩) n c].toArray 56 (0, 0)) :: Own 23 1 (.slice (some ⟨g, 0, none⟩) n c) n (ints .u32 W) :: Blk b2 (.cells [.slice (some ⟨g2, 0, none⟩) n c2].toArray 58 (0, 0)) :: Own 23 1 (.slice (some ⟨g2, 0, none⟩) n c2) n (ints .u32 W) :: F) 0 (by omega) (.cons rfl (.cons rfl (.cons rfl .nil))) (fun w hw => hw) ?_
  rintro i ⟨i0, i1⟩ ih
  refine g_seq ?_
  refine g_seq ?_
  refine g_region ?_
  refine l_move rfl rfl ?_
  refine l_move rfl rfl ?_
  refine l_len rfl Try.underlying26 rfl ?_
  refine l_lss rfl rfl rfl ?_
  refine l_nil ?_
  refine g_cond rfl ?_ ?_
  · intro hbr
    have hbr := of_decide_eq_true hbr
    refine g_skip ?_
    refine g_seq ?_
    refine g_block ?_
    refine g_seq ?_
    refine gp_start mo (by kernel_rfl) (by kernel_rfl) ?_
    refine gp_quiet 0 rfl rfl rfl rfl rfl rfl (q_move rfl) ?_
    refine gp_quiet 1 rfl rfl rfl rfl rfl rfl (q_move rfl) ?_
    refine gp_quiet 2 rfl rfl rfl rfl rfl rfl (q_ixs Try.underlying26 Try.sizeOf23 rfl rfl (by omega) (by omega)) ?_
    refine gp_quiet 3 rfl rfl rfl rfl rfl rfl (q_loadc Try.isAgg23 rfl (word_at (mem_getO 0 rfl) (by omega))) ?_
    refine gp_quiet 4 rfl rfl rfl rfl rfl rfl (q_move rfl) ?_
    refine gp_quiet 5 rfl rfl rfl rfl rfl rfl (q_nilCheck rfl) ?_
    refine gp_quiet 6 rfl rfl rfl rfl rfl rfl (q_fieldAddr fa_58_0 rfl) ?_
    refine gp_quiet 7 rfl rfl rfl rfl rfl rfl (q_ld Try.isAgg26 rfl rfl) ?_
    refine gp_quiet 8 rfl rfl rfl rfl rfl rfl (q_move rfl) ?_
    refine gp_quiet 9 rfl rfl rfl rfl rfl rfl (q_ixs Try.underlying26 Try.sizeOf23 rfl rfl (by omega) (by omega)) ?_
    refine gp_quiet 10 rfl rfl rfl rfl rfl rfl (q_loadc Try.isAgg23 rfl (word_at (mem_getO 4 rfl) (by omega))) ?_
    refine gp_quiet 11 rfl rfl rfl rfl rfl rfl (q_neq rfl rfl) ?_
    refine gp_end rfl rfl ?_
    refine g_cond rfl ?_ ?_
    · intro hbr
      have hbr := of_decide_eq_true hbr
      (exfalso; omega)
    intro hbr
    have hbr := of_decide_eq_false hbr
    refine g_skip ?_
    refine g_inBlock ?_
    refine g_region ?_
    refine l_move rfl rfl ?_
    first | refine l_add rfl rfl rfl (w_i64 (by omega) (by omega)) ?_ | refine l_addw rfl rfl rfl ?_
    refine l_assign rfl rfl ?_
    refine l_nil ?_
    exact g_again (ih (i + 1) (by omega) (by omega)) (.cons rfl (.cons rfl (.cons rfl .nil))) .refl
  intro hbr
  have hbr := of_decide_eq_false hbr
  refine g_exit rfl ?_
  refine g_seq ?_
  refine g_region ?_
  refine l_assign rfl rfl ?_
  refine l_nil ?_
  refine g_ret Try.func11 rfl (.tmp rfl .nil) ?_
  exact Gives.mk ⟨rfl, rfl⟩ (.drop 0 rfl .refl)
def mw (e q : Int) : List Int := [0, 0, 0, q, e, 0, 0, 0, 0, 0, 0, 0, 0, 0, 0, 0]
theorem mw_U {e q : Int} (he : 0 ≤ e ∧ e ≤ 4294967295) (hq : 0 ≤ q ∧ q ≤ 4294967295) : ∀ i, 0 ≤ (mw e q).getD i 0 ∧ (mw e q).getD i 0 ≤ 4294967295 := by
  intro i
  match i with
  | 0 | 1 | 2 | 5 | 6 | 7 | 8 | 9 | 10 | 11 | 12 | 13 | 14 | 15 => simp [mw]
  | 3 => exact hq
  | 4 => exact he
  | n + 16 => simp [mw]
theorem mw_zero {e : Int} (i : Int) (h0 : 0 ≤ i) (h1 : i < 16) (h3 : i ≠ 3) (h4 : i ≠ 4) : (mw e 0).getD i.toNat 0 = 0 := by
  have : i = 0 ∨ i = 1 ∨ i = 2 ∨ i = 5 ∨ i = 6 ∨ i = 7 ∨ i = 8 ∨ i = 9 ∨ i = 10 ∨ i = 11 ∨ i = 12 ∨ i = 13 ∨ i = 14 ∨ i = 15 := by omega
  rcases this with rfl | rfl | rfl | rfl | rfl | rfl | rfl | rfl | rfl | rfl | rfl | rfl | rfl | rfl <;> rfl
theorem look3 (w0 : World) (F : List Atom) (b g c : Nat) (hc : 16 ≤ c) (e q : Int) (he : 0 ≤ e ∧ e ≤ 4294967295) (hq : 0 ≤ q ∧ q ≤ 4) : CallK Try.prog 13 [.pointer (some ⟨b, 0, none⟩), .int .i64 3] w0 (Blk b (.cells [.slice (some ⟨g, 0, none⟩) 16 c].toArray 56 (0, 0)) :: Own 23 1 (.slice (some ⟨g, 0, none⟩) 16 c) 16 (ints .u32 (mw e q)) :: F) (Gives w0 fun v F2 => v = .tuple #[.agg #[.int .i64 q, .int .i64 e], .int .i64 0] ∧ F2 = Blk b (.cells [.slice (some ⟨g, 0, none⟩) 16 c].toArray 56 (0, 0)) :: Own 23 1 (.slice (some ⟨g, 0, none⟩) 16 c) 16 (ints .u32 (mw e q)) :: F) := look_ok w0 F b g 16 c (mw e q) rfl hc (by omega) (mw_U he ⟨by omega, by omega⟩) 3 (by omega) (by unfold inR; omega)
theorem short3 (w0 : World) (F : List Atom) (b g c : Nat) (hc : 16 ≤ c) (e q : Int) (he : 0 ≤ e ∧ e ≤ 4294967295) (hq : 0 ≤ q ∧ q ≤ 4) (kk : Int) (hk : 1 ≤ kk ∧ kk ≤ 4) (hf : q < kk) : CallK Try.prog 15 [.pointer (some ⟨b, 0, none⟩), .int .i64 3, .int .i64 kk] w0 (Blk b (.cells [.slice (some ⟨g, 0, none⟩) 16 c].toArray 56 (0, 0)) :: Own 23 1 (.slice (some ⟨g, 0, none⟩) 16 c) 16 (ints .u32 (mw e q)) :: F) (Gives w0 fun v F2 => v = .int .i64 182 ∧ F2 = Blk b (.cells [.slice (some ⟨g, 0, none⟩) 16 c].toArray 56 (0, 0)) :: Own 23 1 (.slice (some ⟨g, 0, none⟩) 16 c) 16 (ints .u32 (mw e q)) :: F) := open_short w0 F b g 16 c (mw e q) rfl hc (by omega) (mw_U he ⟨by omega, by omega⟩) 3 (by omega) (by unfold inR; omega) kk (by omega) (by omega) hk hf
theorem come3 (w0 : World) (F : List Atom) (b g c : Nat) (hc : 16 ≤ c) (e q : Int) (he : 0 ≤ e ∧ e ≤ 4294967295) (hq : 0 ≤ q ∧ q ≤ 4) (kk : Int) (hk : 1 ≤ kk ∧ kk ≤ 4) (hf : q < kk) : CallK Try.prog 14 [.pointer (some ⟨b, 0, none⟩), .int .i64 3, .int .i64 kk] w0 (Blk b (.cells [.slice (some ⟨g, 0, none⟩) 16 c].toArray 56 (0, 0)) :: Own 23 1 (.slice (some ⟨g, 0, none⟩) 16 c) 16 (ints .u32 (mw e q)) :: F) (Gives w0 fun v F2 => v = .tuple #[.bool (decide (q + 1 = kk)), .int .i64 0] ∧ F2 = Blk b (.cells [.slice (some ⟨g, 0, none⟩) 16 c].toArray 56 (0, 0)) :: Own 23 1 (.slice (some ⟨g, 0, none⟩) 16 c) 16 (ints .u32 (mw e (q + 1))) :: F) := come_ok w0 F b g 16 c (mw e q) rfl hc (by omega) (mw_U he ⟨by omega, by omega⟩) 3 (by omega) (by unfold inR; omega) kk (by omega) (by omega) hk (show ¬ kk ≤ q by omega)
theorem full3 (w0 : World) (F : List Atom) (b g c : Nat) (hc : 16 ≤ c) (e q : Int) (he : 0 ≤ e ∧ e ≤ 4294967295) (hq : 0 ≤ q ∧ q ≤ 4) (kk : Int) (hk : 1 ≤ kk ∧ kk ≤ 4) (hf : kk ≤ q) : CallK Try.prog 14 [.pointer (some ⟨b, 0, none⟩), .int .i64 3, .int .i64 kk] w0 (Blk b (.cells [.slice (some ⟨g, 0, none⟩) 16 c].toArray 56 (0, 0)) :: Own 23 1 (.slice (some ⟨g, 0, none⟩) 16 c) 16 (ints .u32 (mw e q)) :: F) (Gives w0 fun v F2 => v = .tuple #[.bool false, .int .i64 181] ∧ F2 = Blk b (.cells [.slice (some ⟨g, 0, none⟩) 16 c].toArray 56 (0, 0)) :: Own 23 1 (.slice (some ⟨g, 0, none⟩) 16 c) 16 (ints .u32 (mw e q)) :: F) := come_full w0 F b g 16 c (mw e q) rfl hc (by omega) (mw_U he ⟨by omega, by omega⟩) 3 (by omega) (by unfold inR; omega) kk (by omega) (by omega) hk hf
theorem open3 (w0 : World) (F : List Atom) (b g c : Nat) (hc : 16 ≤ c) (e q : Int) (he : 0 ≤ e ∧ e ≤ 4294967295) (hq : 0 ≤ q ∧ q ≤ 4) (kk : Int) (hk : 1 ≤ kk ∧ kk ≤ 4) (hf : q = kk) : CallK Try.prog 15 [.pointer (some ⟨b, 0, none⟩), .int .i64 3, .int .i64 kk] w0 (Blk b (.cells [.slice (some ⟨g, 0, none⟩) 16 c].toArray 56 (0, 0)) :: Own 23 1 (.slice (some ⟨g, 0, none⟩) 16 c) 16 (ints .u32 (mw e q)) :: F) (Gives w0 fun v F2 => v = .int .i64 0 ∧ F2 = Blk b (.cells [.slice (some ⟨g, 0, none⟩) 16 c].toArray 56 (0, 0)) :: Own 23 1 (.slice (some ⟨g, 0, none⟩) 16 c) 16 (ints .u32 (mw ((e + 1) % 4294967296) 0)) :: F) := by
  have h := open_ok w0 F b g 16 c (mw e q) rfl hc (by omega) (mw_U he ⟨by omega, by omega⟩) 3 (by omega) (by unfold inR; omega) kk (by omega) (by omega) hk hf
  exact h
set_option maxHeartbeats 4000000 in
theorem meets_ok (w0 : World) (F : List Atom) (kk ep times : Int) (hk : 1 ≤ kk ∧ kk ≤ 4) (he : 0 ≤ ep ∧ ep ≤ 4294967295) (ht : 0 ≤ times ∧ times ≤ 1000000) :
    CallK Try.prog 7 [.int .i64 kk, .int .u32 ep, .int .i64 times] w0 (F) (Gives w0 fun v F2 => v = .bool true ∧ F2 = F) := by
  refine c_enter Try.func7 rfl rfl rfl ?_
  refine g_seq ?_
  refine g_region ?_
  refine l_assign rfl rfl ?_
  refine l_nil ?_
  refine g_seq ?_
  refine g_region ?_
  refine l_call rfl Try.call17 rfl (new_ok _ _ 1 (by omega) (by omega)) ?_; rintro _ _ ⟨b, g, c, rfl, hc, rfl⟩
  refine l_move rfl rfl ?_
  refine l_extract rfl rfl rfl ?_
  refine l_extract rfl rfl rfl ?_
  refine l_assign rfl rfl ?_
  refine l_assign rfl rfl ?_
  refine l_nil ?_
  refine g_seq ?_
  refine g_seq ?_
  refine g_region ?_
  refine l_move rfl rfl ?_
  refine l_neq rfl rfl rfl ?_
  refine l_move rfl rfl ?_
  refine l_split 30 rfl ?_ ?_
  · intro hbr
    have hbr := of_decide_eq_true hbr
    (exfalso; first | omega | (have hz := mw_zero (e := (ep + times) % 4294967296) j (by omega) (by omega) (by omega) (by omega); omega))
  intro hbr
  have hbr := of_decide_eq_false hbr
  refine l_guard_yes rfl rfl ?_
  refine l_move rfl rfl ?_
  refine l_guard_yes rfl rfl ?_
  refine l_eqpn rfl Try.underlying28 rfl rfl ?_
  refine l_pick_f rfl rfl rfl ?_
  refine l_move rfl rfl ?_
  refine l_guard_yes rfl rfl ?_
  refine l_move rfl rfl ?_
  refine l_guard_yes rfl rfl ?_
  refine l_move rfl rfl ?_
  refine l_guard_yes rfl rfl ?_
  refine l_call rfl Try.call18 rfl (write_ok _ _ b g 16 c _ rfl hc (by omega) 4 _ (by omega) (by unfold inR; omega)) ?_; rintro _ _ ⟨rfl, rfl⟩
  refine l_guard_yes rfl rfl ?_
  refine l_neq rfl rfl rfl ?_
  refine l_pick_f rfl rfl rfl ?_
  refine l_nil ?_
  refine g_cond rfl ?_ ?_
  · intro hbr
    have hbr := of_decide_eq_true hbr
    (exfalso; first | omega | (have hz := mw_zero (e := (ep + times) % 4294967296) j (by omega) (by omega) (by omega) (by omega); omega))
  intro hbr
  have hbr := of_decide_eq_false hbr
  refine g_skip ?_
  refine g_seq ?_
  refine g_seq ?_
  refine g_region ?_
  refine l_assign rfl rfl ?_
  refine l_nil ?_
  refine g_block ?_
  refine g_loop (X := Int) (fun i => 0 ≤ i ∧ i ≤ times) (fun i => (times - i).toNat) (fun i => [(0, .int .i64 kk), (1, .int .u32 ep), (2, .int .i64 times), (7, .pointer (some ⟨b, 0, none⟩)), (9, .int .i64 i)]) (fun i => Blk b (.cells [.slice (some ⟨g, 0, none⟩) 16 c].toArray 56 (0, 0)) :: Own 23 1 (.slice (some ⟨g, 0, none⟩) 16 c) 16 (ints .u32 (mw ((ep + i) % 4294967296) 0)) :: F) 0 (by omega) (.cons rfl (.cons rfl (.cons rfl (.cons rfl (.cons rfl .nil))))) (fun w hw => by rw [show (ep + 0) % 4294967296 = ep by omega]; exact hw) ?_
  rintro i ⟨i0, i1⟩ ih
  refine g_seq ?_
  refine g_seq ?_
  refine g_region ?_
  refine l_move rfl rfl ?_
  refine l_move rfl rfl ?_
  refine l_lss rfl rfl rfl ?_
  refine l_nil ?_
  refine g_cond rfl ?_ ?_
  · intro hbr
    have hbr := of_decide_eq_true hbr
    refine g_skip ?_
    refine g_seq ?_
    refine g_block ?_
    refine g_seq ?_
    refine g_region ?_
    refine l_move rfl rfl ?_
    refine l_call rfl Try.call13 rfl (look3 _ _ b g c hc ((ep + i) % 4294967296) 0 (by omega) (by omega)) ?_; rintro _ _ ⟨rfl, rfl⟩
    refine l_move rfl rfl ?_
    refine l_extract rfl rfl rfl ?_
    refine l_extract rfl rfl rfl ?_
    refine l_allocs rfl Try.zeroValue42 ?_; intro b10
    refine l_sts Try.sizeOf42 rfl rfl rfl rfl rfl ?_
    refine l_assign rfl rfl ?_
    refine l_nil ?_
    refine g_seq ?_
    refine g_seq ?_
    refine g_region ?_
    refine l_assign rfl rfl ?_
    refine l_nil ?_
    refine g_block ?_
    refine g_loop (X := Int) (fun q => 0 ≤ q ∧ q ≤ kk) (fun q => (kk - q).toNat) (fun q => [(0, .int .i64 kk), (1, .int .u32 ep), (2, .int .i64 times), (7, .pointer (some ⟨b, 0, none⟩)), (9, .int .i64 i), (10, .pointer (some ⟨b10, 0, none⟩)), (12, .int .i64 (q + 1))]) (fun q => Blk b (.cells [.slice (some ⟨g, 0, none⟩) 16 c].toArray 56 (0, 0)) :: Own 23 1 (.slice (some ⟨g, 0, none⟩) 16 c) 16 (ints .u32 (mw ((ep + i) % 4294967296) q)) :: Blk b10 (.cells [.int .i64 0, .int .i64 ((ep + i) % 4294967296)].toArray 42 (0, 0)) :: F) 0 (by omega) (.cons rfl (.cons rfl (.cons rfl (.cons rfl (.cons rfl (.cons rfl (.cons rfl .nil))))))) (fun w hw => SP.holds (.cons 1 rfl (.cons 1 rfl .refl)) hw) ?_
    rintro q ⟨q0, q1⟩ ihq
    refine g_seq ?_
    refine g_seq ?_
    refine g_region ?_
    refine l_move rfl rfl ?_
    refine l_move rfl rfl ?_
    refine l_leq rfl rfl rfl ?_
    refine l_nil ?_
    refine g_cond rfl ?_ ?_
    · intro hbr
      have hbr := of_decide_eq_true hbr
      refine g_skip ?_
      refine g_seq ?_
      refine g_block ?_
      refine g_seq ?_
      refine g_seq ?_
      refine g_region ?_
      refine l_move rfl rfl ?_
      refine l_move rfl rfl ?_
      refine l_call rfl Try.call15 rfl ((short3 _ _ b g c hc _ q (by omega) (by omega) kk (by omega) (by omega)).sp .refl) ?_; rintro _ _ ⟨rfl, rfl⟩
      refine l_neq rfl rfl rfl ?_
      refine l_nil ?_
      refine g_cond rfl ?_ ?_
      · intro hbr
        have hbr := of_decide_eq_true hbr
        (exfalso; first | omega | (have hz := mw_zero (e := (ep + times) % 4294967296) j (by omega) (by omega) (by omega) (by omega); omega))
      intro hbr
      have hbr := of_decide_eq_false hbr
      refine g_skip ?_
      refine g_seq ?_
      refine g_region ?_
      refine l_move rfl rfl ?_
      refine l_move rfl rfl ?_
      refine l_call rfl Try.call14 rfl ((come3 _ _ b g c hc _ q (by omega) (by omega) kk (by omega) (by omega)).sp .refl) ?_; rintro _ _ ⟨rfl, rfl⟩
      refine l_move rfl rfl ?_
      refine l_extract rfl rfl rfl ?_
      refine l_extract rfl rfl rfl ?_
      refine l_assign rfl rfl ?_
      refine l_assign rfl rfl ?_
      refine l_nil ?_
      refine g_seq ?_
      refine g_region ?_
      refine l_move rfl rfl ?_
      refine l_neq rfl rfl rfl ?_
      refine l_move rfl rfl ?_
      refine l_split 67 rfl ?_ ?_
      · intro hbr
        have hbr := of_decide_eq_true hbr
        (exfalso; first | omega | (have hz := mw_zero (e := (ep + times) % 4294967296) j (by omega) (by omega) (by omega) (by omega); omega))
      intro hbr
      have hbr := of_decide_eq_false hbr
      refine l_guard_yes rfl rfl ?_
      refine l_move rfl rfl ?_
      refine l_guard_yes rfl rfl ?_
      refine l_move rfl rfl ?_
      refine l_guard_yes rfl rfl ?_
      refine l_move rfl rfl ?_
      refine l_guard_yes rfl rfl ?_
      refine l_eql rfl rfl rfl ?_
      refine l_guard_yes rfl rfl ?_
      refine l_neqb rfl Try.underlying4 rfl rfl ?_
      refine l_pick_f rfl rfl rfl ?_
      refine l_nil ?_
      refine g_cond rfl ?_ ?_
      · intro hbr
        first | (exfalso; simp at hbr; done) | (exfalso; simp at hbr; omega)
      intro hbr
      refine g_skip ?_
      refine g_inBlock ?_
      refine g_region ?_
      refine l_move rfl rfl ?_
      first | refine l_add rfl rfl rfl (w_i64 (by omega) (by omega)) ?_ | refine l_addw rfl rfl rfl ?_
      refine l_assign rfl rfl ?_
      refine l_nil ?_
      exact g_again (ihq (q + 1) (by omega) (by omega)) (.cons rfl (.cons rfl (.cons rfl (.cons rfl (.cons rfl (.cons rfl (.cons rfl .nil))))))) .refl
    intro hbr
    have hbr := of_decide_eq_false hbr
    refine g_exit rfl ?_
    obtain rfl : kk = q := by omega
    refine g_seq ?_
    refine g_region ?_
    refine l_move rfl rfl ?_
    refine l_move rfl rfl ?_
    refine l_call rfl Try.call14 rfl ((full3 _ _ b g c hc _ kk (by omega) (by omega) kk (by omega) (by omega)).sp .refl) ?_; rintro _ _ ⟨rfl, rfl⟩
    refine l_move rfl rfl ?_
    refine l_extract rfl rfl rfl ?_
    refine l_extract rfl rfl rfl ?_
    refine l_assign rfl rfl ?_
    refine l_assign rfl rfl ?_
    refine l_nil ?_
    refine g_seq ?_
    refine g_region ?_
    refine l_move rfl rfl ?_
    refine l_call rfl Try.call13 rfl ((look3 _ _ b g c hc ((ep + i) % 4294967296) kk (by omega) (by omega)).sp .refl) ?_; rintro _ _ ⟨rfl, rfl⟩
    refine l_move rfl rfl ?_
    refine l_extract rfl rfl rfl ?_
    refine l_extract rfl rfl rfl ?_
    refine l_allocs rfl Try.zeroValue42 ?_; intro b17
    refine l_sts Try.sizeOf42 rfl rfl rfl rfl rfl ?_
    refine l_assign rfl rfl ?_
    refine l_nil ?_
    refine g_seq ?_
    refine g_seq ?_
    refine g_region ?_
    refine l_move rfl rfl ?_
    refine l_neq rfl rfl rfl ?_
    refine l_move rfl rfl ?_
    refine l_split 87 rfl ?_ ?_
    · intro hbr
      have hbr := of_decide_eq_true hbr
      (exfalso; first | omega | (have hz := mw_zero (e := (ep + times) % 4294967296) j (by omega) (by omega) (by omega) (by omega); omega))
    intro hbr
    have hbr := of_decide_eq_false hbr
    refine l_guard_yes rfl rfl ?_
    refine l_lds rfl Try.isAgg42 Try.sizeOf42 rfl rfl ?_
    refine l_guard_yes rfl rfl ?_
    refine l_move rfl rfl ?_
    refine l_guard_yes rfl rfl ?_
    refine l_fieldAddr rfl fa_42_1 rfl ?_
    refine l_guard_yes rfl rfl ?_
    first | refine l_ld rfl Try.isAgg3 rfl rfl ?_ | refine l_ldw rfl Try.isAgg3 rfl (by omega) ?_
    refine l_guard_yes rfl rfl ?_
    refine l_build rfl rfl (fun w => bd_42_0_1 _ _ w) ?_
    refine l_guard_yes rfl rfl ?_
    refine l_bin rfl rfl rfl (fun w => run_eqGuard_agg w _ _ _ _ _ _ Try.eqGuardType42) (fun w => sqn_42 _ _ _ _ w) ?_
    refine l_pick_f rfl rfl rfl ?_
    refine l_move rfl rfl ?_
    refine l_split 95 rfl ?_ ?_
    · intro hbr
      first | (exfalso; simp at hbr; done) | (exfalso; simp at hbr; omega)
    intro hbr
    refine l_guard_yes rfl rfl ?_
    refine l_move rfl rfl ?_
    refine l_guard_yes rfl rfl ?_
    refine l_move rfl rfl ?_
    refine l_guard_yes rfl rfl ?_
    refine l_call rfl Try.call15 rfl ((open3 _ _ b g c hc _ kk (by omega) (by omega) kk (by omega) (by omega)).sp (.cons 1 rfl (.cons 1 rfl .refl))) ?_; rintro _ _ ⟨rfl, rfl⟩
    refine l_guard_yes rfl rfl ?_
    refine l_neq rfl rfl rfl ?_
    refine l_pick_f rfl rfl rfl ?_
    refine l_nil ?_
    refine g_cond rfl ?_ ?_
    · intro hbr
      have hbr := of_decide_eq_true hbr
      (exfalso; first | omega | (have hz := mw_zero (e := (ep + times) % 4294967296) j (by omega) (by omega) (by omega) (by omega); omega))
    intro hbr
    have hbr := of_decide_eq_false hbr
    refine g_skip ?_
    refine g_seq ?_
    refine g_region ?_
    refine l_move rfl rfl ?_
    refine l_call rfl Try.call13 rfl ((look3 _ _ b g c hc (((ep + i) % 4294967296 + 1) % 4294967296) 0 (by omega) (by omega)).sp .refl) ?_; rintro _ _ ⟨rfl, rfl⟩
    refine l_move rfl rfl ?_
    refine l_extract rfl rfl rfl ?_
    refine l_extract rfl rfl rfl ?_
    refine l_allocs rfl Try.zeroValue42 ?_; intro b19
    refine l_sts Try.sizeOf42 rfl rfl rfl rfl rfl ?_
    refine l_assign rfl rfl ?_
    refine l_nil ?_
    refine g_seq ?_
    refine g_region ?_
    refine l_lds rfl Try.isAgg42 Try.sizeOf42 rfl rfl ?_
    refine l_move rfl rfl ?_
    refine l_move rfl rfl ?_
    first | refine l_conv rfl Try.underlying3 Try.underlying23 rfl (w_u32 (by omega) (by omega)) ?_ | refine l_convm (m := 4294967296) rfl wr_u32 Try.underlying3 Try.underlying23 rfl ?_
    first | refine l_add rfl rfl rfl (w_u32 (by omega) (by omega)) ?_ | refine l_addm (m := 4294967296) rfl wr_u32 rfl rfl ?_
    first | refine l_add rfl rfl rfl (w_u32 (by omega) (by omega)) ?_ | refine l_addm (m := 4294967296) rfl wr_u32 rfl rfl ?_
    first | refine l_conv rfl Try.underlying23 Try.underlying3 rfl (w_i64 (by omega) (by omega)) ?_ | refine l_convw rfl Try.underlying23 Try.underlying3 rfl ?_
    refine l_build rfl rfl (fun w => bd_42_0_1 _ _ w) ?_
    refine l_bin rfl rfl rfl (fun w => run_eqGuard_agg w _ _ _ _ _ _ Try.eqGuardType42) (fun w => sqn_42 _ _ _ _ w) ?_
    refine l_nil ?_
    refine g_cond rfl ?_ ?_
    · intro hbr
      first | (exfalso; simp at hbr; done) | (exfalso; simp at hbr; omega)
    intro hbr
    refine g_skip ?_
    refine g_inBlock ?_
    refine g_region ?_
    refine l_move rfl rfl ?_
    first | refine l_add rfl rfl rfl (w_i64 (by omega) (by omega)) ?_ | refine l_addw rfl rfl rfl ?_
    refine l_assign rfl rfl ?_
    refine l_nil ?_
    exact g_again (ih (i + 1) (by omega) (by omega)) (.cons rfl (.cons rfl (.cons rfl (.cons rfl (.cons rfl .nil))))) (by rw [show (ep + (i + 1)) % 4294967296 = ((ep + i) % 4294967296 + 1) % 4294967296 by omega]; exact (.cons 1 rfl (.cons 1 rfl (.drop 0 rfl (.drop 0 rfl (.drop 0 rfl .refl))))))
  intro hbr
  have hbr := of_decide_eq_false hbr
  refine g_exit rfl ?_
  obtain rfl : times = i := by omega
  refine g_seq ?_
  refine g_seq ?_
  refine g_region ?_
  refine l_assign rfl rfl ?_
  refine l_nil ?_
  refine g_block ?_
  refine g_loop (X := Int) (fun j => 0 ≤ j ∧ j ≤ 16) (fun j => (16 - j).toNat) (fun j => [(7, .pointer (some ⟨b, 0, none⟩)), (21, .int .i64 j)]) (fun j => Blk b (.cells [.slice (some ⟨g, 0, none⟩) 16 c].toArray 56 (0, 0)) :: Own 23 1 (.slice (some ⟨g, 0, none⟩) 16 c) 16 (ints .u32 (mw ((ep + times) % 4294967296) 0)) :: F) 0 (by omega) (.cons rfl (.cons rfl .nil)) (fun w hw => hw) ?_
  rintro j ⟨j0, j1⟩ ihj
  refine g_seq ?_
  refine g_seq ?_
  refine g_region ?_
  refine l_move rfl rfl ?_
  refine l_lss rfl rfl rfl ?_
  refine l_nil ?_
  refine g_cond rfl ?_ ?_
  · intro hbr
    have hbr := of_decide_eq_true hbr
    refine g_skip ?_
    refine g_seq ?_
    refine g_block ?_
    refine g_seq ?_
    refine g_region ?_
    refine l_move rfl rfl ?_
    refine l_move rfl rfl ?_
    refine l_call rfl Try.call19 rfl (read_ok _ _ b g 16 c (mw ((ep + times) % 4294967296) 0) rfl hc (by omega) _ (by omega) (by unfold inR; omega)) ?_; rintro _ _ ⟨rfl, rfl⟩
    refine l_move rfl rfl ?_
    refine l_extract rfl rfl rfl ?_
    refine l_extract rfl rfl rfl ?_
    refine l_assign rfl rfl ?_
    refine l_assign rfl rfl ?_
    refine l_nil ?_
    refine g_seq ?_
    refine g_region ?_
    refine l_move rfl rfl ?_
    refine l_neq rfl rfl rfl ?_
    refine l_move rfl rfl ?_
    refine l_split 127 rfl ?_ ?_
    · intro hbr
      have hbr := of_decide_eq_true hbr
      refine l_guard_yes rfl rfl ?_
      refine l_move rfl rfl ?_
      refine l_guard_yes rfl rfl ?_
      refine l_neq rfl rfl rfl ?_
      refine l_pick_t rfl rfl rfl ?_
      refine l_move rfl rfl ?_
      refine l_split 131 rfl ?_ ?_
      · intro hbr
        have hbr := of_decide_eq_true hbr
        refine l_guard_yes rfl rfl ?_
        refine l_move rfl rfl ?_
        refine l_guard_yes rfl rfl ?_
        refine l_neq rfl rfl rfl ?_
        refine l_pick_t rfl rfl rfl ?_
        refine l_nil ?_
        refine g_cond rfl ?_ ?_
        · intro hbr
          have hbr := of_decide_eq_true hbr
          (exfalso; first | omega | (have hz := mw_zero (e := (ep + times) % 4294967296) j (by omega) (by omega) (by omega) (by omega); omega))
        intro hbr
        have hbr := of_decide_eq_false hbr
        refine g_skip ?_
        refine g_inBlock ?_
        refine g_region ?_
        refine l_move rfl rfl ?_
        first | refine l_add rfl rfl rfl (w_i64 (by omega) (by omega)) ?_ | refine l_addw rfl rfl rfl ?_
        refine l_assign rfl rfl ?_
        refine l_nil ?_
        exact g_again (ihj (j + 1) (by omega) (by omega)) (.cons rfl (.cons rfl .nil)) .refl
      intro hbr
      have hbr := of_decide_eq_false hbr
      refine l_guard_no rfl rfl rfl ?_
      refine l_guard_no rfl rfl rfl ?_
      refine l_pick_f rfl rfl rfl ?_
      refine l_nil ?_
      refine g_cond_f rfl ?_
      refine g_skip ?_
      refine g_inBlock ?_
      refine g_region ?_
      refine l_move rfl rfl ?_
      first | refine l_add rfl rfl rfl (w_i64 (by omega) (by omega)) ?_ | refine l_addw rfl rfl rfl ?_
      refine l_assign rfl rfl ?_
      refine l_nil ?_
      exact g_again (ihj (j + 1) (by omega) (by omega)) (.cons rfl (.cons rfl .nil)) .refl
    intro hbr
    have hbr := of_decide_eq_false hbr
    refine l_guard_no rfl rfl rfl ?_
    refine l_guard_no rfl rfl rfl ?_
    refine l_pick_f rfl rfl rfl ?_
    refine l_move rfl rfl ?_
    refine l_guard_no rfl rfl rfl ?_
    refine l_guard_no rfl rfl rfl ?_
    refine l_pick_f rfl rfl rfl ?_
    refine l_nil ?_
    refine g_cond_f rfl ?_
    refine g_skip ?_
    refine g_inBlock ?_
    refine g_region ?_
    refine l_move rfl rfl ?_
    first | refine l_add rfl rfl rfl (w_i64 (by omega) (by omega)) ?_ | refine l_addw rfl rfl rfl ?_
    refine l_assign rfl rfl ?_
    refine l_nil ?_
    exact g_again (ihj (j + 1) (by omega) (by omega)) (.cons rfl (.cons rfl .nil)) .refl
  intro hbr
  have hbr := of_decide_eq_false hbr
  refine g_exit rfl ?_
  refine g_seq ?_
  refine g_region ?_
  refine l_assign rfl rfl ?_
  refine l_nil ?_
  refine g_ret Try.func7 rfl (.tmp rfl .nil) ?_
  exact Gives.mk ⟨rfl, rfl⟩ (.drop 0 rfl (.drop 0 rfl .refl))
end Go.Proofs.Ytoflbmjdpngdiaa.Fw
