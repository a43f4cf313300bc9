import Derived.Test.YthngpcaljljlaaaRefM
import Derived.Test.YthngpcaljljlaaaDel
import Derived.Test.YthngpcaljljlaaaKeepW
import Derived.Test.YthngpcaljljlaaaFw24
namespace Go.Proofs.Ythngpcaljljlaaa.Fw
open Go Go.Proofs
set_option linter.unusedVariables false
set_option linter.unusedSimpArgs false
set_option maxRecDepth 10000

theorem part_snoc {W : List Int} {a : Int} {i : Nat} (h : a.toNat + i < W.length) : part W a (i : Int) ++ [W.getD (a.toNat + i) 0] = part W a ((i + 1 : Nat) : Int) := by
  unfold part
  rw [Int.toNat_natCast, Int.toNat_natCast, List.take_add_one]
  simp [List.getD_eq_getElem?_getD, h]
theorem rtake_ok (w0 : World) (F : List Atom) (b g n c : Nat) (W : List Int) (hW : W.length = n) (hc : n ≤ c) (hn : n ≤ 1073741824) (at_ k : Int) (a1 : at_ ≤ 9223372036854775807) (k1 : k ≤ 9223372036854775807) (h : inR n at_ k) :
    CallK Try.prog 48 [.pointer (some ⟨b, 0, none⟩), .int .i64 at_, .int .i64 k] w0 (Blk b (.cells [Value.slice (some ⟨g, 0, none⟩) n c].toArray 58 (0, 0)) :: Own 28 1 (.slice (some ⟨g, 0, none⟩) n c) n (ints .u32 W) :: F) (Gives w0 fun v F2 => ∃ a cq, v = .tuple #[.slice a k.toNat cq, .int .i64 0] ∧ (k.toNat = 0 ∨ ∃ g2, a = some ⟨g2, 0, none⟩) ∧ F2 = Own 28 1 (.slice a k.toNat cq) k.toNat (ints .u32 (part W at_ ((k.toNat : Nat) : Int))) :: Blk b (.cells [Value.slice (some ⟨g, 0, none⟩) n c].toArray 58 (0, 0)) :: Own 28 1 (.slice (some ⟨g, 0, none⟩) n c) n (ints .u32 W) :: F) := by
  obtain ⟨h0, h1, h2, h3⟩ := (show 0 ≤ at_ ∧ 0 ≤ k ∧ at_ ≤ n ∧ k ≤ n - at_ from h)
  refine c_enter Try.func48 rfl rfl rfl ?_
  refine g_seq ?_
  refine g_region ?_
  refine l_assign rfl rfl ?_
  refine l_assign rfl rfl ?_
  refine l_nil ?_
  refine g_seq ?_
  refine g_seq ?_
  refine g_region ?_
  refine l_move rfl rfl ?_
  refine l_eqpn rfl Try.underlying50 rfl rfl ?_
  refine l_nil ?_
  refine g_cond_f rfl ?_
  refine g_skip ?_
  refine g_seq ?_
  refine g_seq ?_
  refine g_region ?_
  refine l_move rfl rfl ?_
  refine l_move rfl rfl ?_
  refine l_move rfl rfl ?_
  refine l_call rfl Try.call53 rfl (run_ok _ _ _ _ _ _ (by omega) _ _ (by omega) (by omega) (by omega) (by omega) h) ?_; rintro _ _ ⟨rfl, rfl⟩
  refine l_not rfl rfl ?_
  refine l_nil ?_
  refine g_cond_f rfl ?_
  refine g_skip ?_
  refine g_seq ?_
  refine g_region ?_
  refine l_assign rfl rfl ?_
  refine l_nil ?_
  refine g_seq ?_
  refine g_seq ?_
  refine g_region ?_
  refine l_assign rfl rfl ?_
  refine l_nil ?_
  refine g_block ?_
  refine g_own_nil 28 1 ?_
  refine g_loopk (X := Int × Option Addr × Nat) [(0, _), (1, _), (2, _), (6, _), (7, _)] (.cons rfl (.cons rfl (.cons rfl (.cons rfl (.cons rfl (.nil)))))) (fun z => 0 ≤ z.1 ∧ z.1 ≤ k ∧ (z.1.toNat = 0 ∨ ∃ g, z.2.1 = some ⟨g, 0, none⟩)) (fun z => (k - z.1).toNat) (fun z => [(8, .slice z.2.1 z.1.toNat z.2.2), (9, .int .i64 z.1)]) (fun z => Own 28 1 (.slice z.2.1 z.1.toNat z.2.2) z.1.toNat (ints .u32 (part W at_ ((z.1.toNat : Nat) : Int))) :: Blk b (.cells [Value.slice (some ⟨g, 0, none⟩) n c].toArray 58 (0, 0)) :: Own 28 1 (.slice (some ⟨g, 0, none⟩) n c) n (ints .u32 W) :: F) ((0, none, 0)) (⟨by simp only; omega, by simp only; omega, .inl rfl⟩) (.cons rfl (.cons rfl .nil)) ((fun w hw => hw)) ?_
  rintro ⟨i, a1, c1⟩ ⟨i0, i1, ha1⟩ ih
  dsimp only [List.cons_append, List.nil_append] at ih ⊢
  simp only at i0 i1 ha1
  refine g_seq ?_
  refine g_seq ?_
  refine g_region ?_
  refine l_move rfl rfl ?_
  refine l_move rfl rfl ?_
  refine l_lss rfl rfl rfl ?_
  refine l_nil ?_
  refine g_cond rfl ?_ ?_
  · intro hbr
    have hbr := of_decide_eq_true hbr
    refine g_skip ?_
    refine g_seq ?_
    refine g_block ?_
    refine g_region ?_
    refine l_move rfl rfl ?_
    refine l_move rfl rfl ?_
    refine l_nilCheck rfl rfl ?_
    refine l_fieldAddr rfl fa_58_0 rfl ?_
    refine l_ld rfl Try.isAgg29 rfl rfl ?_
    refine l_move rfl rfl ?_
    refine l_move rfl rfl ?_
    first | refine l_add rfl rfl rfl (w_i64 (by omega) (by omega)) ?_ | refine l_addw rfl rfl rfl ?_
    refine l_ixs rfl Try.underlying29 Try.sizeOf28 rfl rfl (by omega) (by omega) ?_
    refine l_loadc rfl Try.isAgg28 rfl (word_at (mem_getO 2 rfl) (by omega)) ?_
    refine l_buildSlice rfl Try.underlying29 Try.sizeOf28 Try.zeroValue28 rfl rfl rfl rfl rfl rfl ?_; intro b32
    refine l_does rfl (does_apps 1 (by_ := 4) (kd := .u32) (V := part W at_ ((i.toNat : Nat) : Int)) (W := [W.getD (at_ + i).toNat 0]) (m := i.toNat) (m2 := 1) (m3 := (i + 1).toNat) (V3 := part W at_ (((i + 1).toNat : Nat) : Int)) Try.underlying29 Try.type28 rfl rfl rfl rfl rfl rfl rfl ⟨rfl, .inl ⟨_, _, _, rfl, .own (mem_getO 0 rfl)⟩⟩ (by omega) (by simp only [maxLen]; omega) (by omega) (by rw [show (i + 1).toNat = i.toNat + 1 by omega, show (at_ + i).toNat = at_.toNat + i.toNat by omega]; exact part_snoc (by omega)) (fun _ _ => rfl)) ?_
    rintro _ _ ⟨a33, c33, ha33, hn33, rfl, rfl⟩
    refine l_assign rfl rfl ?_
    refine l_nil ?_
    refine g_inBlock ?_
    refine g_region ?_
    refine l_move rfl rfl ?_
    first | refine l_add rfl rfl rfl (w_i64 (by omega) (by omega)) ?_ | refine l_addw rfl rfl rfl ?_
    refine l_assign rfl rfl ?_
    refine l_nil ?_
    exact g_againi (ih (i + 1, a33, c33) ⟨by simp only; omega, by simp only; omega, ha33⟩ (by simp only; omega)) (.cons rfl (.cons rfl (.cons rfl (.cons rfl (.cons rfl (.cons rfl (.cons rfl (.nil))))))))
  intro hbr
  have hbr := of_decide_eq_false hbr
  refine g_exit rfl ?_
  obtain rfl : i = k := by omega
  refine g_seq ?_
  refine g_region ?_
  refine l_move rfl rfl ?_
  refine l_assign rfl rfl ?_
  refine l_assign rfl rfl ?_
  refine l_nil ?_
  refine g_ret Try.func48 rfl (.tmp rfl (.tmp rfl .nil)) ?_
  exact Gives.mki ⟨_, c1, rfl, ha1, rfl⟩
theorem rtake_bad (w0 : World) (F : List Atom) (b g n c : Nat) (W : List Int) (hW : W.length = n) (hc : n ≤ c) (hn : n ≤ 1073741824) (at_ k : Int) (a0 : -9223372036854775808 ≤ at_) (a1 : at_ ≤ 9223372036854775807) (k0 : -9223372036854775808 ≤ k) (k1 : k ≤ 9223372036854775807) (h : ¬ inR n at_ k) :
    CallK Try.prog 48 [.pointer (some ⟨b, 0, none⟩), .int .i64 at_, .int .i64 k] w0 (Blk b (.cells [Value.slice (some ⟨g, 0, none⟩) n c].toArray 58 (0, 0)) :: Own 28 1 (.slice (some ⟨g, 0, none⟩) n c) n (ints .u32 W) :: F) (Gives w0 fun v F2 => v = .tuple #[.slice none 0 0, .int .i64 51] ∧ F2 = Blk b (.cells [Value.slice (some ⟨g, 0, none⟩) n c].toArray 58 (0, 0)) :: Own 28 1 (.slice (some ⟨g, 0, none⟩) n c) n (ints .u32 W) :: F) := by
  refine c_enter Try.func48 rfl rfl rfl ?_
  refine g_seq ?_
  refine g_region ?_
  refine l_assign rfl rfl ?_
  refine l_assign rfl rfl ?_
  refine l_nil ?_
  refine g_seq ?_
  refine g_seq ?_
  refine g_region ?_
  refine l_move rfl rfl ?_
  refine l_eqpn rfl Try.underlying50 rfl rfl ?_
  refine l_nil ?_
  refine g_cond_f rfl ?_
  refine g_skip ?_
  refine g_seq ?_
  refine g_seq ?_
  refine g_region ?_
  refine l_move rfl rfl ?_
  refine l_move rfl rfl ?_
  refine l_move rfl rfl ?_
  refine l_call rfl Try.call53 rfl (run_bad _ _ _ _ _ _ (by omega) _ _ (by omega) (by omega) (by omega) (by omega) h) ?_; rintro _ _ ⟨rfl, rfl⟩
  refine l_not rfl rfl ?_
  refine l_nil ?_
  refine g_cond_t rfl ?_
  refine g_seq ?_
  refine g_region ?_
  refine l_assign rfl rfl ?_
  refine l_assign rfl rfl ?_
  refine l_nil ?_
  refine g_ret Try.func48 rfl (.tmp rfl (.tmp rfl .nil)) ?_
  exact Gives.mki ⟨rfl, rfl⟩
theorem spl_next {o i : Nat} {Y W : List Int} (hi : i < Y.length) (ho : o + Y.length ≤ W.length) : (spl o (Y.take i) W).set (o + i) (Y.getD i 0) = spl o (Y.take (i + 1)) W := by
  have hl : ∀ j, j ≤ Y.length → (spl o (Y.take j) W).length = W.length := fun j hj => spl_length (by rw [List.length_take]; omega)
  refine getD_ext (by rw [List.length_set, hl i (by omega), hl (i + 1) (by omega)]) fun j hj => ?_
  rw [set_getD (by rw [hl i (by omega)]; omega), spl_getD (by rw [List.length_take]; omega), spl_getD (by rw [List.length_take]; omega), List.length_take, List.length_take, Nat.min_eq_left (by omega), Nat.min_eq_left (by omega)]
  have e : ∀ a b, a < b → (Y.take b).getD a 0 = Y.getD a 0 := fun a b h => by simp [List.getD_eq_getElem?_getD, List.getElem?_take, h]
  by_cases h1 : o + i = j
  · subst h1
    rw [if_pos rfl, if_pos ⟨by omega, by omega⟩, e _ _ (by omega)]
    congr 1; omega
  · rw [if_neg h1]
    by_cases h2 : o ≤ j ∧ j < o + i
    · rw [if_pos h2, if_pos ⟨h2.1, by omega⟩, e _ _ (by omega), e _ _ (by omega)]
    · rw [if_neg h2, if_neg (by omega)]
set_option maxHeartbeats 4000000 in
theorem rlay_ok (w0 : World) (F : List Atom) (b g n c : Nat) (W : List Int) (hW : W.length = n) (hc : n ≤ c) (hn : n ≤ 1073741824) (at_ : Int) (a1 : at_ ≤ 9223372036854775807) (ay : Option Addr) (q cy : Nat) (Y : List Int) (hY : IR w0 F .u32 ay q Y) (hYU : W32s Y) (hq : q ≤ 1073741824) (h : inR n at_ q) :
    CallK Try.prog 50 [.pointer (some ⟨b, 0, none⟩), .int .i64 at_, .slice ay q cy] w0 (Blk b (.cells [Value.slice (some ⟨g, 0, none⟩) n c].toArray 58 (0, 0)) :: Own 28 1 (.slice (some ⟨g, 0, none⟩) n c) n (ints .u32 W) :: F) (Gives w0 fun v F2 => v = .int .i64 0 ∧ F2 = Blk b (.cells [Value.slice (some ⟨g, 0, none⟩) n c].toArray 58 (0, 0)) :: Own 28 1 (.slice (some ⟨g, 0, none⟩) n c) n (ints .u32 (spl at_.toNat Y W)) :: F) := by
  obtain ⟨h0, h1, h2, h3⟩ := (show 0 ≤ at_ ∧ (0:Int) ≤ q ∧ at_ ≤ n ∧ (q:Int) ≤ n - at_ from h)
  have hYl := hY.1
  refine c_enter Try.func50 rfl rfl rfl ?_
  refine g_seq ?_
  refine g_region ?_
  refine l_assign rfl rfl ?_
  refine l_nil ?_
  refine g_seq ?_
  refine g_seq ?_
  refine g_region ?_
  refine l_move rfl rfl ?_
  refine l_eqpn rfl Try.underlying50 rfl rfl ?_
  refine l_nil ?_
  refine g_cond rfl ?_ ?_
  · intro hbr
    first | (exfalso; simp at hbr; done) | (exfalso; simp at hbr; omega)
  intro hbr
  have hb9 := hbr
  refine g_skip ?_
  refine g_seq ?_
  refine g_seq ?_
  refine g_region ?_
  refine l_move rfl rfl ?_
  refine l_move rfl rfl ?_
  refine l_move rfl rfl ?_
  refine l_len rfl Try.underlying29 rfl ?_
  refine l_call rfl Try.call53 rfl (run_ok _ _ _ _ _ _ (by omega) _ _ (by omega) (by omega) (by omega) (by omega) h) ?_; rintro _ _ ⟨rfl, rfl⟩
  refine l_not rfl rfl ?_
  refine l_nil ?_
  refine g_cond_f rfl ?_
  refine g_skip ?_
  refine g_seq ?_
  refine g_seq ?_
  refine g_region ?_
  refine l_assign rfl rfl ?_
  refine l_nil ?_
  refine g_block ?_
  refine g_loopk (X := Int × List Int) [(0, _), (1, _), (2, _), (6, _)] (.cons rfl (.cons rfl (.cons rfl (.cons rfl (.nil))))) (fun z => 0 ≤ z.1 ∧ z.1 ≤ q ∧ z.2 = spl at_.toNat (Y.take z.1.toNat) W) (fun z => ((q : Int) - z.1).toNat) (fun z => [(7, .int .i64 z.1)]) (fun z => Blk b (.cells [Value.slice (some ⟨g, 0, none⟩) n c].toArray 58 (0, 0)) :: Own 28 1 (.slice (some ⟨g, 0, none⟩) n c) n (ints .u32 z.2) :: F) ((0, W)) (⟨by simp only; omega, by simp only; omega, by simp [spl]⟩) (.cons rfl .nil) (fun w hw => SPI.holds hw) ?_
  rintro ⟨i, X⟩ ⟨i0, i1, hX⟩ ih
  dsimp only [List.cons_append, List.nil_append] at ih ⊢
  simp only at i0 i1 hX
  have hXl : X.length = n := by rw [hX, spl_length (by rw [List.length_take]; omega)]; exact hW
  refine g_seq ?_
  refine g_seq ?_
  refine g_region ?_
  refine l_move rfl rfl ?_
  refine l_move rfl rfl ?_
  refine l_len rfl Try.underlying29 rfl ?_
  refine l_lss rfl rfl rfl ?_
  refine l_nil ?_
  refine g_cond rfl ?_ ?_
  · intro hbr
    have hbr := of_decide_eq_true hbr
    refine g_skip ?_
    refine g_seq ?_
    refine g_block ?_
    refine gp_start mo (by kernel_rfl) (by kernel_rfl) ?_
    refine gp_quiet 0 rfl rfl rfl rfl rfl rfl (q_move rfl) ?_
    refine gp_quiet 1 rfl rfl rfl rfl rfl rfl (q_nilCheck rfl) ?_
    refine gp_quiet 2 rfl rfl rfl rfl rfl rfl (q_fieldAddr fa_58_0 rfl) ?_
    refine gp_quiet 3 rfl rfl rfl rfl rfl rfl (q_ld Try.isAgg29 rfl rfl) ?_
    refine gp_quiet 4 rfl rfl rfl rfl rfl rfl (q_move rfl) ?_
    refine gp_quiet 5 rfl rfl rfl rfl rfl rfl (q_move rfl) ?_
    first | refine gp_quiet 6 rfl rfl rfl rfl rfl rfl (q_add rfl rfl (w_i64 (by omega) (by omega))) ?_ | refine gp_quiet 6 rfl rfl rfl rfl rfl rfl (q_addw rfl rfl) ?_
    refine gp_quiet 7 rfl rfl rfl rfl rfl rfl (q_move rfl) ?_
    refine gp_quiet 8 rfl rfl rfl rfl rfl rfl (q_move rfl) ?_
    obtain ⟨b9, o9, rfl, hr9⟩ := hY.some (i := i.toNat) (by omega)
    have hby := hYU i.toNat
    refine gp_quiet 9 rfl rfl rfl rfl rfl rfl (q_ixs Try.underlying29 Try.sizeOf28 rfl rfl (by omega) (by omega)) ?_
    refine gp_quiet 10 rfl rfl rfl rfl rfl rfl (q_loadc Try.isAgg28 rfl (word_any hr9 (by omega))) ?_
    refine gp_quiet 11 rfl rfl rfl rfl rfl rfl (q_ixs Try.underlying29 Try.sizeOf28 rfl rfl (by omega) (by omega)) ?_
    refine gp_effa 12 [0, 1, 2, 3, 4, 5, 6, 7, 8, 9, 10, 11] [] rfl rfl rfl rfl rfl rfl rfl (does_storew 1 Try.sizeOf28 rfl rfl rfl (by omega) rfl) ?_
    rintro _ _ ⟨rfl, rfl⟩
    refine ⟨?_, ?_⟩
    · exact .nil
    refine gp_end rfl rfl ?_
    refine g_inBlock ?_
    refine g_region ?_
    refine l_move rfl rfl ?_
    first | refine l_add rfl rfl rfl (w_i64 (by omega) (by omega)) ?_ | refine l_addw rfl rfl rfl ?_
    refine l_assign rfl rfl ?_
    refine l_nil ?_
    exact g_againi (ih (i + 1, X.set (at_ + i).toNat (Y.getD i.toNat 0)) ⟨by simp only; omega, by simp only; omega, by simp only; rw [hX, show (i + 1).toNat = i.toNat + 1 by omega, show (at_ + i).toNat = at_.toNat + i.toNat by omega]; exact spl_next (by omega) (by omega)⟩ (by simp only; omega)) (.cons rfl (.cons rfl (.cons rfl (.cons rfl (.cons rfl (.nil))))))
  intro hbr
  have hbr := of_decide_eq_false hbr
  refine g_exit rfl ?_
  obtain rfl : i = q := by omega
  rw [Int.toNat_natCast, List.take_of_length_le (by omega)] at hX
  subst hX
  refine g_seq ?_
  refine g_region ?_
  refine l_assign rfl rfl ?_
  refine l_nil ?_
  refine g_ret Try.func50 rfl (.tmp rfl .nil) ?_
  exact Gives.mki ⟨rfl, rfl⟩
end Go.Proofs.Ythngpcaljljlaaa.Fw
