import Derived.Test.YtlgcghhjgcdigaaLent
import Derived.Test.YtlgcghhjgcdigaaRefM
namespace Go.Proofs.Ytlgcghhjgcdigaa.Fw
open Go Go.Proofs
set_option linter.unusedVariables false
set_option linter.unusedSimpArgs false
set_option maxRecDepth 10000
theorem bd_104_0 (a0_0 : Option Addr) (n0_0 c0_0 : Nat) (w : World) : (Instr.build 104 #[(0, .slice a0_0 n0_0 c0_0)]).run Try.prog w = .ok (.agg #[.slice a0_0 n0_0 c0_0]) w := by kernel_rfl
def part (W : List Int) (at_ k : Int) : List Int := (W.drop at_.toNat).take k.toNat
theorem part_len {W : List Int} {n : Nat} {at_ k : Int} (hW : W.length = n) (h : inR n at_ k) : (part W at_ k).length = k.toNat := by
  obtain ⟨h0, h1, h2, h3⟩ := h
  unfold part
  rw [List.length_take, List.length_drop]
  omega
theorem part_snoc {W : List Int} {a : Int} {i : Nat} (h : a.toNat + i < W.length) : part W a (i : Int) ++ [W.getD (a.toNat + i) 0] = part W a ((i + 1 : Nat) : Int) := by
  unfold part
  rw [Int.toNat_natCast, Int.toNat_natCast, List.take_add_one]
  simp [List.getD_eq_getElem?_getD, h]
theorem spl_next {o i : Nat} {Y W : List Int} (hi : i < Y.length) (ho : o + Y.length ≤ W.length) : (spl o (Y.take i) W).set (o + i) (Y.getD i 0) = spl o (Y.take (i + 1)) W := by
  have hl : ∀ j, j ≤ Y.length → (spl o (Y.take j) W).length = W.length := fun j hj => spl_length (by rw [List.length_take]; omega)
  refine gx_ext (by rw [List.length_set, hl i (by omega), hl (i + 1) (by omega)]) fun j hj => ?_
  rw [gx_set (by rw [hl i (by omega)]; omega), spl_getD (by rw [List.length_take]; omega), spl_getD (by rw [List.length_take]; omega), List.length_take, List.length_take, Nat.min_eq_left (by omega), Nat.min_eq_left (by omega)]
  have e : ∀ a b, a < b → (Y.take b).getD a 0 = Y.getD a 0 := fun a b h => by simp [List.getD_eq_getElem?_getD, List.getElem?_take, h]
  by_cases h1 : o + i = j
  · subst h1
    rw [if_pos rfl, if_pos ⟨by omega, by omega⟩, e _ _ (by omega)]
    congr 1; omega
  · rw [if_neg h1]
    by_cases h2 : o ≤ j ∧ j < o + i
    · rw [if_pos h2, if_pos ⟨h2.1, by omega⟩, e _ _ (by omega), e _ _ (by omega)]
    · rw [if_neg h2, if_neg (by omega)]
theorem part_w32 {W : List Int} (h : W32s W) (a k : Int) : W32s (part W a k) := h.part _ _
theorem rnew5_ok (w0 : World) (F : List Atom) (m : Int) (m0 : 1 ≤ m) (m1 : m ≤ 1024) :
    CallK Try.prog 39 [.int .i64 m] w0 (F) (Gives w0 fun v F2 => ∃ b g c, v = .tuple #[.pointer (some ⟨b, 0, none⟩), .int .i64 0] ∧ (m * 16).toNat ≤ c ∧ F2 = Blk b (.cells [Value.slice (some ⟨g, 0, none⟩) (m * 16).toNat c].toArray 104 (0, 0)) :: Own 30 1 (.slice (some ⟨g, 0, none⟩) (m * 16).toNat c) (m * 16).toNat (ints .u32 (List.replicate (m * 16).toNat 0)) :: F) := by
  refine c_enter Try.func39 rfl rfl rfl ?_
  refine g_seq ?_
  refine g_region ?_
  refine l_assign rfl rfl ?_
  refine l_assign rfl rfl ?_
  refine l_nil ?_
  refine g_seq ?_
  refine g_seq ?_
  refine g_region ?_
  refine l_move rfl rfl ?_
  refine l_lss rfl rfl rfl ?_
  refine l_move rfl rfl ?_
  refine l_split 6 rfl ?_ ?_
  · intro hbr
    have hbr := of_decide_eq_true hbr
    (exfalso; omega)
  intro hbr
  have hbr := of_decide_eq_false hbr
  refine l_guard_yes rfl rfl ?_
  refine l_move rfl rfl ?_
  refine l_guard_yes rfl rfl ?_
  refine l_gtr rfl rfl rfl ?_
  refine l_pick_f rfl rfl rfl ?_
  refine l_nil ?_
  refine g_cond rfl ?_ ?_
  · intro hbr
    have hbr := of_decide_eq_true hbr
    (exfalso; omega)
  intro hbr
  have hbr := of_decide_eq_false hbr
  refine g_skip ?_
  refine g_seq ?_
  refine g_region ?_
  refine l_move rfl rfl ?_
  refine l_mul rfl rfl rfl (w_i64 (by omega) (by omega)) ?_
  rw [Int.mul_comm 16 m]
  refine l_makew rfl Try.underlying23 Try.type30 rfl rfl rfl rfl (by omega) (by show (4 : Int) * _ ≤ _; omega) (by omega) ?_; intro b12
  refine l_build rfl rfl (fun w => bd_104_0 _ _ _ w) ?_
  refine l_boxs rfl rfl ?_; intro b14
  refine l_assign rfl rfl ?_
  refine l_assign rfl rfl ?_
  refine l_nil ?_
  refine g_ret Try.func39 rfl (.tmp rfl (.tmp rfl .nil)) ?_
  exact Gives.mki ⟨b14, b12, _, rfl, Nat.le_refl _, rfl⟩
theorem rnew5_bad (w0 : World) (F : List Atom) (m : Int) (m0 : m < 1 ∨ 1024 < m) :
    CallK Try.prog 39 [.int .i64 m] w0 (F) (Gives w0 fun v F2 => v = .tuple #[.pointer none, .int .i64 50] ∧ F2 = F) := by
  refine c_enter Try.func39 rfl rfl rfl ?_
  refine g_seq ?_
  refine g_region ?_
  refine l_assign rfl rfl ?_
  refine l_assign rfl rfl ?_
  refine l_nil ?_
  refine g_seq ?_
  refine g_seq ?_
  refine g_region ?_
  refine l_move rfl rfl ?_
  refine l_lss rfl rfl rfl ?_
  refine l_move rfl rfl ?_
  refine l_split 6 rfl ?_ ?_
  · intro hbr
    have hbr := of_decide_eq_true hbr
    refine l_guard_no rfl rfl rfl ?_
    refine l_guard_no rfl rfl rfl ?_
    refine l_pick_t rfl rfl rfl ?_
    refine l_nil ?_
    first | refine g_cond_t rfl ?_ | refine g_cond_t (congrArg (fun b => some (Value.bool b)) (decide_eq_true hbr)) ?_
    refine g_seq ?_
    refine g_region ?_
    refine l_assign rfl rfl ?_
    refine l_assign rfl rfl ?_
    refine l_nil ?_
    refine g_ret Try.func39 rfl (.tmp rfl (.tmp rfl .nil)) ?_
    exact Gives.mki ⟨rfl, rfl⟩
  intro hbr
  have hbr := of_decide_eq_false hbr
  refine l_guard_yes rfl rfl ?_
  refine l_move rfl rfl ?_
  refine l_guard_yes rfl rfl ?_
  refine l_gtr rfl rfl rfl ?_
  refine l_pick_f rfl rfl rfl ?_
  refine l_nil ?_
  refine g_cond rfl ?_ ?_
  · intro hbr
    have hbr := of_decide_eq_true hbr
    refine g_seq ?_
    refine g_region ?_
    refine l_assign rfl rfl ?_
    refine l_assign rfl rfl ?_
    refine l_nil ?_
    refine g_ret Try.func39 rfl (.tmp rfl (.tmp rfl .nil)) ?_
    exact Gives.mki ⟨rfl, rfl⟩
  · intro hbr
    have hbr := of_decide_eq_false hbr
    (exfalso; omega)
theorem rclone_ok (w0 : World) (F : List Atom) (b g n c : Nat) (W : List Int) (hW : W.length = n) (hc : n ≤ c) (hn : n ≤ 1073741824) (h0 : 0 < n) :
    CallK Try.prog 41 [.pointer (some ⟨b, 0, none⟩)] w0 (Blk b (.cells [Value.slice (some ⟨g, 0, none⟩) n c].toArray 104 (0, 0)) :: Own 30 1 (.slice (some ⟨g, 0, none⟩) n c) n (ints .u32 W) :: F) (Gives w0 fun v F2 => ∃ b2 g2 c2, v = .pointer (some ⟨b2, 0, none⟩) ∧ n ≤ c2 ∧ F2 = Blk b2 (.cells [Value.slice (some ⟨g2, 0, none⟩) n c2].toArray 104 (0, 0)) :: Own 30 1 (.slice (some ⟨g2, 0, none⟩) n c2) n (ints .u32 W) :: Blk b (.cells [Value.slice (some ⟨g, 0, none⟩) n c].toArray 104 (0, 0)) :: Own 30 1 (.slice (some ⟨g, 0, none⟩) n c) n (ints .u32 W) :: F) := by
  refine c_enter Try.func41 rfl rfl rfl ?_
  refine g_seq ?_
  refine g_region ?_
  refine l_assign rfl rfl ?_
  refine l_nil ?_
  refine g_seq ?_
  refine g_seq ?_
  refine g_region ?_
  refine l_move rfl rfl ?_
  refine l_eqpn rfl Try.underlying87 rfl rfl ?_
  refine l_nil ?_
  first | refine g_cond_f rfl ?_ | refine g_cond_f (congrArg (fun b => some (Value.bool b)) (decide_eq_false hbr)) ?_
  refine g_skip ?_
  refine g_seq ?_
  refine g_region ?_
  refine l_own_nil 30 1 ?_
  refine l_build rfl rfl (fun w => bd_104_z w) ?_
  refine l_boxs rfl rfl ?_; intro b7
  refine l_assign rfl rfl ?_
  refine l_nil ?_
  refine g_seq ?_
  refine gp_start mo (by kernel_rfl) (by kernel_rfl) ?_
  refine gp_quiet 0 rfl rfl rfl rfl rfl rfl (q_move rfl) ?_
  refine gp_quiet 1 rfl rfl rfl rfl rfl rfl (q_move rfl) ?_
  refine gp_quiet 2 rfl rfl rfl rfl rfl rfl (q_nilCheck rfl) ?_
  refine gp_quiet 3 rfl rfl rfl rfl rfl rfl (q_fieldAddr fa_104_0 rfl) ?_
  refine gp_quiet 4 rfl rfl rfl rfl rfl rfl (q_ld Try.isAgg23 rfl rfl) ?_
  refine gp_quiet 5 rfl rfl rfl rfl rfl rfl (q_move rfl) ?_
  refine gp_quiet 6 rfl rfl rfl rfl rfl rfl (q_nilCheck rfl) ?_
  refine gp_quiet 7 rfl rfl rfl rfl rfl rfl (q_fieldAddr fa_104_0 rfl) ?_
  refine gp_quiet 8 rfl rfl rfl rfl rfl rfl (q_ld Try.isAgg23 rfl rfl) ?_
  refine gp_effa 9 [4, 8] [7, 6, 5, 3, 2, 1, 0] rfl rfl rfl rfl rfl rfl rfl (does_apps 1 (by_ := 4) (kd := .u32) (V := []) (W := W) (m := 0) (m2 := n) (m3 := n) (V3 := W) Try.underlying23 Try.type30 rfl rfl rfl rfl rfl rfl rfl ⟨by rw [ints_length]; omega, .inl ⟨_, _, _, rfl, .own (mem_getO 3 rfl)⟩⟩ (by omega) (by simp only [maxLen]; omega) (by omega) rfl (fun _ _ => rfl)) ?_
  rintro _ _ ⟨a17, c17, ha17, hn17, rfl, rfl⟩
  refine ⟨?_, ?_⟩
  · refine .cons rfl rfl rfl rfl rfl (q_fieldAddr fa_104_0 rfl) ?_
    refine .cons rfl rfl rfl rfl rfl (q_nilCheck rfl) ?_
    refine .cons rfl rfl rfl rfl rfl (q_move rfl) ?_
    refine .cons rfl rfl rfl rfl rfl (q_fieldAddr fa_104_0 rfl) ?_
    refine .cons rfl rfl rfl rfl rfl (q_nilCheck rfl) ?_
    refine .cons rfl rfl rfl rfl rfl (q_move rfl) ?_
    refine .cons rfl rfl rfl rfl rfl (q_move rfl) ?_
    exact .nil
  refine gp_quiet 10 rfl rfl rfl rfl rfl rfl (q_nilCheck rfl) ?_
  refine gp_quiet 11 rfl rfl rfl rfl rfl rfl (q_fieldAddr fa_104_0 rfl) ?_
  refine gp_effa 12 [0, 1, 2, 3, 5, 6, 7, 11] [10] rfl rfl rfl rfl rfl rfl rfl (does_st Try.sizeOf23 rfl rfl rfl rfl) ?_
  rintro _ _ ⟨rfl, rfl⟩
  refine ⟨?_, ?_⟩
  · refine .cons rfl rfl rfl rfl rfl (q_nilCheck rfl) ?_
    exact .nil
  refine gp_end rfl rfl ?_
  refine g_seq ?_
  refine g_region ?_
  obtain ⟨g9, rfl⟩ := ha17.resolve_left (by omega)
  refine l_fact (own_cases (mem_getO 1 rfl)) ?_
  intro hown
  have hc9 : n ≤ c17 := by
    rcases hown.2.2 with ⟨h, _⟩ | ⟨g', cp, h, h2⟩
    · cases h
    · cases h; exact h2
  clear hown
  refine l_move rfl rfl ?_
  refine l_assign rfl rfl ?_
  refine l_nil ?_
  refine g_ret Try.func41 rfl (.tmp rfl .nil) ?_
  exact Gives.mki ⟨_, g9, c17, rfl, hc9, rfl⟩
theorem rtake_ok (w0 : World) (F : List Atom) (b g n c : Nat) (W : List Int) (hW : W.length = n) (hc : n ≤ c) (hn : n ≤ 1073741824) (at_ k : Int) (a1 : at_ ≤ 9223372036854775807) (k1 : k ≤ 9223372036854775807) (h : inR n at_ k) :
    CallK Try.prog 52 [.pointer (some ⟨b, 0, none⟩), .int .i64 at_, .int .i64 k] w0 (Blk b (.cells [Value.slice (some ⟨g, 0, none⟩) n c].toArray 104 (0, 0)) :: Own 30 1 (.slice (some ⟨g, 0, none⟩) n c) n (ints .u32 W) :: F) (Gives w0 fun v F2 => ∃ a cq, v = .tuple #[.slice a k.toNat cq, .int .i64 0] ∧ (k.toNat = 0 ∨ ∃ g2, a = some ⟨g2, 0, none⟩) ∧ F2 = Own 30 1 (.slice a k.toNat cq) k.toNat (ints .u32 (part W at_ ((k.toNat : Nat) : Int))) :: Blk b (.cells [Value.slice (some ⟨g, 0, none⟩) n c].toArray 104 (0, 0)) :: Own 30 1 (.slice (some ⟨g, 0, none⟩) n c) n (ints .u32 W) :: F) := by
  obtain ⟨h0, h1, h2, h3⟩ := (show 0 ≤ at_ ∧ 0 ≤ k ∧ at_ ≤ n ∧ k ≤ n - at_ from h)
  refine c_enter Try.func52 rfl rfl rfl ?_
  refine g_seq ?_
  refine g_region ?_
  refine l_assign rfl rfl ?_
  refine l_assign rfl rfl ?_
  refine l_nil ?_
  refine g_seq ?_
  refine g_seq ?_
  refine g_region ?_
  refine l_move rfl rfl ?_
  refine l_eqpn rfl Try.underlying87 rfl rfl ?_
  refine l_nil ?_
  first | refine g_cond_f rfl ?_ | refine g_cond_f (congrArg (fun b => some (Value.bool b)) (decide_eq_false hbr)) ?_
  refine g_skip ?_
  refine g_seq ?_
  refine g_seq ?_
  refine g_region ?_
  refine l_move rfl rfl ?_
  refine l_move rfl rfl ?_
  refine l_move rfl rfl ?_
  refine l_call rfl Try.call59 rfl (run_ok _ _ _ _ _ _ (by omega) _ _ (by omega) (by omega) (by omega) (by omega) h) ?_; rintro _ _ ⟨rfl, rfl⟩
  refine l_not rfl rfl ?_
  refine l_nil ?_
  first | refine g_cond_f rfl ?_ | refine g_cond_f (congrArg (fun b => some (Value.bool b)) (decide_eq_false hbr)) ?_
  refine g_skip ?_
  refine g_seq ?_
  refine g_region ?_
  refine l_assign rfl rfl ?_
  refine l_nil ?_
  refine g_seq ?_
  refine g_seq ?_
  refine g_region ?_
  refine l_assign rfl rfl ?_
  refine l_nil ?_
  refine g_block ?_
  refine g_own_nil 30 1 ?_
  refine g_loopk (X := Int × Option Addr × Nat) [(0, _), (1, _), (2, _), (6, _), (7, _)] (.cons rfl (.cons rfl (.cons rfl (.cons rfl (.cons rfl (.nil)))))) (fun z => 0 ≤ z.1 ∧ z.1 ≤ k ∧ (z.1.toNat = 0 ∨ ∃ g, z.2.1 = some ⟨g, 0, none⟩)) (fun z => (k - z.1).toNat) (fun z => [(8, .slice z.2.1 z.1.toNat z.2.2), (9, .int .i64 z.1)]) (fun z => Own 30 1 (.slice z.2.1 z.1.toNat z.2.2) z.1.toNat (ints .u32 (part W at_ ((z.1.toNat : Nat) : Int))) :: Blk b (.cells [Value.slice (some ⟨g, 0, none⟩) n c].toArray 104 (0, 0)) :: Own 30 1 (.slice (some ⟨g, 0, none⟩) n c) n (ints .u32 W) :: F) ((0, none, 0)) (⟨by simp only; omega, by simp only; omega, .inl rfl⟩) (.cons rfl (.cons rfl .nil)) ((fun w hw => hw)) ?_
  rintro ⟨i, a1, c1⟩ ⟨i0, i1, ha1⟩ ih
  dsimp only [List.cons_append, List.nil_append] at ih ⊢
  simp only at i0 i1 ha1
  refine g_seq ?_
  refine g_seq ?_
  refine g_region ?_
  refine l_move rfl rfl ?_
  refine l_move rfl rfl ?_
  refine l_lss rfl rfl rfl ?_
  refine l_nil ?_
  refine g_cond rfl ?_ ?_
  · intro hbr
    have hbr := of_decide_eq_true hbr
    refine g_skip ?_
    refine g_seq ?_
    refine g_block ?_
    refine g_region ?_
    refine l_move rfl rfl ?_
    refine l_move rfl rfl ?_
    refine l_nilCheck rfl rfl ?_
    refine l_fieldAddr rfl fa_104_0 rfl ?_
    refine l_ld rfl Try.isAgg23 rfl rfl ?_
    refine l_move rfl rfl ?_
    refine l_move rfl rfl ?_
    first | refine l_add rfl rfl rfl (w_i64 (by omega) (by omega)) ?_ | refine l_addw rfl rfl rfl ?_
    refine l_ixs rfl Try.underlying23 Try.sizeOf30 rfl rfl (by omega) (by omega) ?_
    refine l_loadc rfl Try.isAgg30 rfl (word_at (mem_getO 2 rfl) (by omega)) ?_
    refine l_buildSlice rfl Try.underlying23 Try.sizeOf30 Try.zeroValue30 rfl rfl rfl rfl rfl rfl ?_; intro b32
    refine l_does rfl (does_apps 1 (by_ := 4) (kd := .u32) (V := part W at_ ((i.toNat : Nat) : Int)) (W := [W.getD (at_ + i).toNat 0]) (m := i.toNat) (m2 := 1) (m3 := (i + 1).toNat) (V3 := part W at_ (((i + 1).toNat : Nat) : Int)) Try.underlying23 Try.type30 rfl rfl rfl rfl rfl rfl rfl ⟨rfl, .inl ⟨_, _, _, rfl, .own (mem_getO 0 rfl)⟩⟩ (by omega) (by simp only [maxLen]; omega) (by omega) (by rw [show (i + 1).toNat = i.toNat + 1 by omega, show (at_ + i).toNat = at_.toNat + i.toNat by omega]; exact part_snoc (by omega)) (fun _ _ => rfl)) ?_
    rintro _ _ ⟨a33, c33, ha33, hn33, rfl, rfl⟩
    refine l_assign rfl rfl ?_
    refine l_nil ?_
    refine g_inBlock ?_
    refine g_region ?_
    refine l_move rfl rfl ?_
    first | refine l_add rfl rfl rfl (w_i64 (by omega) (by omega)) ?_ | refine l_addw rfl rfl rfl ?_
    refine l_assign rfl rfl ?_
    refine l_nil ?_
    exact g_againi (ih (i + 1, a33, c33) ⟨by simp only; omega, by simp only; omega, ha33⟩ (by simp only; omega)) (.cons rfl (.cons rfl (.cons rfl (.cons rfl (.cons rfl (.cons rfl (.cons rfl (.nil))))))))
  intro hbr
  have hbr := of_decide_eq_false hbr
  refine g_exit rfl ?_
  obtain rfl : i = k := by omega
  refine g_seq ?_
  refine g_region ?_
  refine l_move rfl rfl ?_
  refine l_assign rfl rfl ?_
  refine l_assign rfl rfl ?_
  refine l_nil ?_
  refine g_ret Try.func52 rfl (.tmp rfl (.tmp rfl .nil)) ?_
  exact Gives.mki ⟨_, c1, rfl, ha1, rfl⟩
theorem rtake_bad (w0 : World) (F : List Atom) (b g n c : Nat) (W : List Int) (hW : W.length = n) (hc : n ≤ c) (hn : n ≤ 1073741824) (at_ k : Int) (a0 : -9223372036854775808 ≤ at_) (a1 : at_ ≤ 9223372036854775807) (k0 : -9223372036854775808 ≤ k) (k1 : k ≤ 9223372036854775807) (h : ¬ inR n at_ k) :
    CallK Try.prog 52 [.pointer (some ⟨b, 0, none⟩), .int .i64 at_, .int .i64 k] w0 (Blk b (.cells [Value.slice (some ⟨g, 0, none⟩) n c].toArray 104 (0, 0)) :: Own 30 1 (.slice (some ⟨g, 0, none⟩) n c) n (ints .u32 W) :: F) (Gives w0 fun v F2 => v = .tuple #[.slice none 0 0, .int .i64 51] ∧ F2 = Blk b (.cells [Value.slice (some ⟨g, 0, none⟩) n c].toArray 104 (0, 0)) :: Own 30 1 (.slice (some ⟨g, 0, none⟩) n c) n (ints .u32 W) :: F) := by
  refine c_enter Try.func52 rfl rfl rfl ?_
  refine g_seq ?_
  refine g_region ?_
  refine l_assign rfl rfl ?_
  refine l_assign rfl rfl ?_
  refine l_nil ?_
  refine g_seq ?_
  refine g_seq ?_
  refine g_region ?_
  refine l_move rfl rfl ?_
  refine l_eqpn rfl Try.underlying87 rfl rfl ?_
  refine l_nil ?_
  first | refine g_cond_f rfl ?_ | refine g_cond_f (congrArg (fun b => some (Value.bool b)) (decide_eq_false hbr)) ?_
  refine g_skip ?_
  refine g_seq ?_
  refine g_seq ?_
  refine g_region ?_
  refine l_move rfl rfl ?_
  refine l_move rfl rfl ?_
  refine l_move rfl rfl ?_
  refine l_call rfl Try.call59 rfl (run_bad _ _ _ _ _ _ (by omega) _ _ (by omega) (by omega) (by omega) (by omega) h) ?_; rintro _ _ ⟨rfl, rfl⟩
  refine l_not rfl rfl ?_
  refine l_nil ?_
  first | refine g_cond_t rfl ?_ | refine g_cond_t (congrArg (fun b => some (Value.bool b)) (decide_eq_true hbr)) ?_
  refine g_seq ?_
  refine g_region ?_
  refine l_assign rfl rfl ?_
  refine l_assign rfl rfl ?_
  refine l_nil ?_
  refine g_ret Try.func52 rfl (.tmp rfl (.tmp rfl .nil)) ?_
  exact Gives.mki ⟨rfl, rfl⟩
set_option maxHeartbeats 4000000 in
theorem rlay_ok (w0 : World) (F : List Atom) (b g n c : Nat) (W : List Int) (hW : W.length = n) (hc : n ≤ c) (hn : n ≤ 1073741824) (at_ : Int) (a1 : at_ ≤ 9223372036854775807) (ay : Option Addr) (q cy : Nat) (Y : List Int) (hY : IR w0 F .u32 ay q Y) (hYU : W32s Y) (hq : q ≤ 1073741824) (h : inR n at_ q) :
    CallK Try.prog 54 [.pointer (some ⟨b, 0, none⟩), .int .i64 at_, .slice ay q cy] w0 (Blk b (.cells [Value.slice (some ⟨g, 0, none⟩) n c].toArray 104 (0, 0)) :: Own 30 1 (.slice (some ⟨g, 0, none⟩) n c) n (ints .u32 W) :: F) (Gives w0 fun v F2 => v = .int .i64 0 ∧ F2 = Blk b (.cells [Value.slice (some ⟨g, 0, none⟩) n c].toArray 104 (0, 0)) :: Own 30 1 (.slice (some ⟨g, 0, none⟩) n c) n (ints .u32 (spl at_.toNat Y W)) :: F) := by
  obtain ⟨h0, h1, h2, h3⟩ := (show 0 ≤ at_ ∧ (0:Int) ≤ q ∧ at_ ≤ n ∧ (q:Int) ≤ n - at_ from h)
  have hYl := hY.1
  refine c_enter Try.func54 rfl rfl rfl ?_
  refine g_seq ?_
  refine g_region ?_
  refine l_assign rfl rfl ?_
  refine l_nil ?_
  refine g_seq ?_
  refine g_seq ?_
  refine g_region ?_
  refine l_move rfl rfl ?_
  refine l_eqpn rfl Try.underlying87 rfl rfl ?_
  refine l_nil ?_
  first | refine g_cond_f rfl ?_ | refine g_cond_f (congrArg (fun b => some (Value.bool b)) (decide_eq_false hbr)) ?_
  refine g_skip ?_
  refine g_seq ?_
  refine g_seq ?_
  refine g_region ?_
  refine l_move rfl rfl ?_
  refine l_move rfl rfl ?_
  refine l_move rfl rfl ?_
  refine l_len rfl Try.underlying23 rfl ?_
  refine l_call rfl Try.call59 rfl (run_ok _ _ _ _ _ _ (by omega) _ _ (by omega) (by omega) (by omega) (by omega) h) ?_; rintro _ _ ⟨rfl, rfl⟩
  refine l_not rfl rfl ?_
  refine l_nil ?_
  first | refine g_cond_f rfl ?_ | refine g_cond_f (congrArg (fun b => some (Value.bool b)) (decide_eq_false hbr)) ?_
  refine g_skip ?_
  refine g_seq ?_
  refine g_seq ?_
  refine g_region ?_
  refine l_assign rfl rfl ?_
  refine l_nil ?_
  refine g_block ?_
  refine g_loopk (X := Int × List Int) [(0, _), (1, _), (2, _), (6, _)] (.cons rfl (.cons rfl (.cons rfl (.cons rfl (.nil))))) (fun z => 0 ≤ z.1 ∧ z.1 ≤ q ∧ z.2 = spl at_.toNat (Y.take z.1.toNat) W) (fun z => ((q : Int) - z.1).toNat) (fun z => [(7, .int .i64 z.1)]) (fun z => Blk b (.cells [Value.slice (some ⟨g, 0, none⟩) n c].toArray 104 (0, 0)) :: Own 30 1 (.slice (some ⟨g, 0, none⟩) n c) n (ints .u32 z.2) :: F) ((0, W)) (⟨by simp only; omega, by simp only; omega, by simp [spl]⟩) (.cons rfl .nil) (fun w hw => SPI.holds hw) ?_
  rintro ⟨i, X⟩ ⟨i0, i1, hX⟩ ih
  dsimp only [List.cons_append, List.nil_append] at ih ⊢
  simp only at i0 i1 hX
  have hXl : X.length = n := by rw [hX, spl_length (by rw [List.length_take]; omega)]; exact hW
  refine g_seq ?_
  refine g_seq ?_
  refine g_region ?_
  refine l_move rfl rfl ?_
  refine l_move rfl rfl ?_
  refine l_len rfl Try.underlying23 rfl ?_
  refine l_lss rfl rfl rfl ?_
  refine l_nil ?_
  refine g_cond rfl ?_ ?_
  · intro hbr
    have hbr := of_decide_eq_true hbr
    refine g_skip ?_
    refine g_seq ?_
    refine g_block ?_
    refine gp_start mo (by kernel_rfl) (by kernel_rfl) ?_
    refine gp_quiet 0 rfl rfl rfl rfl rfl rfl (q_move rfl) ?_
    refine gp_quiet 1 rfl rfl rfl rfl rfl rfl (q_nilCheck rfl) ?_
    refine gp_quiet 2 rfl rfl rfl rfl rfl rfl (q_fieldAddr fa_104_0 rfl) ?_
    refine gp_quiet 3 rfl rfl rfl rfl rfl rfl (q_ld Try.isAgg23 rfl rfl) ?_
    refine gp_quiet 4 rfl rfl rfl rfl rfl rfl (q_move rfl) ?_
    refine gp_quiet 5 rfl rfl rfl rfl rfl rfl (q_move rfl) ?_
    first | refine gp_quiet 6 rfl rfl rfl rfl rfl rfl (q_add rfl rfl (w_i64 (by omega) (by omega))) ?_ | refine gp_quiet 6 rfl rfl rfl rfl rfl rfl (q_addw rfl rfl) ?_
    refine gp_quiet 7 rfl rfl rfl rfl rfl rfl (q_move rfl) ?_
    refine gp_quiet 8 rfl rfl rfl rfl rfl rfl (q_move rfl) ?_
    obtain ⟨b9, o9, rfl, hr9⟩ := hY.some (i := i.toNat) (by omega)
    have hby := hYU i.toNat
    refine gp_quiet 9 rfl rfl rfl rfl rfl rfl (q_ixs Try.underlying23 Try.sizeOf30 rfl rfl (by omega) (by omega)) ?_
    refine gp_quiet 10 rfl rfl rfl rfl rfl rfl (q_loadc Try.isAgg30 rfl (word_any hr9 (by omega))) ?_
    refine gp_quiet 11 rfl rfl rfl rfl rfl rfl (q_ixs Try.underlying23 Try.sizeOf30 rfl rfl (by omega) (by omega)) ?_
    refine gp_effa 12 [0, 1, 2, 3, 4, 5, 6, 7, 8, 9, 10, 11] [] rfl rfl rfl rfl rfl rfl rfl (does_storew 1 Try.sizeOf30 rfl rfl rfl (by omega) rfl) ?_
    rintro _ _ ⟨rfl, rfl⟩
    refine ⟨?_, ?_⟩
    · exact .nil
    refine gp_end rfl rfl ?_
    refine g_inBlock ?_
    refine g_region ?_
    refine l_move rfl rfl ?_
    first | refine l_add rfl rfl rfl (w_i64 (by omega) (by omega)) ?_ | refine l_addw rfl rfl rfl ?_
    refine l_assign rfl rfl ?_
    refine l_nil ?_
    exact g_againi (ih (i + 1, X.set (at_ + i).toNat (Y.getD i.toNat 0)) ⟨by simp only; omega, by simp only; omega, by simp only; rw [hX, show (i + 1).toNat = i.toNat + 1 by omega, show (at_ + i).toNat = at_.toNat + i.toNat by omega]; exact spl_next (by omega) (by omega)⟩ (by simp only; omega)) (.cons rfl (.cons rfl (.cons rfl (.cons rfl (.cons rfl (.nil))))))
  intro hbr
  have hbr := of_decide_eq_false hbr
  refine g_exit rfl ?_
  obtain rfl : i = q := by omega
  rw [Int.toNat_natCast, List.take_of_length_le (by omega)] at hX
  subst hX
  refine g_seq ?_
  refine g_region ?_
  refine l_assign rfl rfl ?_
  refine l_nil ?_
  refine g_ret Try.func54 rfl (.tmp rfl .nil) ?_
  exact Gives.mki ⟨rfl, rfl⟩
theorem rlay_bad (w0 : World) (F : List Atom) (b g n c : Nat) (W : List Int) (hW : W.length = n) (hc : n ≤ c) (hn : n ≤ 1073741824) (at_ : Int) (a0 : -9223372036854775808 ≤ at_) (a1 : at_ ≤ 9223372036854775807) (ay : Option Addr) (q cy : Nat) (hq : q ≤ 9223372036854775807) (h : ¬ inR n at_ q) :
    CallK Try.prog 54 [.pointer (some ⟨b, 0, none⟩), .int .i64 at_, .slice ay q cy] w0 (Blk b (.cells [Value.slice (some ⟨g, 0, none⟩) n c].toArray 104 (0, 0)) :: Own 30 1 (.slice (some ⟨g, 0, none⟩) n c) n (ints .u32 W) :: F) (Gives w0 fun v F2 => v = .int .i64 51 ∧ F2 = Blk b (.cells [Value.slice (some ⟨g, 0, none⟩) n c].toArray 104 (0, 0)) :: Own 30 1 (.slice (some ⟨g, 0, none⟩) n c) n (ints .u32 W) :: F) := by
  refine c_enter Try.func54 rfl rfl rfl ?_
  refine g_seq ?_
  refine g_region ?_
  refine l_assign rfl rfl ?_
  refine l_nil ?_
  refine g_seq ?_
  refine g_seq ?_
  refine g_region ?_
  refine l_move rfl rfl ?_
  refine l_eqpn rfl Try.underlying87 rfl rfl ?_
  refine l_nil ?_
  first | refine g_cond_f rfl ?_ | refine g_cond_f (congrArg (fun b => some (Value.bool b)) (decide_eq_false hbr)) ?_
  refine g_skip ?_
  refine g_seq ?_
  refine g_seq ?_
  refine g_region ?_
  refine l_move rfl rfl ?_
  refine l_move rfl rfl ?_
  refine l_move rfl rfl ?_
  refine l_len rfl Try.underlying23 rfl ?_
  refine l_call rfl Try.call59 rfl (run_bad _ _ _ _ _ _ (by omega) _ _ (by omega) (by omega) (by omega) (by omega) h) ?_; rintro _ _ ⟨rfl, rfl⟩
  refine l_not rfl rfl ?_
  refine l_nil ?_
  first | refine g_cond_t rfl ?_ | refine g_cond_t (congrArg (fun b => some (Value.bool b)) (decide_eq_true hbr)) ?_
  refine g_seq ?_
  refine g_region ?_
  refine l_assign rfl rfl ?_
  refine l_nil ?_
  refine g_ret Try.func54 rfl (.tmp rfl .nil) ?_
  exact Gives.mki ⟨rfl, rfl⟩
theorem rfill_ok (w0 : World) (F : List Atom) (b g n c : Nat) (W : List Int) (hW : W.length = n) (hc : n ≤ c) (hn : n ≤ 1073741824) (at_ k x : Int) (a1 : at_ ≤ 9223372036854775807) (k1 : k ≤ 9223372036854775807) (h : inR n at_ k) :
    CallK Try.prog 55 [.pointer (some ⟨b, 0, none⟩), .int .i64 at_, .int .i64 k, .int .u32 x] w0 (Blk b (.cells [Value.slice (some ⟨g, 0, none⟩) n c].toArray 104 (0, 0)) :: Own 30 1 (.slice (some ⟨g, 0, none⟩) n c) n (ints .u32 W) :: F) (Gives w0 fun v F2 => v = .int .i64 0 ∧ F2 = Blk b (.cells [Value.slice (some ⟨g, 0, none⟩) n c].toArray 104 (0, 0)) :: Own 30 1 (.slice (some ⟨g, 0, none⟩) n c) n (ints .u32 (spl at_.toNat (List.replicate k.toNat x) W)) :: F) := by
  obtain ⟨h0, h1, h2, h3⟩ := (show 0 ≤ at_ ∧ 0 ≤ k ∧ at_ ≤ n ∧ k ≤ n - at_ from h)
  refine c_enter Try.func55 rfl rfl rfl ?_
  refine g_seq ?_
  refine g_region ?_
  refine l_assign rfl rfl ?_
  refine l_nil ?_
  refine g_seq ?_
  refine g_seq ?_
  refine g_region ?_
  refine l_move rfl rfl ?_
  refine l_eqpn rfl Try.underlying87 rfl rfl ?_
  refine l_nil ?_
  first | refine g_cond_f rfl ?_ | refine g_cond_f (congrArg (fun b => some (Value.bool b)) (decide_eq_false hbr)) ?_
  refine g_skip ?_
  refine g_seq ?_
  refine g_seq ?_
  refine g_region ?_
  refine l_move rfl rfl ?_
  refine l_move rfl rfl ?_
  refine l_move rfl rfl ?_
  refine l_call rfl Try.call59 rfl (run_ok _ _ _ _ _ _ (by omega) _ _ (by omega) (by omega) (by omega) (by omega) h) ?_; rintro _ _ ⟨rfl, rfl⟩
  refine l_not rfl rfl ?_
  refine l_nil ?_
  first | refine g_cond_f rfl ?_ | refine g_cond_f (congrArg (fun b => some (Value.bool b)) (decide_eq_false hbr)) ?_
  refine g_skip ?_
  refine g_seq ?_
  refine g_seq ?_
  refine g_region ?_
  refine l_assign rfl rfl ?_
  refine l_nil ?_
  refine g_block ?_
  refine g_loopk (X := Int × List Int) [(0, _), (1, _), (2, _), (3, _), (8, _)] (.cons rfl (.cons rfl (.cons rfl (.cons rfl (.cons rfl (.nil)))))) (fun z => 0 ≤ z.1 ∧ z.1 ≤ k ∧ z.2 = spl at_.toNat (List.replicate z.1.toNat x) W) (fun z => (k - z.1).toNat) (fun z => [(9, .int .i64 z.1)]) (fun z => Blk b (.cells [Value.slice (some ⟨g, 0, none⟩) n c].toArray 104 (0, 0)) :: Own 30 1 (.slice (some ⟨g, 0, none⟩) n c) n (ints .u32 z.2) :: F) ((0, W)) (⟨by simp only; omega, by simp only; omega, by simp [spl]⟩) (.cons rfl .nil) (fun w hw => SPI.holds hw) ?_
  rintro ⟨i, X⟩ ⟨i0, i1, hX⟩ ih
  dsimp only [List.cons_append, List.nil_append] at ih ⊢
  simp only at i0 i1 hX
  have hXl : X.length = n := by rw [hX, spl_length (by simp; omega)]; exact hW
  refine g_seq ?_
  refine g_seq ?_
  refine g_region ?_
  refine l_move rfl rfl ?_
  refine l_move rfl rfl ?_
  refine l_lss rfl rfl rfl ?_
  refine l_nil ?_
  refine g_cond rfl ?_ ?_
  · intro hbr
    have hbr := of_decide_eq_true hbr
    refine g_skip ?_
    refine g_seq ?_
    refine g_block ?_
    refine g_region ?_
    refine l_move rfl rfl ?_
    refine l_nilCheck rfl rfl ?_
    refine l_fieldAddr rfl fa_104_0 rfl ?_
    refine l_ld rfl Try.isAgg23 rfl rfl ?_
    refine l_move rfl rfl ?_
    refine l_move rfl rfl ?_
    first | refine l_add rfl rfl rfl (w_i64 (by omega) (by omega)) ?_ | refine l_addw rfl rfl rfl ?_
    refine l_move rfl rfl ?_
    refine l_ixs rfl Try.underlying23 Try.sizeOf30 rfl rfl (by omega) (by omega) ?_
    refine l_storew 1 Try.sizeOf30 rfl rfl rfl (by omega) rfl ?_
    refine l_nil ?_
    refine g_inBlock ?_
    refine g_region ?_
    refine l_move rfl rfl ?_
    first | refine l_add rfl rfl rfl (w_i64 (by omega) (by omega)) ?_ | refine l_addw rfl rfl rfl ?_
    refine l_assign rfl rfl ?_
    refine l_nil ?_
    exact g_againi (ih (i + 1, X.set (at_ + i).toNat x) ⟨by simp only; omega, by simp only; omega, by simp only; rw [hX]; exact fill_step (by omega) (by omega) (by omega)⟩ (by simp only; omega)) (.cons rfl (.cons rfl (.cons rfl (.cons rfl (.cons rfl (.cons rfl (.nil)))))))
  intro hbr
  have hbr := of_decide_eq_false hbr
  refine g_exit rfl ?_
  obtain rfl : i = k := by omega
  subst hX
  refine g_seq ?_
  refine g_region ?_
  refine l_assign rfl rfl ?_
  refine l_nil ?_
  refine g_ret Try.func55 rfl (.tmp rfl .nil) ?_
  exact Gives.mki ⟨rfl, rfl⟩
theorem rfill_bad (w0 : World) (F : List Atom) (b g n c : Nat) (W : List Int) (hW : W.length = n) (hc : n ≤ c) (hn : n ≤ 1073741824) (x : Int) (at_ k : Int) (a0 : -9223372036854775808 ≤ at_) (a1 : at_ ≤ 9223372036854775807) (k0 : -9223372036854775808 ≤ k) (k1 : k ≤ 9223372036854775807) (h : ¬ inR n at_ k) :
    CallK Try.prog 55 [.pointer (some ⟨b, 0, none⟩), .int .i64 at_, .int .i64 k, .int .u32 x] w0 (Blk b (.cells [Value.slice (some ⟨g, 0, none⟩) n c].toArray 104 (0, 0)) :: Own 30 1 (.slice (some ⟨g, 0, none⟩) n c) n (ints .u32 W) :: F) (Gives w0 fun v F2 => v = .int .i64 51 ∧ F2 = Blk b (.cells [Value.slice (some ⟨g, 0, none⟩) n c].toArray 104 (0, 0)) :: Own 30 1 (.slice (some ⟨g, 0, none⟩) n c) n (ints .u32 W) :: F) := by
  refine c_enter Try.func55 rfl rfl rfl ?_
  refine g_seq ?_
  refine g_region ?_
  refine l_assign rfl rfl ?_
  refine l_nil ?_
  refine g_seq ?_
  refine g_seq ?_
  refine g_region ?_
  refine l_move rfl rfl ?_
  refine l_eqpn rfl Try.underlying87 rfl rfl ?_
  refine l_nil ?_
  first | refine g_cond_f rfl ?_ | refine g_cond_f (congrArg (fun b => some (Value.bool b)) (decide_eq_false hbr)) ?_
  refine g_skip ?_
  refine g_seq ?_
  refine g_seq ?_
  refine g_region ?_
  refine l_move rfl rfl ?_
  refine l_move rfl rfl ?_
  refine l_move rfl rfl ?_
  refine l_call rfl Try.call59 rfl (run_bad _ _ _ _ _ _ (by omega) _ _ (by omega) (by omega) (by omega) (by omega) h) ?_; rintro _ _ ⟨rfl, rfl⟩
  refine l_not rfl rfl ?_
  refine l_nil ?_
  first | refine g_cond_t rfl ?_ | refine g_cond_t (congrArg (fun b => some (Value.bool b)) (decide_eq_true hbr)) ?_
  refine g_seq ?_
  refine g_region ?_
  refine l_assign rfl rfl ?_
  refine l_nil ?_
  refine g_ret Try.func55 rfl (.tmp rfl .nil) ?_
  exact Gives.mki ⟨rfl, rfl⟩
theorem rmove_ok (w0 : World) (F : List Atom) (b g n c : Nat) (W : List Int) (hW : W.length = n) (hc : n ≤ c) (hn : n ≤ 1073741824) (hU : W32s W) (at_ fr k : Int) (a0 : -9223372036854775808 ≤ at_) (a1 : at_ ≤ 9223372036854775807) (f0 : -9223372036854775808 ≤ fr) (f1 : fr ≤ 9223372036854775807) (k0 : -9223372036854775808 ≤ k) (k1 : k ≤ 9223372036854775807) (h : inR n at_ k) (q : inR n fr k) :
    CallK Try.prog 56 [.pointer (some ⟨b, 0, none⟩), .int .i64 at_, .int .i64 fr, .int .i64 k] w0 (Blk b (.cells [Value.slice (some ⟨g, 0, none⟩) n c].toArray 104 (0, 0)) :: Own 30 1 (.slice (some ⟨g, 0, none⟩) n c) n (ints .u32 W) :: F) (Gives w0 fun v F2 => v = .int .i64 0 ∧ F2 = Blk b (.cells [Value.slice (some ⟨g, 0, none⟩) n c].toArray 104 (0, 0)) :: Own 30 1 (.slice (some ⟨g, 0, none⟩) n c) n (ints .u32 (spl at_.toNat (part W fr k) W)) :: F) := by
  obtain ⟨h0, h1, h2, h3⟩ := (show 0 ≤ at_ ∧ 0 ≤ k ∧ at_ ≤ n ∧ k ≤ n - at_ from h)
  have hpl := part_len hW q
  refine c_enter Try.func56 rfl rfl rfl ?_
  refine g_seq ?_
  refine g_region ?_
  refine l_assign rfl rfl ?_
  refine l_nil ?_
  refine g_seq ?_
  refine g_seq ?_
  refine g_region ?_
  refine l_move rfl rfl ?_
  refine l_eqpn rfl Try.underlying87 rfl rfl ?_
  refine l_nil ?_
  first | refine g_cond_f rfl ?_ | refine g_cond_f (congrArg (fun b => some (Value.bool b)) (decide_eq_false hbr)) ?_
  refine g_skip ?_
  refine g_seq ?_
  refine g_seq ?_
  refine g_region ?_
  refine l_move rfl rfl ?_
  refine l_move rfl rfl ?_
  refine l_move rfl rfl ?_
  refine l_call rfl Try.call59 rfl (run_ok _ _ _ _ _ _ (by omega) _ _ (by omega) (by omega) (by omega) (by omega) h) ?_; rintro _ _ ⟨rfl, rfl⟩
  refine l_not rfl rfl ?_
  refine l_move rfl rfl ?_
  refine l_guard_yes rfl rfl ?_
  refine l_move rfl rfl ?_
  refine l_guard_yes rfl rfl ?_
  refine l_move rfl rfl ?_
  refine l_guard_yes rfl rfl ?_
  refine l_move rfl rfl ?_
  refine l_guard_yes rfl rfl ?_
  refine l_call rfl Try.call59 rfl (run_ok _ _ _ _ _ _ (by omega) _ _ (by omega) (by omega) (by omega) (by omega) q) ?_; rintro _ _ ⟨rfl, rfl⟩
  refine l_guard_yes rfl rfl ?_
  refine l_not rfl rfl ?_
  refine l_pick_f rfl rfl rfl ?_
  refine l_nil ?_
  first | refine g_cond_f rfl ?_ | refine g_cond_f (congrArg (fun b => some (Value.bool b)) (decide_eq_false hbr)) ?_
  refine g_skip ?_
  refine g_seq ?_
  refine g_region ?_
  refine l_move rfl rfl ?_
  refine l_move rfl rfl ?_
  refine l_move rfl rfl ?_
  refine l_call rfl Try.call52 rfl (rtake_ok _ _ b g n c W hW hc hn fr k f1 k1 q) ?_; rintro _ _ ⟨a9, c9, rfl, ha9, rfl⟩
  rw [show ((k.toNat : Nat) : Int) = k by omega]
  refine l_move rfl rfl ?_
  refine l_extract rfl rfl rfl ?_
  refine l_extract rfl rfl rfl ?_
  refine l_assign rfl rfl ?_
  refine l_assign rfl rfl ?_
  refine l_nil ?_
  refine g_seq ?_
  refine g_region ?_
  refine l_move rfl rfl ?_
  refine l_move rfl rfl ?_
  refine l_move rfl rfl ?_
  refine l_take (Own 30 1 (.slice (some ⟨g, 0, none⟩) n c) n (ints .u32 W)) ?_
  refine l_take (Blk b (.cells [Value.slice (some ⟨g, 0, none⟩) n c].toArray 104 (0, 0))) ?_
  refine l_call rfl Try.call54 rfl (rlay_ok _ _ b g n c W hW hc hn at_ a1 a9 k.toNat c9 (part W fr k) (IR.own hpl (mem_getO 0 rfl) ha9) (part_w32 hU _ _) (by omega) (by unfold inR; omega)) ?_; rintro _ _ ⟨rfl, rfl⟩
  refine l_assign rfl rfl ?_
  refine l_nil ?_
  refine g_ret Try.func56 rfl (.tmp rfl .nil) ?_
  exact Gives.mki ⟨rfl, rfl⟩
theorem rmove_bad (w0 : World) (F : List Atom) (b g n c : Nat) (W : List Int) (hW : W.length = n) (hc : n ≤ c) (hn : n ≤ 1073741824) (at_ fr k : Int) (a0 : -9223372036854775808 ≤ at_) (a1 : at_ ≤ 9223372036854775807) (f0 : -9223372036854775808 ≤ fr) (f1 : fr ≤ 9223372036854775807) (k0 : -9223372036854775808 ≤ k) (k1 : k ≤ 9223372036854775807) (h : ¬ inR n at_ k) :
    CallK Try.prog 56 [.pointer (some ⟨b, 0, none⟩), .int .i64 at_, .int .i64 fr, .int .i64 k] w0 (Blk b (.cells [Value.slice (some ⟨g, 0, none⟩) n c].toArray 104 (0, 0)) :: Own 30 1 (.slice (some ⟨g, 0, none⟩) n c) n (ints .u32 W) :: F) (Gives w0 fun v F2 => v = .int .i64 51 ∧ F2 = Blk b (.cells [Value.slice (some ⟨g, 0, none⟩) n c].toArray 104 (0, 0)) :: Own 30 1 (.slice (some ⟨g, 0, none⟩) n c) n (ints .u32 W) :: F) := by
  refine c_enter Try.func56 rfl rfl rfl ?_
  refine g_seq ?_
  refine g_region ?_
  refine l_assign rfl rfl ?_
  refine l_nil ?_
  refine g_seq ?_
  refine g_seq ?_
  refine g_region ?_
  refine l_move rfl rfl ?_
  refine l_eqpn rfl Try.underlying87 rfl rfl ?_
  refine l_nil ?_
  first | refine g_cond_f rfl ?_ | refine g_cond_f (congrArg (fun b => some (Value.bool b)) (decide_eq_false hbr)) ?_
  refine g_skip ?_
  refine g_seq ?_
  refine g_seq ?_
  refine g_region ?_
  refine l_move rfl rfl ?_
  refine l_move rfl rfl ?_
  refine l_move rfl rfl ?_
  refine l_call rfl Try.call59 rfl (run_bad _ _ _ _ _ _ (by omega) _ _ (by omega) (by omega) (by omega) (by omega) h) ?_; rintro _ _ ⟨rfl, rfl⟩
  refine l_not rfl rfl ?_
  refine l_move rfl rfl ?_
  refine l_guard_no rfl rfl rfl ?_
  refine l_guard_no rfl rfl rfl ?_
  refine l_guard_no rfl rfl rfl ?_
  refine l_guard_no rfl rfl rfl ?_
  refine l_guard_no rfl rfl rfl ?_
  refine l_pick_t rfl rfl rfl ?_
  refine l_nil ?_
  first | refine g_cond_t rfl ?_ | refine g_cond_t (congrArg (fun b => some (Value.bool b)) (decide_eq_true hbr)) ?_
  refine g_seq ?_
  refine g_region ?_
  refine l_assign rfl rfl ?_
  refine l_nil ?_
  refine g_ret Try.func56 rfl (.tmp rfl .nil) ?_
  exact Gives.mki ⟨rfl, rfl⟩
theorem rmove_from (w0 : World) (F : List Atom) (b g n c : Nat) (W : List Int) (hW : W.length = n) (hc : n ≤ c) (hn : n ≤ 1073741824) (at_ fr k : Int) (a0 : -9223372036854775808 ≤ at_) (a1 : at_ ≤ 9223372036854775807) (f0 : -9223372036854775808 ≤ fr) (f1 : fr ≤ 9223372036854775807) (k0 : -9223372036854775808 ≤ k) (k1 : k ≤ 9223372036854775807) (h : inR n at_ k) (q : ¬ inR n fr k) :
    CallK Try.prog 56 [.pointer (some ⟨b, 0, none⟩), .int .i64 at_, .int .i64 fr, .int .i64 k] w0 (Blk b (.cells [Value.slice (some ⟨g, 0, none⟩) n c].toArray 104 (0, 0)) :: Own 30 1 (.slice (some ⟨g, 0, none⟩) n c) n (ints .u32 W) :: F) (Gives w0 fun v F2 => v = .int .i64 51 ∧ F2 = Blk b (.cells [Value.slice (some ⟨g, 0, none⟩) n c].toArray 104 (0, 0)) :: Own 30 1 (.slice (some ⟨g, 0, none⟩) n c) n (ints .u32 W) :: F) := by
  refine c_enter Try.func56 rfl rfl rfl ?_
  refine g_seq ?_
  refine g_region ?_
  refine l_assign rfl rfl ?_
  refine l_nil ?_
  refine g_seq ?_
  refine g_seq ?_
  refine g_region ?_
  refine l_move rfl rfl ?_
  refine l_eqpn rfl Try.underlying87 rfl rfl ?_
  refine l_nil ?_
  first | refine g_cond_f rfl ?_ | refine g_cond_f (congrArg (fun b => some (Value.bool b)) (decide_eq_false hbr)) ?_
  refine g_skip ?_
  refine g_seq ?_
  refine g_seq ?_
  refine g_region ?_
  refine l_move rfl rfl ?_
  refine l_move rfl rfl ?_
  refine l_move rfl rfl ?_
  refine l_call rfl Try.call59 rfl (run_ok _ _ _ _ _ _ (by omega) _ _ (by omega) (by omega) (by omega) (by omega) h) ?_; rintro _ _ ⟨rfl, rfl⟩
  refine l_not rfl rfl ?_
  refine l_move rfl rfl ?_
  refine l_guard_yes rfl rfl ?_
  refine l_move rfl rfl ?_
  refine l_guard_yes rfl rfl ?_
  refine l_move rfl rfl ?_
  refine l_guard_yes rfl rfl ?_
  refine l_move rfl rfl ?_
  refine l_guard_yes rfl rfl ?_
  refine l_call rfl Try.call59 rfl (run_bad _ _ _ _ _ _ (by omega) _ _ (by omega) (by omega) (by omega) (by omega) q) ?_; rintro _ _ ⟨rfl, rfl⟩
  refine l_guard_yes rfl rfl ?_
  refine l_not rfl rfl ?_
  refine l_pick_f rfl rfl rfl ?_
  refine l_nil ?_
  first | refine g_cond_t rfl ?_ | refine g_cond_t (congrArg (fun b => some (Value.bool b)) (decide_eq_true hbr)) ?_
  refine g_seq ?_
  refine g_region ?_
  refine l_assign rfl rfl ?_
  refine l_nil ?_
  refine g_ret Try.func56 rfl (.tmp rfl .nil) ?_
  exact Gives.mki ⟨rfl, rfl⟩
theorem rframes_ok (w0 : World) (F : List Atom) (b g n c : Nat) (W : List Int) (hW : W.length = n) (hc : n ≤ c) (hn : n ≤ 1073741824) :
    CallK Try.prog 57 [.pointer (some ⟨b, 0, none⟩)] w0 (Blk b (.cells [Value.slice (some ⟨g, 0, none⟩) n c].toArray 104 (0, 0)) :: Own 30 1 (.slice (some ⟨g, 0, none⟩) n c) n (ints .u32 W) :: F) (Gives w0 fun v F2 => v = .int .i64 ((n : Int) / 16) ∧ F2 = Blk b (.cells [Value.slice (some ⟨g, 0, none⟩) n c].toArray 104 (0, 0)) :: Own 30 1 (.slice (some ⟨g, 0, none⟩) n c) n (ints .u32 W) :: F) := by
  refine c_enter Try.func57 rfl rfl rfl ?_
  refine g_seq ?_
  refine g_region ?_
  refine l_assign rfl rfl ?_
  refine l_nil ?_
  refine g_seq ?_
  refine g_seq ?_
  refine g_region ?_
  refine l_move rfl rfl ?_
  refine l_eqpn rfl Try.underlying87 rfl rfl ?_
  refine l_nil ?_
  first | refine g_cond_f rfl ?_ | refine g_cond_f (congrArg (fun b => some (Value.bool b)) (decide_eq_false hbr)) ?_
  refine g_skip ?_
  refine g_seq ?_
  refine g_region ?_
  refine l_move rfl rfl ?_
  refine l_nilCheck rfl rfl ?_
  refine l_fieldAddr rfl fa_104_0 rfl ?_
  refine l_ld rfl Try.isAgg23 rfl rfl ?_
  refine l_len rfl Try.underlying23 rfl ?_
  refine l_quo rfl rfl rfl (by omega) (by omega) (w_i64 (by omega) (by omega)) ?_
  refine l_assign rfl rfl ?_
  refine l_nil ?_
  refine g_ret Try.func57 rfl (.tmp rfl .nil) ?_
  exact Gives.mki ⟨rfl, rfl⟩
end Go.Proofs.Ytlgcghhjgcdigaa.Fw
