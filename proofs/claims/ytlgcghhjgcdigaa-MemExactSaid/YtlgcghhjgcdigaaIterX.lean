import Derived.Test.YtlgcghhjgcdigaaIters
namespace Go.Proofs.Ytlgcghhjgcdigaa.Fw
open Go Go.Proofs
set_option linter.unusedVariables false
set_option linter.unusedSimpArgs false
set_option maxRecDepth 10000

def eAt (W : List Int) (k : Nat) : Int := if k < W.length then 0 else 51
def Unl (A B : List Int) (k : Nat) : Prop := A.getD k 0 ≠ B.getD k 0 ∨ eAt A k ≠ eAt B k
instance (A B : List Int) (k : Nat) : Decidable (Unl A B k) := by unfold Unl; infer_instance
theorem unl_spec {A B : List Int} {k : Nat} (h : k < A.length ∨ k < B.length) : Unl A B k ↔ (A.length ≤ k ∨ B.length ≤ k ∨ A.getD k 0 ≠ B.getD k 0) := by
  unfold Unl eAt
  constructor
  · rintro (h1 | h1)
    · exact .inr (.inr h1)
    · by_cases ha : k < A.length <;> by_cases hb : k < B.length <;> simp [ha, hb] at h1 <;> omega
  · rintro (h1 | h1 | h1)
    · right
      rw [if_neg (by omega), if_pos (by omega)]; decide
    · right
      rw [if_neg (show ¬ k < B.length by omega), if_pos (by omega)]; decide
    · exact .inl h1
theorem there_rb (w0 : World) (F : List Atom) (b g n c : Nat) (W : List Int) (hM : MemRd w0 F b g n c W) (hW : W.length = n) (hn : n ≤ 1073741824) (at_ k : Int) (a0 : -9223372036854775808 ≤ at_) (a1 : at_ ≤ 9223372036854775807) (k0 : -9223372036854775808 ≤ k) (k1 : k ≤ 9223372036854775807) (h : ¬ inR n at_ k) :
    CallK Try.prog 29 [.pointer (some ⟨b, 0, none⟩), .int .i64 at_, .int .i64 k] w0 (F) (Gives w0 fun v F2 => v = .int .i64 51 ∧ F2 = F) := by
  unfold inR at h
  refine c_enter Try.func29 rfl rfl rfl ?_
  refine g_seq ?_
  refine g_region ?_
  refine l_assign rfl rfl ?_
  refine l_nil ?_
  refine g_seq ?_
  refine g_seq ?_
  refine g_region ?_
  refine l_move rfl rfl ?_
  refine l_eqpn rfl Try.underlying25 rfl rfl ?_
  refine l_nil ?_
  first | refine g_cond_f rfl ?_ | refine g_cond_f (congrArg (fun b => some (Value.bool b)) (decide_eq_false hbr)) ?_
  refine g_skip ?_
  refine g_seq ?_
  refine g_seq ?_
  refine g_region ?_
  refine l_move rfl rfl ?_
  refine l_lss rfl rfl rfl ?_
  refine l_move rfl rfl ?_
  refine l_split 11 rfl ?_ ?_
  · intro hbr
    have hbr := of_decide_eq_true hbr
    refine l_guard_no rfl rfl rfl ?_
    refine l_guard_no rfl rfl rfl ?_
    refine l_pick_t rfl rfl rfl ?_
    refine l_move rfl rfl ?_
    refine l_guard_no rfl rfl rfl ?_
    refine l_guard_no rfl rfl rfl ?_
    refine l_guard_no rfl rfl rfl ?_
    refine l_guard_no rfl rfl rfl ?_
    refine l_guard_no rfl rfl rfl ?_
    refine l_guard_no rfl rfl rfl ?_
    refine l_guard_no rfl rfl rfl ?_
    refine l_pick_t rfl rfl rfl ?_
    refine l_move rfl rfl ?_
    refine l_guard_no rfl rfl rfl ?_
    refine l_guard_no rfl rfl rfl ?_
    refine l_guard_no rfl rfl rfl ?_
    refine l_guard_no rfl rfl rfl ?_
    refine l_guard_no rfl rfl rfl ?_
    refine l_guard_no rfl rfl rfl ?_
    refine l_guard_no rfl rfl rfl ?_
    refine l_guard_no rfl rfl rfl ?_
    refine l_guard_no rfl rfl rfl ?_
    refine l_pick_t rfl rfl rfl ?_
    refine l_nil ?_
    first | refine g_cond_t rfl ?_ | refine g_cond_t (congrArg (fun b => some (Value.bool b)) (decide_eq_true hbr)) ?_
    refine g_seq ?_
    refine g_region ?_
    refine l_assign rfl rfl ?_
    refine l_nil ?_
    refine g_ret Try.func29 rfl (.tmp rfl .nil) ?_
    exact Gives.mki ⟨rfl, rfl⟩
  intro hbr
  have hbr := of_decide_eq_false hbr
  refine l_guard_yes rfl rfl ?_
  refine l_move rfl rfl ?_
  refine l_guard_yes rfl rfl ?_
  refine l_lss rfl rfl rfl ?_
  refine l_pick_f rfl rfl rfl ?_
  refine l_move rfl rfl ?_
  refine l_split 15 rfl ?_ ?_
  · intro hbr
    have hbr := of_decide_eq_true hbr
    refine l_guard_no rfl rfl rfl ?_
    refine l_guard_no rfl rfl rfl ?_
    refine l_guard_no rfl rfl rfl ?_
    refine l_guard_no rfl rfl rfl ?_
    refine l_guard_no rfl rfl rfl ?_
    refine l_guard_no rfl rfl rfl ?_
    refine l_guard_no rfl rfl rfl ?_
    refine l_pick_t rfl rfl rfl ?_
    refine l_move rfl rfl ?_
    refine l_guard_no rfl rfl rfl ?_
    refine l_guard_no rfl rfl rfl ?_
    refine l_guard_no rfl rfl rfl ?_
    refine l_guard_no rfl rfl rfl ?_
    refine l_guard_no rfl rfl rfl ?_
    refine l_guard_no rfl rfl rfl ?_
    refine l_guard_no rfl rfl rfl ?_
    refine l_guard_no rfl rfl rfl ?_
    refine l_guard_no rfl rfl rfl ?_
    refine l_pick_t rfl rfl rfl ?_
    refine l_nil ?_
    first | refine g_cond_t rfl ?_ | refine g_cond_t (congrArg (fun b => some (Value.bool b)) (decide_eq_true hbr)) ?_
    refine g_seq ?_
    refine g_region ?_
    refine l_assign rfl rfl ?_
    refine l_nil ?_
    refine g_ret Try.func29 rfl (.tmp rfl .nil) ?_
    exact Gives.mki ⟨rfl, rfl⟩
  intro hbr
  have hbr := of_decide_eq_false hbr
  refine l_guard_yes rfl rfl ?_
  refine l_move rfl rfl ?_
  refine l_guard_yes rfl rfl ?_
  refine l_move rfl rfl ?_
  refine l_guard_yes rfl rfl ?_
  refine l_nilCheck rfl rfl ?_
  refine l_guard_yes rfl rfl ?_
  refine l_fieldAddr rfl fa_77_0 rfl ?_
  refine l_guard_yes rfl rfl ?_
  refine l_loadc rfl Try.isAgg23 rfl hM.1 ?_
  refine l_guard_yes rfl rfl ?_
  refine l_len rfl Try.underlying23 rfl ?_
  refine l_guard_yes rfl rfl ?_
  refine l_gtr rfl rfl rfl ?_
  refine l_pick_f rfl rfl rfl ?_
  refine l_move rfl rfl ?_
  refine l_split 24 rfl ?_ ?_
  · intro hbr
    have hbr := of_decide_eq_true hbr
    refine l_guard_no rfl rfl rfl ?_
    refine l_guard_no rfl rfl rfl ?_
    refine l_guard_no rfl rfl rfl ?_
    refine l_guard_no rfl rfl rfl ?_
    refine l_guard_no rfl rfl rfl ?_
    refine l_guard_no rfl rfl rfl ?_
    refine l_guard_no rfl rfl rfl ?_
    refine l_guard_no rfl rfl rfl ?_
    refine l_guard_no rfl rfl rfl ?_
    refine l_pick_t rfl rfl rfl ?_
    refine l_nil ?_
    first | refine g_cond_t rfl ?_ | refine g_cond_t (congrArg (fun b => some (Value.bool b)) (decide_eq_true hbr)) ?_
    refine g_seq ?_
    refine g_region ?_
    refine l_assign rfl rfl ?_
    refine l_nil ?_
    refine g_ret Try.func29 rfl (.tmp rfl .nil) ?_
    exact Gives.mki ⟨rfl, rfl⟩
  intro hbr
  have hbr := of_decide_eq_false hbr
  refine l_guard_yes rfl rfl ?_
  refine l_move rfl rfl ?_
  refine l_guard_yes rfl rfl ?_
  refine l_move rfl rfl ?_
  refine l_guard_yes rfl rfl ?_
  refine l_nilCheck rfl rfl ?_
  refine l_guard_yes rfl rfl ?_
  refine l_fieldAddr rfl fa_77_0 rfl ?_
  refine l_guard_yes rfl rfl ?_
  refine l_loadc rfl Try.isAgg23 rfl hM.1 ?_
  refine l_guard_yes rfl rfl ?_
  refine l_len rfl Try.underlying23 rfl ?_
  refine l_guard_yes rfl rfl ?_
  refine l_move rfl rfl ?_
  refine l_guard_yes rfl rfl ?_
  first | refine l_sub_ rfl rfl rfl (w_i64 (by omega) (by omega)) ?_ | refine l_subw rfl rfl rfl ?_
  refine l_guard_yes rfl rfl ?_
  refine l_gtr rfl rfl rfl ?_
  refine l_pick_f rfl rfl rfl ?_
  refine l_nil ?_
  refine g_cond rfl ?_ ?_
  · intro hbr
    have hbr := of_decide_eq_true hbr
    refine g_seq ?_
    refine g_region ?_
    refine l_assign rfl rfl ?_
    refine l_nil ?_
    refine g_ret Try.func29 rfl (.tmp rfl .nil) ?_
    exact Gives.mki ⟨rfl, rfl⟩
  · intro hbr
    have hbr := of_decide_eq_false hbr
    (exfalso; first | omega | (simp at hbr; done))
theorem read_rb (w0 : World) (F : List Atom) (b g n c : Nat) (W : List Int) (hM : MemRd w0 F b g n c W) (hW : W.length = n) (hn : n ≤ 1073741824) (at_ : Int) (a0 : -9223372036854775808 ≤ at_) (a1 : at_ ≤ 9223372036854775807) (h : ¬ inR n at_ 1) :
    CallK Try.prog 12 [.pointer (some ⟨b, 0, none⟩), .int .i64 at_] w0 (F) (Gives w0 fun v F2 => v = .tuple #[.int .u32 0, .int .i64 51] ∧ F2 = F) := by
  refine c_enter Try.func12 rfl rfl rfl ?_
  refine g_seq ?_
  refine g_region ?_
  refine l_assign rfl rfl ?_
  refine l_assign rfl rfl ?_
  refine l_nil ?_
  refine g_seq ?_
  refine g_seq ?_
  refine g_region ?_
  refine l_move rfl rfl ?_
  refine l_move rfl rfl ?_
  refine l_call rfl Try.call29 rfl (there_rb _ _ b g n c W hM hW hn at_ 1 (by omega) a1 (by omega) (by omega) h) ?_; rintro _ _ ⟨rfl, rfl⟩
  refine l_assign rfl rfl ?_
  refine l_nil ?_
  refine g_seq ?_
  refine g_region ?_
  refine l_move rfl rfl ?_
  refine l_neq rfl rfl rfl ?_
  refine l_nil ?_
  refine g_cond rfl ?_ ?_
  · intro hbr
    have hbr := of_decide_eq_true hbr
    refine g_seq ?_
    refine g_region ?_
    refine l_move rfl rfl ?_
    refine l_assign rfl rfl ?_
    refine l_assign rfl rfl ?_
    refine l_nil ?_
    refine g_ret Try.func12 rfl (.tmp rfl (.tmp rfl .nil)) ?_
    exact Gives.mki ⟨rfl, rfl⟩
  · intro hbr
    have hbr := of_decide_eq_false hbr
    (exfalso; omega)
theorem read_x (w0 : World) (F : List Atom) (b g n c : Nat) (W : List Int) (hM : MemRd w0 F b g n c W) (hW : W.length = n) (hn : n ≤ 1073741824) (at_ : Int) (a0 : 0 ≤ at_) (a1 : at_ ≤ 9223372036854775807) : CallK Try.prog 12 [.pointer (some ⟨b, 0, none⟩), .int .i64 at_] w0 F (Gives w0 fun v F2 => v = .tuple #[.int .u32 (W.getD at_.toNat 0), .int .i64 (eAt W at_.toNat)] ∧ F2 = F) := by
  by_cases h : inR n at_ 1
  · refine (read_r w0 F b g n c W hM hW hn at_ a1 h).gmono fun v F2 ⟨e1, e2⟩ => ⟨?_, e2⟩
    rw [e1]
    unfold eAt
    rw [if_pos (by have := inR1 h; omega)]
  · refine (read_rb w0 F b g n c W hM hW hn at_ (by omega) a1 h).gmono fun v F2 ⟨e1, e2⟩ => ⟨?_, e2⟩
    have h2 : n ≤ at_.toNat := by unfold inR at h; omega
    rw [e1]
    unfold eAt
    rw [if_neg (by omega)]
    have : W.getD at_.toNat 0 = 0 := by simp [List.getD_eq_getElem?_getD, show W.length ≤ at_.toNat by omega]
    rw [this]
theorem unlike_x (w0 : World) (F : List Atom) (b1 g1 n1 c1 : Nat) (W : List Int) (hM : MemRd w0 F b1 g1 n1 c1 W) (hW : W.length = n1) (hn1 : n1 ≤ 1073741824) (b2 g2 n2 c2 : Nat) (W2 : List Int) (hM2 : MemRd w0 F b2 g2 n2 c2 W2) (hW2 : W2.length = n2) (hn2 : n2 ≤ 1073741824) (at_ : Int) (a0 : 0 ≤ at_) (a1 : at_ ≤ 9223372036854775807) :
    CallK Try.prog 31 [.pointer (some ⟨b1, 0, none⟩), .pointer (some ⟨b2, 0, none⟩), .int .i64 at_] w0 (F) (Gives w0 fun v F2 => v = .bool (decide (Unl W W2 at_.toNat)) ∧ F2 = F) := by
  refine c_enter Try.func31 rfl rfl rfl ?_
  refine g_seq ?_
  refine g_region ?_
  refine l_assign rfl rfl ?_
  refine l_nil ?_
  refine g_seq ?_
  refine g_region ?_
  refine l_move rfl rfl ?_
  refine l_move rfl rfl ?_
  refine l_call rfl Try.call12 rfl (read_x _ _ b1 g1 n1 c1 W hM hW hn1 at_ a0 a1) ?_; rintro _ _ ⟨rfl, rfl⟩
  refine l_move rfl rfl ?_
  refine l_extract rfl rfl rfl ?_
  refine l_extract rfl rfl rfl ?_
  refine l_assign rfl rfl ?_
  refine l_assign rfl rfl ?_
  refine l_nil ?_
  refine g_seq ?_
  refine g_region ?_
  refine l_move rfl rfl ?_
  refine l_move rfl rfl ?_
  refine l_call rfl Try.call12 rfl (read_x _ _ b2 g2 n2 c2 W2 hM2 hW2 hn2 at_ a0 a1) ?_; rintro _ _ ⟨rfl, rfl⟩
  refine l_move rfl rfl ?_
  refine l_extract rfl rfl rfl ?_
  refine l_extract rfl rfl rfl ?_
  refine l_assign rfl rfl ?_
  refine l_assign rfl rfl ?_
  refine l_nil ?_
  refine g_seq ?_
  refine g_region ?_
  refine l_move rfl rfl ?_
  refine l_move rfl rfl ?_
  refine l_neq rfl rfl rfl ?_
  refine l_move rfl rfl ?_
  refine l_split 26 rfl ?_ ?_
  · intro hbr
    have hbr := of_decide_eq_true hbr
    refine l_guard_no rfl rfl rfl ?_
    refine l_guard_no rfl rfl rfl ?_
    refine l_guard_no rfl rfl rfl ?_
    refine l_pick_t rfl rfl rfl ?_
    refine l_assign rfl rfl ?_
    refine l_nil ?_
    refine g_ret Try.func31 rfl (.tmp rfl .nil) ?_
    (first | exact Gives.mki ⟨by rw [decide_eq_true (show Unl W W2 at_.toNat from .inl hbr)]; rfl, rfl⟩ | exact Gives.mki ⟨congrArg Value.bool (by unfold Unl; simp only [hbr, false_or]), rfl⟩)
  intro hbr
  have hbr := of_decide_eq_false hbr
  refine l_guard_yes rfl rfl ?_
  refine l_move rfl rfl ?_
  refine l_guard_yes rfl rfl ?_
  refine l_move rfl rfl ?_
  refine l_guard_yes rfl rfl ?_
  refine l_neq rfl rfl rfl ?_
  refine l_pick_f rfl rfl rfl ?_
  refine l_assign rfl rfl ?_
  refine l_nil ?_
  refine g_ret Try.func31 rfl (.tmp rfl .nil) ?_
  (first | exact Gives.mki ⟨by rw [decide_eq_true (show Unl W W2 at_.toNat from .inl hbr)]; rfl, rfl⟩ | exact Gives.mki ⟨congrArg Value.bool (by unfold Unl; simp only [hbr, false_or]), rfl⟩)
set_option maxHeartbeats 4000000 in
theorem seq_x (w0 : World) (F : List Atom) {X : Type} (H : X → List Atom) (I : Int → X → Prop) (A B : List Int) (Stop : List Atom → Prop) (l bm bo b1 g1 n1 c1 b2 g2 n2 c2 n : Nat) (hn1 : n1 ≤ n) (hn2 : n2 ≤ n) (hnn : n = n1 ∨ n = n2) (hn : n ≤ 1073741824)
    (hA : ∀ x, MemRd w0 (H x) b1 g1 n1 c1 A) (hAl : A.length = n1) (hB : ∀ x, MemRd w0 (H x) b2 g2 n2 c2 B) (hBl : B.length = n2) (hm : ∀ x, CellAt w0 (H x) bm 0 (.pointer (some ⟨b1, 0, none⟩)) ∧ CellAt w0 (H x) bo 0 (.pointer (some ⟨b2, 0, none⟩)))
    (hS : ∀ (k : Int) x, 0 ≤ k → k < n → I k x → ¬ Unl A B k.toNat → I (k + 1) x)
    (hY : ∀ (k : Int) x, 0 ≤ k → k < n → I k x → Unl A B k.toNat → RoundK Try.prog l [.int .i64 k] w0 (H x) fun v F2 => ∃ q, v = .bool q ∧ (q = true → ∃ x', I (k + 1) x' ∧ ∀ w, Holds w0 F2 w → Holds w0 (H x') w) ∧ (q = false → Stop F2))
    (x0 : X) (h0 : I 0 x0) :
    CallK Try.prog 30 [.func (.yield l) #[] #[], .pointer (some ⟨bm, 0, none⟩), .pointer (some ⟨bo, 0, none⟩)] w0 (H x0) (Gives w0 fun v F2 => (∃ x, I n x ∧ F2 = H x) ∨ Stop F2) := by
  refine c_enter Try.func30 rfl rfl rfl ?_
  refine g_seq ?_
  refine g_seq ?_
  refine g_region ?_
  refine l_loadc (v := .pointer (some ⟨b1, 0, none⟩)) rfl Try.isAgg25 rfl (hm _).1 ?_
  refine l_eqpn rfl Try.underlying25 rfl rfl ?_
  refine l_move rfl rfl ?_
  refine l_split 7 rfl ?_ ?_
  · intro hbr
    first | (exfalso; simp at hbr; done) | (exfalso; simp at hbr; omega)
  intro hbr
  have hb7 := hbr
  refine l_guard_yes rfl rfl ?_
  refine l_loadc (v := .pointer (some ⟨b2, 0, none⟩)) rfl Try.isAgg25 rfl (hm _).2 ?_
  refine l_guard_yes rfl rfl ?_
  refine l_eqpn rfl Try.underlying25 rfl rfl ?_
  refine l_pick_f rfl rfl rfl ?_
  refine l_nil ?_
  refine g_cond rfl ?_ ?_
  · intro hbr
    first | (exfalso; simp at hbr; done) | (exfalso; simp at hbr; omega)
  intro hbr
  have hb10 := hbr
  refine g_skip ?_
  refine g_seq ?_
  refine gp_start mo (by kernel_rfl) (by kernel_rfl) ?_
  refine gp_quiet 0 rfl rfl rfl rfl rfl rfl (q_loadc (v := .pointer (some ⟨b1, 0, none⟩)) Try.isAgg25 rfl (hm _).1) ?_
  refine gp_quiet 1 rfl rfl rfl rfl rfl rfl (q_nilCheck rfl) ?_
  refine gp_quiet 2 rfl rfl rfl rfl rfl rfl (q_fieldAddr fa_77_0 rfl) ?_
  refine gp_quiet 3 rfl rfl rfl rfl rfl rfl (q_loadc (v := .slice (some ⟨g1, 0, none⟩) n1 c1) Try.isAgg23 rfl (hA _).1) ?_
  refine gp_quiet 4 rfl rfl rfl rfl rfl rfl (q_len Try.underlying23 rfl) ?_
  refine gp_quiet 5 rfl rfl rfl rfl rfl rfl (q_loadc (v := .pointer (some ⟨b2, 0, none⟩)) Try.isAgg25 rfl (hm _).2) ?_
  refine gp_quiet 6 rfl rfl rfl rfl rfl rfl (q_nilCheck rfl) ?_
  refine gp_quiet 7 rfl rfl rfl rfl rfl rfl (q_fieldAddr fa_77_0 rfl) ?_
  refine gp_quiet 8 rfl rfl rfl rfl rfl rfl (q_loadc (v := .slice (some ⟨g2, 0, none⟩) n2 c2) Try.isAgg23 rfl (hB _).1) ?_
  refine gp_quiet 9 rfl rfl rfl rfl rfl rfl (q_len Try.underlying23 rfl) ?_
  refine gp_quiet 10 rfl rfl rfl rfl rfl rfl (q_max rfl rfl) ?_
  refine gp_quiet 11 rfl rfl rfl rfl rfl rfl (q_move rfl) ?_
  refine gp_end rfl rfl ?_
  refine g_block ?_
  refine g_loopk (X := Int × X) [(0, _), (1, _), (2, _), (21, _)] (.cons rfl (.cons rfl (.cons rfl (.cons rfl (.nil))))) (fun z => 0 ≤ z.1 ∧ z.1 ≤ n ∧ I z.1 z.2) (fun z => ((n : Int) - z.1).toNat) (fun z => [(22, .int .i64 z.1)]) (fun z => H z.2) ((0, x0)) (⟨by simp only; omega, by simp only; omega, h0⟩) (.cons rfl .nil) (fun w hw => hw) ?_
  rintro ⟨i, x⟩ ⟨i0, i1, hI⟩ ih
  dsimp only [List.cons_append, List.nil_append] at ih ⊢
  simp only at i0 i1 hI
  refine g_seq ?_
  refine g_region ?_
  refine l_lss rfl rfl rfl ?_
  refine l_nil ?_
  refine g_seq ?_
  refine g_cond rfl ?_ ?_
  · intro hbr
    have hbr := of_decide_eq_true hbr
    refine g_skip ?_
    refine g_seq ?_
    refine g_block ?_
    refine g_seq ?_
    refine g_region ?_
    refine l_move rfl rfl ?_
    refine l_assign rfl rfl ?_
    refine l_nil ?_
    refine g_seq ?_
    refine g_region ?_
    refine l_loadc (v := .pointer (some ⟨b1, 0, none⟩)) rfl Try.isAgg25 rfl (hm _).1 ?_
    refine l_loadc (v := .pointer (some ⟨b2, 0, none⟩)) rfl Try.isAgg25 rfl (hm _).2 ?_
    refine l_move rfl rfl ?_
    refine l_call rfl Try.call31 rfl (unlike_x _ _ b1 g1 n1 c1 A (hA _) hAl (by omega) b2 g2 n2 c2 B (hB _) hBl (by omega) i i0 (by omega)) ?_; rintro _ _ ⟨rfl, rfl⟩
    refine l_move rfl rfl ?_
    refine l_split 29 rfl ?_ ?_
    · intro hbr
      have hb29 := hbr
      refine l_guard_yes rfl rfl ?_
      refine l_move rfl rfl ?_
      refine l_guard_yes rfl rfl ?_
      refine l_move rfl rfl ?_
      refine l_guard_yes rfl rfl ?_
      refine l_yield rfl rfl rfl (hY i x i0 (by omega) hI (of_decide_eq_true hb29)) ?_
      rintro _ F3 ⟨q, rfl, hq1, hq2⟩
      refine l_guard_yes rfl rfl ?_
      refine l_not rfl rfl ?_
      refine l_pick_t rfl rfl rfl ?_
      refine l_nil ?_
      refine g_cond rfl ?_ ?_
      · intro hbr
        have hb34 := hbr
        refine g_ret Try.func30 rfl .nil ?_
        (first | exact Gives.mki (.inr (hq2 (by simpa using hb34))) | exact Gives.mki (.inl ⟨x, hI, rfl⟩))
      intro hbr
      have hb34 := hbr
      refine g_skip ?_
      refine g_inBlock ?_
      refine g_region ?_
      first | refine l_add rfl rfl rfl (w_i64 (by omega) (by omega)) ?_ | refine l_addw rfl rfl rfl ?_
      refine l_move rfl rfl ?_
      refine l_nil ?_
      (first | (obtain ⟨x2, hI2, hF3⟩ := hq1 (by simpa using hb34); refine g_heap hF3 ?_; exact g_againi (ih (i + 1, x2) ⟨by simp only; omega, by simp only; omega, hI2⟩ (by simp only; omega)) (.cons rfl (.cons rfl (.cons rfl (.cons rfl (.cons rfl (.nil))))))) | exact g_againi (ih (i + 1, x) ⟨by simp only; omega, by simp only; omega, hS i x i0 (by omega) hI (of_decide_eq_false hb29)⟩ (by simp only; omega)) (.cons rfl (.cons rfl (.cons rfl (.cons rfl (.cons rfl (.nil)))))))
    intro hbr
    have hb29 := hbr
    refine l_guard_no rfl rfl rfl ?_
    refine l_guard_no rfl rfl rfl ?_
    refine l_guard_no rfl rfl rfl ?_
    refine l_guard_no rfl rfl rfl ?_
    refine l_pick_f rfl rfl rfl ?_
    refine l_nil ?_
    first | refine g_cond_f rfl ?_ | refine g_cond_f (congrArg (fun b => some (Value.bool b)) (decide_eq_false hbr)) ?_
    refine g_skip ?_
    refine g_inBlock ?_
    refine g_region ?_
    first | refine l_add rfl rfl rfl (w_i64 (by omega) (by omega)) ?_ | refine l_addw rfl rfl rfl ?_
    refine l_move rfl rfl ?_
    refine l_nil ?_
    (first | (obtain ⟨x2, hI2, hF3⟩ := hq1 (by simpa using hb34); refine g_heap hF3 ?_; exact g_againi (ih (i + 1, x2) ⟨by simp only; omega, by simp only; omega, hI2⟩ (by simp only; omega)) (.cons rfl (.cons rfl (.cons rfl (.cons rfl (.cons rfl (.nil))))))) | exact g_againi (ih (i + 1, x) ⟨by simp only; omega, by simp only; omega, hS i x i0 (by omega) hI (of_decide_eq_false hb29)⟩ (by simp only; omega)) (.cons rfl (.cons rfl (.cons rfl (.cons rfl (.cons rfl (.nil)))))))
  intro hbr
  have hbr := of_decide_eq_false hbr
  refine g_exit rfl ?_
  obtain rfl : i = n := by omega
  refine g_end Try.func30 rfl .nil ?_
  (first | exact Gives.mki (.inr (hq2 (by simpa using hb34))) | exact Gives.mki (.inl ⟨x, hI, rfl⟩))
theorem seq_n1 (w0 : World) (F : List Atom) (l bm bo : Nat) (hm : CellAt w0 F bm 0 (.pointer none)) :
    CallK Try.prog 30 [.func (.yield l) #[] #[], .pointer (some ⟨bm, 0, none⟩), .pointer (some ⟨bo, 0, none⟩)] w0 (F) (Gives w0 fun v F2 => F2 = F) := by
  refine c_enter Try.func30 rfl rfl rfl ?_
  refine g_seq ?_
  refine g_seq ?_
  refine g_region ?_
  refine l_loadc (v := .pointer none) rfl Try.isAgg25 rfl hm ?_
  refine l_eqpn rfl Try.underlying25 rfl rfl ?_
  refine l_move rfl rfl ?_
  refine l_guard_no rfl rfl rfl ?_
  refine l_guard_no rfl rfl rfl ?_
  refine l_pick_t rfl rfl rfl ?_
  refine l_nil ?_
  first | refine g_cond_t rfl ?_ | refine g_cond_t (congrArg (fun b => some (Value.bool b)) (decide_eq_true hbr)) ?_
  refine g_ret Try.func30 rfl .nil ?_
  exact Gives.mki rfl
theorem seq_n2 (w0 : World) (F : List Atom) (l bm bo : Nat) (a : Addr) (hm : CellAt w0 F bm 0 (.pointer (some a))) (ho : CellAt w0 F bo 0 (.pointer none)) :
    CallK Try.prog 30 [.func (.yield l) #[] #[], .pointer (some ⟨bm, 0, none⟩), .pointer (some ⟨bo, 0, none⟩)] w0 (F) (Gives w0 fun v F2 => F2 = F) := by
  refine c_enter Try.func30 rfl rfl rfl ?_
  refine g_seq ?_
  refine g_seq ?_
  refine g_region ?_
  refine l_loadc (v := .pointer (some a)) rfl Try.isAgg25 rfl hm ?_
  refine l_eqpn rfl Try.underlying25 rfl rfl ?_
  refine l_move rfl rfl ?_
  refine l_guard_yes rfl rfl ?_
  refine l_loadc (v := .pointer none) rfl Try.isAgg25 rfl ho ?_
  refine l_guard_yes rfl rfl ?_
  refine l_eqpn rfl Try.underlying25 rfl rfl ?_
  refine l_pick_f rfl rfl rfl ?_
  refine l_nil ?_
  first | refine g_cond_t rfl ?_ | refine g_cond_t (congrArg (fun b => some (Value.bool b)) (decide_eq_true hbr)) ?_
  refine g_ret Try.func30 rfl .nil ?_
  exact Gives.mki rfl
end Go.Proofs.Ytlgcghhjgcdigaa.Fw
