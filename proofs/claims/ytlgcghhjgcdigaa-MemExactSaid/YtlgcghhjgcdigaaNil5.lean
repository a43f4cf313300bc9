import Derived.Test.YtlgcghhjgcdigaaWithin
import Derived.Test.YtlgcghhjgcdigaaRDiff
import Derived.Test.YtlgcghhjgcdigaaAny5
namespace Go.Proofs.Ytlgcghhjgcdigaa.Fw
open Go Go.Proofs
set_option linter.unusedVariables false
set_option linter.unusedSimpArgs false
set_option maxRecDepth 10000

theorem there_nil (w0 : World) (F : List Atom) (at_ k : Int) :
    CallK Try.prog 29 [.pointer none, .int .i64 at_, .int .i64 k] w0 (F) (Gives w0 fun v F2 => v = .int .i64 3 ∧ F2 = F) := by
  refine c_enter Try.func29 rfl rfl rfl ?_
  refine g_seq ?_
  refine g_region ?_
  refine l_assign rfl rfl ?_
  refine l_nil ?_
  refine g_seq ?_
  refine g_seq ?_
  refine g_region ?_
  refine l_move rfl rfl ?_
  refine l_eqpn rfl Try.underlying25 rfl rfl ?_
  refine l_nil ?_
  first | refine g_cond_t rfl ?_ | refine g_cond_t (congrArg (fun b => some (Value.bool b)) (decide_eq_true hbr)) ?_
  refine g_seq ?_
  refine g_region ?_
  refine l_assign rfl rfl ?_
  refine l_nil ?_
  refine g_ret Try.func29 rfl (.tmp rfl .nil) ?_
  exact Gives.mki ⟨rfl, rfl⟩
theorem read_nil (w0 : World) (F : List Atom) (a : Int) :
    CallK Try.prog 12 [.pointer none, .int .i64 a] w0 (F) (Gives w0 fun v F2 => v = .tuple #[.int .u32 0, .int .i64 3] ∧ F2 = F) := by
  refine c_enter Try.func12 rfl rfl rfl ?_
  refine g_seq ?_
  refine g_region ?_
  refine l_assign rfl rfl ?_
  refine l_assign rfl rfl ?_
  refine l_nil ?_
  refine g_seq ?_
  refine g_seq ?_
  refine g_region ?_
  refine l_move rfl rfl ?_
  refine l_move rfl rfl ?_
  refine l_call rfl Try.call29 rfl (there_nil _ _ _ _) ?_; rintro _ _ ⟨rfl, rfl⟩
  refine l_assign rfl rfl ?_
  refine l_nil ?_
  refine g_seq ?_
  refine g_region ?_
  refine l_move rfl rfl ?_
  refine l_neq rfl rfl rfl ?_
  refine l_nil ?_
  refine g_cond rfl ?_ ?_
  · intro hbr
    have hbr := of_decide_eq_true hbr
    refine g_seq ?_
    refine g_region ?_
    refine l_move rfl rfl ?_
    refine l_assign rfl rfl ?_
    refine l_assign rfl rfl ?_
    refine l_nil ?_
    refine g_ret Try.func12 rfl (.tmp rfl (.tmp rfl .nil)) ?_
    exact Gives.mki ⟨rfl, rfl⟩
  · intro hbr
    have hbr := of_decide_eq_false hbr
    (exfalso; first | omega | (simp at hbr; done))
theorem write_nil (w0 : World) (F : List Atom) (a x : Int) :
    CallK Try.prog 10 [.pointer none, .int .i64 a, .int .u32 x] w0 (F) (Gives w0 fun v F2 => v = .int .i64 3 ∧ F2 = F) := by
  refine c_enter Try.func10 rfl rfl rfl ?_
  refine g_seq ?_
  refine g_region ?_
  refine l_assign rfl rfl ?_
  refine l_nil ?_
  refine g_seq ?_
  refine g_region ?_
  refine l_move rfl rfl ?_
  refine l_move rfl rfl ?_
  refine l_call rfl Try.call29 rfl (there_nil _ _ _ _) ?_; rintro _ _ ⟨rfl, rfl⟩
  refine l_assign rfl rfl ?_
  refine l_nil ?_
  refine g_seq ?_
  refine g_seq ?_
  refine g_region ?_
  refine l_move rfl rfl ?_
  refine l_eql rfl rfl rfl ?_
  refine l_nil ?_
  refine g_cond rfl ?_ ?_
  · intro hbr
    have hbr := of_decide_eq_true hbr
    (exfalso; first | omega | (simp at hbr; done))
  intro hbr
  have hbr := of_decide_eq_false hbr
  refine g_skip ?_
  refine g_seq ?_
  refine g_region ?_
  refine l_move rfl rfl ?_
  refine l_assign rfl rfl ?_
  refine l_nil ?_
  refine g_ret Try.func10 rfl (.tmp rfl .nil) ?_
  exact Gives.mki ⟨rfl, rfl⟩
theorem take_nil (w0 : World) (F : List Atom) (a k : Int) :
    CallK Try.prog 49 [.pointer none, .int .i64 a, .int .i64 k] w0 (F) (Gives w0 fun v F2 => v = .tuple #[.slice none 0 0, .int .i64 3] ∧ F2 = F) := by
  refine c_enter Try.func49 rfl rfl rfl ?_
  refine g_seq ?_
  refine g_region ?_
  refine l_assign rfl rfl ?_
  refine l_assign rfl rfl ?_
  refine l_nil ?_
  refine g_seq ?_
  refine g_seq ?_
  refine g_region ?_
  refine l_move rfl rfl ?_
  refine l_move rfl rfl ?_
  refine l_move rfl rfl ?_
  refine l_call rfl Try.call29 rfl (there_nil _ _ _ _) ?_; rintro _ _ ⟨rfl, rfl⟩
  refine l_assign rfl rfl ?_
  refine l_nil ?_
  refine g_seq ?_
  refine g_region ?_
  refine l_move rfl rfl ?_
  refine l_neq rfl rfl rfl ?_
  refine l_nil ?_
  refine g_cond rfl ?_ ?_
  · intro hbr
    have hbr := of_decide_eq_true hbr
    refine g_seq ?_
    refine g_region ?_
    refine l_move rfl rfl ?_
    refine l_assign rfl rfl ?_
    refine l_assign rfl rfl ?_
    refine l_nil ?_
    refine g_ret Try.func49 rfl (.tmp rfl (.tmp rfl .nil)) ?_
    exact Gives.mki ⟨rfl, rfl⟩
  · intro hbr
    have hbr := of_decide_eq_false hbr
    (exfalso; first | omega | (simp at hbr; done))
theorem lay_nil (w0 : World) (F : List Atom) (a : Int) :
    CallK Try.prog 36 [.pointer none, .int .i64 a, .slice none 0 0] w0 (F) (Gives w0 fun v F2 => v = .int .i64 3 ∧ F2 = F) := by
  refine c_enter Try.func36 rfl rfl rfl ?_
  refine g_seq ?_
  refine g_region ?_
  refine l_assign rfl rfl ?_
  refine l_nil ?_
  refine g_seq ?_
  refine g_region ?_
  refine l_move rfl rfl ?_
  refine l_move rfl rfl ?_
  refine l_move rfl rfl ?_
  refine l_len rfl Try.underlying23 rfl ?_
  refine l_call rfl Try.call29 rfl (there_nil _ _ _ _) ?_; rintro _ _ ⟨rfl, rfl⟩
  refine l_assign rfl rfl ?_
  refine l_nil ?_
  refine g_seq ?_
  refine g_seq ?_
  refine g_region ?_
  refine l_move rfl rfl ?_
  refine l_eql rfl rfl rfl ?_
  refine l_nil ?_
  refine g_cond rfl ?_ ?_
  · intro hbr
    have hbr := of_decide_eq_true hbr
    (exfalso; first | omega | (simp at hbr; done))
  intro hbr
  have hbr := of_decide_eq_false hbr
  refine g_skip ?_
  refine g_seq ?_
  refine g_region ?_
  refine l_move rfl rfl ?_
  refine l_assign rfl rfl ?_
  refine l_nil ?_
  refine g_ret Try.func36 rfl (.tmp rfl .nil) ?_
  exact Gives.mki ⟨rfl, rfl⟩
theorem fill_nil (w0 : World) (F : List Atom) (a k x : Int) :
    CallK Try.prog 37 [.pointer none, .int .i64 a, .int .i64 k, .int .u32 x] w0 (F) (Gives w0 fun v F2 => v = .int .i64 3 ∧ F2 = F) := by
  refine c_enter Try.func37 rfl rfl rfl ?_
  refine g_seq ?_
  refine g_region ?_
  refine l_assign rfl rfl ?_
  refine l_nil ?_
  refine g_seq ?_
  refine g_seq ?_
  refine g_region ?_
  refine l_move rfl rfl ?_
  refine l_move rfl rfl ?_
  refine l_move rfl rfl ?_
  refine l_call rfl Try.call29 rfl (there_nil _ _ _ _) ?_; rintro _ _ ⟨rfl, rfl⟩
  refine l_assign rfl rfl ?_
  refine l_nil ?_
  refine g_seq ?_
  refine g_region ?_
  refine l_move rfl rfl ?_
  refine l_neq rfl rfl rfl ?_
  refine l_nil ?_
  refine g_cond rfl ?_ ?_
  · intro hbr
    have hbr := of_decide_eq_true hbr
    refine g_seq ?_
    refine g_region ?_
    refine l_move rfl rfl ?_
    refine l_assign rfl rfl ?_
    refine l_nil ?_
    refine g_ret Try.func37 rfl (.tmp rfl .nil) ?_
    exact Gives.mki ⟨rfl, rfl⟩
  · intro hbr
    have hbr := of_decide_eq_false hbr
    (exfalso; first | omega | (simp at hbr; done))
theorem move_nil (w0 : World) (F : List Atom) (a b k : Int) :
    CallK Try.prog 38 [.pointer none, .int .i64 a, .int .i64 b, .int .i64 k] w0 (F) (Gives w0 fun v F2 => v = .int .i64 3 ∧ F2 = F) := by
  refine c_enter Try.func38 rfl rfl rfl ?_
  refine g_seq ?_
  refine g_region ?_
  refine l_assign rfl rfl ?_
  refine l_nil ?_
  refine g_seq ?_
  refine g_seq ?_
  refine g_region ?_
  refine l_move rfl rfl ?_
  refine l_move rfl rfl ?_
  refine l_move rfl rfl ?_
  refine l_call rfl Try.call29 rfl (there_nil _ _ _ _) ?_; rintro _ _ ⟨rfl, rfl⟩
  refine l_assign rfl rfl ?_
  refine l_nil ?_
  refine g_seq ?_
  refine g_region ?_
  refine l_move rfl rfl ?_
  refine l_neq rfl rfl rfl ?_
  refine l_nil ?_
  refine g_cond rfl ?_ ?_
  · intro hbr
    have hbr := of_decide_eq_true hbr
    refine g_seq ?_
    refine g_region ?_
    refine l_move rfl rfl ?_
    refine l_assign rfl rfl ?_
    refine l_nil ?_
    refine g_ret Try.func38 rfl (.tmp rfl .nil) ?_
    exact Gives.mki ⟨rfl, rfl⟩
  · intro hbr
    have hbr := of_decide_eq_false hbr
    (exfalso; first | omega | (simp at hbr; done))
theorem clone_nil (w0 : World) (F : List Atom)  :
    CallK Try.prog 19 [.pointer none] w0 (F) (Gives w0 fun v F2 => v = .pointer none ∧ F2 = F) := by
  refine c_enter Try.func19 rfl rfl rfl ?_
  refine g_seq ?_
  refine g_region ?_
  refine l_assign rfl rfl ?_
  refine l_nil ?_
  refine g_seq ?_
  refine g_seq ?_
  refine g_region ?_
  refine l_move rfl rfl ?_
  refine l_eqpn rfl Try.underlying25 rfl rfl ?_
  refine l_nil ?_
  first | refine g_cond_t rfl ?_ | refine g_cond_t (congrArg (fun b => some (Value.bool b)) (decide_eq_true hbr)) ?_
  refine g_seq ?_
  refine g_region ?_
  refine l_assign rfl rfl ?_
  refine l_nil ?_
  refine g_ret Try.func19 rfl (.tmp rfl .nil) ?_
  exact Gives.mki ⟨rfl, rfl⟩
theorem frames_nil (w0 : World) (F : List Atom)  :
    CallK Try.prog 17 [.pointer none] w0 (F) (Gives w0 fun v F2 => v = .int .i64 0 ∧ F2 = F) := by
  refine c_enter Try.func17 rfl rfl rfl ?_
  refine g_seq ?_
  refine g_region ?_
  refine l_assign rfl rfl ?_
  refine l_nil ?_
  refine g_seq ?_
  refine g_seq ?_
  refine g_region ?_
  refine l_move rfl rfl ?_
  refine l_eqpn rfl Try.underlying25 rfl rfl ?_
  refine l_nil ?_
  first | refine g_cond_t rfl ?_ | refine g_cond_t (congrArg (fun b => some (Value.bool b)) (decide_eq_true hbr)) ?_
  refine g_seq ?_
  refine g_region ?_
  refine l_assign rfl rfl ?_
  refine l_nil ?_
  refine g_ret Try.func17 rfl (.tmp rfl .nil) ?_
  exact Gives.mki ⟨rfl, rfl⟩
theorem words_nil (w0 : World) (F : List Atom)  :
    CallK Try.prog 18 [.pointer none] w0 (F) (Gives w0 fun v F2 => v = .slice none 0 0 ∧ F2 = F) := by
  refine c_enter Try.func18 rfl rfl rfl ?_
  refine g_seq ?_
  refine g_region ?_
  refine l_assign rfl rfl ?_
  refine l_nil ?_
  refine g_seq ?_
  refine g_seq ?_
  refine g_region ?_
  refine l_move rfl rfl ?_
  refine l_eqpn rfl Try.underlying25 rfl rfl ?_
  refine l_nil ?_
  first | refine g_cond_t rfl ?_ | refine g_cond_t (congrArg (fun b => some (Value.bool b)) (decide_eq_true hbr)) ?_
  refine g_seq ?_
  refine g_region ?_
  refine l_assign rfl rfl ?_
  refine l_nil ?_
  refine g_ret Try.func18 rfl (.tmp rfl .nil) ?_
  exact Gives.mki ⟨rfl, rfl⟩
theorem along_any (w0 : World) (F : List Atom) (b1 g1 n1 c1 b2 g2 n2 c2 n : Nat) (hn1 : n1 ≤ n) (hn2 : n2 ≤ n) (hnn : n = n1 ∨ n = n2) (hn : n ≤ 1073741824) (W W2 : List Int) (hM : MemRd w0 F b1 g1 n1 c1 W) (hW : W.length = n1) (hM2 : MemRd w0 F b2 g2 n2 c2 W2) (hW2 : W2.length = n2) (bm bo : Nat) (hm : CellAt w0 F bm 0 (.pointer (some ⟨b1, 0, none⟩))) (ho : CellAt w0 F bo 0 (.pointer (some ⟨b2, 0, none⟩))) (most : Int) (m1 : 0 ≤ most) (m2 : most ≤ 9223372036854775807) : CallK Try.prog 13 [.func (.func 30) #[] [.pointer (some ⟨bm, 0, none⟩), .pointer (some ⟨bo, 0, none⟩)].toArray, .int .i64 most] w0 F (Gives w0 fun v F2 => ∃ a c T, v = .slice a T.length c ∧ T = (difs W W2 n).take most.toNat ∧ (T.length = 0 ∨ ∃ g, a = some ⟨g, 0, none⟩) ∧ F2 = Own 3 1 (.slice a T.length c) T.length (ints .i64 T) :: F) := by
  by_cases h : 1 ≤ most
  · exact along_x w0 F b1 g1 n1 c1 b2 g2 n2 c2 n hn1 hn2 hnn hn W W2 hM hW hM2 hW2 bm bo hm ho most h m2
  · refine (along_0 w0 F bm bo most (by omega)).mono fun en F2 hg => ?_
    refine gives_nil 3 hg ?_
    exact ⟨none, 0, [], rfl, by rw [show most.toNat = 0 by omega]; rfl, .inl rfl, rfl⟩
theorem ir_takeown {w0 : World} {F : List Atom} {a : Option Addr} {n c m : Nat} {T X : List Int} (hm : Own 3 1 (.slice a n c) n (ints .i64 T) ∈ F) (ha : n = 0 ∨ ∃ g, a = some ⟨g, 0, none⟩) (hT : T.length = n) (hX : X = T.take m) : IR w0 F .i64 a X.length X := ⟨rfl, by
  subst hX
  rcases ha with ha | ⟨g, rfl⟩
  · left
    rw [List.length_take]
    omega
  · right
    refine ⟨g, 0, rfl, ?_⟩
    have := (RowAt.own (w0 := w0) hm).mid 0 m
    rw [List.drop_zero, ints_take] at this
    exact this⟩
end Go.Proofs.Ytlgcghhjgcdigaa.Fw
