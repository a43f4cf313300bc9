import Derived.Test.YtnkmhhjldfapdaaPlain
namespace Go.Proofs.Ytnkmhhjldfapdaa.Fw
open Go Go.Proofs
set_option linter.unusedVariables false
set_option linter.unusedSimpArgs false
set_option maxRecDepth 10000

/-- A bit's step of the check sum, so many of them, all bytes. -/
def crc1 (n : Int) : Int := if bAnd 32 n 1 = 1 then bXor 32 (n / 2) 3988292384 else n / 2
def itr : Nat → Int → Int
  | 0, n => n
  | k + 1, n => crc1 (itr k n)
def crcP (W : List Int) : Nat → Int
  | 0 => 4294967295
  | i + 1 => itr 8 (bXor 32 (crcP W i) (W.getD i 0))
def sumV (W : List Int) : Int := bXor 32 4294967295 (crcP W W.length)
def U8s (W : List Int) : Prop := ∀ i, 0 ≤ W.getD i 0 ∧ W.getD i 0 ≤ 255
theorem crc1_t {n : Int} (h : bAnd 32 n 1 = 1) : bXor 32 (n / 2) 3988292384 = crc1 n := by simp [crc1, h]
theorem crc1_f {n : Int} (h : ¬ bAnd 32 n 1 = 1) : n / 2 = crc1 n := by simp [crc1, h]
theorem U8s.of {W : List Int} (h : ∀ x ∈ W, 0 ≤ x ∧ x ≤ 255) : U8s W := by
  intro i
  rcases Nat.lt_or_ge i W.length with hi | hi
  · have : W.getD i 0 = W[i] := by simp [hi]
    rw [this]; exact h _ (List.getElem_mem _)
  · have : W.getD i 0 = 0 := by simp [List.getD_eq_getElem?_getD, hi]
    rw [this]; decide
theorem sum_ok (w0 : World) (F : List Atom) (a : Option Addr) (n c : Nat) (W : List Int) (hI : IR w0 F .u8 a n W) (hb : U8s W) (hn : n ≤ 140737488355327) :
    CallK Try.prog 15 [.slice a n c] w0 (F) (Gives w0 fun v F2 => v = .int .u32 (sumV W) ∧ F2 = F) := by
  have hl := hI.1
  refine c_enter Try.func15 rfl rfl rfl ?_
  refine g_seq ?_
  refine g_region ?_
  refine l_assign rfl rfl ?_
  refine l_nil ?_
  refine g_seq ?_
  refine g_region ?_
  refine l_assign rfl rfl ?_
  refine l_nil ?_
  refine g_seq ?_
  refine g_seq ?_
  refine g_region ?_
  refine l_move rfl rfl ?_
  refine l_len rfl Try.underlying36 rfl ?_
  refine l_move rfl rfl ?_
  refine l_nil ?_
  refine g_block ?_
  refine g_loopc (X := Int) [(2, _), (7, _), (8, _)] (.cons rfl (.cons rfl (.cons rfl (.nil)))) (fun i => 0 ≤ i ∧ i ≤ n) (fun i => (n - i).toNat) (fun i => [(3, .int .u32 (crcP W i.toNat)), (9, .int .i64 i)]) (0) (by omega) (.cons rfl (.cons rfl .nil)) ?_
  rintro i ⟨i0, i1⟩ ih
  dsimp only [List.cons_append, List.nil_append] at ih ⊢
  have hbi := hb i.toNat
  refine g_seq ?_
  refine g_region ?_
  refine l_lss rfl rfl rfl ?_
  refine l_nil ?_
  refine g_seq ?_
  refine g_cond rfl ?_ ?_
  · intro hbr
    have hbr := of_decide_eq_true hbr
    refine g_skip ?_
    refine g_seq ?_
    refine g_block ?_
    refine g_seq ?_
    refine g_region ?_
    obtain ⟨b9, o9, rfl, hr9⟩ := hI.some (i := i.toNat) (by omega)
    refine l_ixs rfl Try.underlying36 Try.sizeOf5 rfl rfl (by omega) (by omega) ?_
    refine l_loadc rfl Try.isAgg5 rfl (word_any hr9 (by omega)) ?_
    refine l_assign rfl rfl ?_
    refine l_nil ?_
    refine g_seq ?_
    refine g_region ?_
    refine l_move rfl rfl ?_
    refine l_move rfl rfl ?_
    first | refine l_conv rfl Try.underlying5 Try.underlying23 rfl (w_u32 (by omega) (by omega)) ?_ | refine l_convm (m := 4294967296) rfl wr_u32 Try.underlying5 Try.underlying23 rfl ?_
    refine l_xor (m := 32) rfl rfl rfl rfl rfl ?_
    refine l_assign rfl rfl ?_
    refine l_nil ?_
    refine g_seq ?_
    refine g_region ?_
    refine l_move rfl rfl ?_
    refine l_nil ?_
    refine g_block ?_
    refine g_loopc (X := Int) [(2, _), (5, _), (7, _), (8, _), (9, _), (10, _), (11, _), (12, _), (13, _), (14, _), (15, _), (16, _)] (.cons rfl (.cons rfl (.cons rfl (.cons rfl (.cons rfl (.cons rfl (.cons rfl (.cons rfl (.cons rfl (.cons rfl (.cons rfl (.cons rfl (.nil))))))))))))) (fun j => 0 ≤ j ∧ j ≤ 8) (fun j => (8 - j).toNat) (fun j => [(3, .int .u32 (itr j.toNat (bXor 32 (crcP W i.toNat) (W.getD i.toNat 0)))), (17, .int .i64 j)]) (0) (by omega) (.cons rfl (.cons rfl .nil)) ?_
    rintro j ⟨j0, j1⟩ ihj
    dsimp only [List.cons_append, List.nil_append] at ihj ⊢
    refine g_seq ?_
    refine g_region ?_
    refine l_lss rfl rfl rfl ?_
    refine l_nil ?_
    refine g_seq ?_
    refine g_cond rfl ?_ ?_
    · intro hbr
      have hbr := of_decide_eq_true hbr
      refine g_skip ?_
      refine g_seq ?_
      refine g_block ?_
      refine g_seq ?_
      refine g_region ?_
      refine l_move rfl rfl ?_
      refine l_and (m := 32) rfl rfl rfl rfl rfl ?_
      refine l_assign rfl rfl ?_
      refine l_nil ?_
      refine g_seq ?_
      refine g_region ?_
      refine l_move rfl rfl ?_
      refine l_shrc (C := 2) rfl rfl rfl (by decide) (by decide) ?_
      refine l_assign rfl rfl ?_
      refine l_nil ?_
      refine g_seq ?_
      refine g_region ?_
      refine l_move rfl rfl ?_
      refine l_eql rfl rfl rfl ?_
      refine l_nil ?_
      refine g_cond rfl ?_ ?_
      · intro hbr
        have hbr := of_decide_eq_true hbr
        refine g_region ?_
        refine l_move rfl rfl ?_
        refine l_xor (m := 32) rfl rfl rfl rfl rfl ?_
        refine l_assign rfl rfl ?_
        refine l_nil ?_
        refine g_inBlock ?_
        refine g_region ?_
        first | refine l_add rfl rfl rfl (w_i64 (by omega) (by omega)) ?_ | refine l_addw rfl rfl rfl ?_
        refine l_move rfl rfl ?_
        refine l_nil ?_
        (first | rw [crc1_t hbr] | rw [crc1_f hbr])
        rw [show crc1 (itr j.toNat (bXor 32 (crcP W i.toNat) (W.getD i.toNat 0))) = itr (j + 1).toNat (bXor 32 (crcP W i.toNat) (W.getD i.toNat 0)) by rw [show (j + 1).toNat = j.toNat + 1 by omega]; rfl]
        exact g_againi (ihj (j + 1) (by omega) (by omega)) (.cons rfl (.cons rfl (.cons rfl (.cons rfl (.cons rfl (.cons rfl (.cons rfl (.cons rfl (.cons rfl (.cons rfl (.cons rfl (.cons rfl (.cons rfl (.cons rfl (.nil)))))))))))))))
      intro hbr
      have hbr := of_decide_eq_false hbr
      refine g_skip ?_
      refine g_inBlock ?_
      refine g_region ?_
      first | refine l_add rfl rfl rfl (w_i64 (by omega) (by omega)) ?_ | refine l_addw rfl rfl rfl ?_
      refine l_move rfl rfl ?_
      refine l_nil ?_
      (first | rw [crc1_t hbr] | rw [crc1_f hbr])
      rw [show crc1 (itr j.toNat (bXor 32 (crcP W i.toNat) (W.getD i.toNat 0))) = itr (j + 1).toNat (bXor 32 (crcP W i.toNat) (W.getD i.toNat 0)) by rw [show (j + 1).toNat = j.toNat + 1 by omega]; rfl]
      exact g_againi (ihj (j + 1) (by omega) (by omega)) (.cons rfl (.cons rfl (.cons rfl (.cons rfl (.cons rfl (.cons rfl (.cons rfl (.cons rfl (.cons rfl (.cons rfl (.cons rfl (.cons rfl (.cons rfl (.cons rfl (.nil)))))))))))))))
    intro hbr
    have hbr := of_decide_eq_false hbr
    refine g_exit rfl ?_
    obtain rfl : j = 8 := by omega
    refine g_inBlock ?_
    refine g_region ?_
    first | refine l_add rfl rfl rfl (w_i64 (by omega) (by omega)) ?_ | refine l_addw rfl rfl rfl ?_
    refine l_move rfl rfl ?_
    refine l_nil ?_
    rw [show itr (8 : Int).toNat (bXor 32 (crcP W i.toNat) (W.getD i.toNat 0)) = crcP W (i + 1).toNat by rw [show (i + 1).toNat = i.toNat + 1 by omega]; rfl]
    exact g_againi (ih (i + 1) (by omega) (by omega)) (.cons rfl (.cons rfl (.cons rfl (.cons rfl (.cons rfl (.nil))))))
  intro hbr
  have hbr := of_decide_eq_false hbr
  refine g_exit rfl ?_
  obtain rfl : i = n := by omega
  rw [Int.toNat_natCast]
  refine g_seq ?_
  refine g_region ?_
  refine l_move rfl rfl ?_
  refine l_compl (m := 32) (c := 4294967295) rfl rfl rfl rfl rfl ?_
  refine l_assign rfl rfl ?_
  refine l_nil ?_
  refine g_ret Try.func15 rfl (.tmp rfl .nil) ?_
  exact Gives.mki ⟨by unfold sumV; rw [hl]; rfl, rfl⟩
end Go.Proofs.Ytnkmhhjldfapdaa.Fw
