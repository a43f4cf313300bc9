import Derived.Test.YtecibldbnekgbaaQDel
namespace Go.Proofs.Ytecibldbnekgbaa.Fw
open Go Go.Proofs
set_option linter.unusedVariables false
set_option linter.unusedSimpArgs false
set_option maxRecDepth 10000
theorem bd_97_0 (a0_0 : Int) (w : World) : (Instr.build 97 #[(0, .int .i64 a0_0)]).run Try.prog w = .ok (.agg #[.int .i64 a0_0, .slice none 0 0, .int .u32 0]) w := by kernel_rfl
theorem bd_97_z  (w : World) : (Instr.build 97 #[]).run Try.prog w = .ok (.agg #[.int .i64 0, .slice none 0 0, .int .u32 0]) w := by kernel_rfl
theorem fa_97_1 (a : Addr) (w : World) : (Instr.fieldAt 97 (.pointer (some a)) 1).run Try.prog w = .ok (.pointer (some (a.add 1))) w := by
  simp [Instr.fieldAt, Try.runUnderlying97, Instr.sureAddr, fieldPlace, Try.sizeOf40, Sem.run_bind, Sem.run_pure]
theorem fa_97_2 (a : Addr) (w : World) : (Instr.fieldAt 97 (.pointer (some a)) 2).run Try.prog w = .ok (.pointer (some (a.add 2))) w := by
  simp [Instr.fieldAt, Try.runUnderlying97, Instr.sureAddr, fieldPlace, Try.sizeOf33, Sem.run_bind, Sem.run_pure]
theorem fa_97_0 (a : Addr) (w : World) : (Instr.fieldAt 97 (.pointer (some a)) 0).run Try.prog w = .ok (.pointer (some (a.add 0))) w := by
  simp [Instr.fieldAt, Try.runUnderlying97, Instr.sureAddr, fieldPlace, Try.sizeOf3, Sem.run_bind, Sem.run_pure]
theorem xl_ext {X l : List Int} (hl : X.length = l.length) (h : ∀ j, j < l.length → X.getD j 0 = l.getD j 0) : X = l := by
  refine List.ext_getElem? fun j => ?_
  rcases Nat.lt_or_ge j l.length with hj | hj
  · have := h j hj
    simp only [List.getD_eq_getElem?_getD, List.getElem?_eq_getElem hj, List.getElem?_eq_getElem (show j < X.length by omega), Option.getD_some] at this
    rw [List.getElem?_eq_getElem hj, List.getElem?_eq_getElem (show j < X.length by omega), this]
  · rw [List.getElem?_eq_none hj, List.getElem?_eq_none (by omega)]
theorem stL_drop {W : List Int} {a : Int} {h k : Nat} (ha : 0 ≤ a) : (stL W a (h + k)).drop h = stL W (a + h) k := by
  unfold stL
  rw [List.drop_take, List.drop_drop, Nat.add_sub_cancel_left, show (a + (h : Int)).toNat = a.toNat + h by omega]
theorem piece_stL {W : List Int} {a p : Int} {K kk wd : Nat} (ha : 0 ≤ a) (hk : kk * (1 + wd) + (1 + wd) ≤ K) (hp : p = a + ((kk * (1 + wd) : Nat) : Int)) : pieceW (stL W a K) wd kk = stL W p (1 + wd) := by
  unfold pieceW stL
  rw [List.drop_take, List.drop_drop, List.take_take, show p.toNat = a.toNat + kk * (1 + wd) by omega, show min (1 + wd) (K - kk * (1 + wd)) = 1 + wd by omega]
theorem plV_in {W : List Int} {a : Int} {wd k : Nat} (hl : (stL W a (1 + wd)).length = 1 + wd) (hk : (stL W a (1 + wd)).getD 0 0 = (k : Int)) (hw : k ≤ wd) (hz : ∀ j : Nat, k ≤ j → j < wd → W.getD (a.toNat + 1 + j) 0 = 0) : plV (stL W a (1 + wd)) = some ((W.drop (a.toNat + 1)).take k) := by
  rw [plV_some (by rw [hk, hl]; omega) (fun i h1 h2 => by
    rw [hk] at h1
    rw [hl] at h2
    rw [stL_getD h2, show a.toNat + i = a.toNat + 1 + (i - 1) by omega]
    exact hz (i - 1) (by omega) (by omega)), hk]
  unfold stL
  rw [List.drop_take, List.drop_drop, List.take_take, Int.toNat_natCast, show min k (1 + wd - 1) = k by omega]
theorem spl_set {o q : Nat} {Y W : List Int} {x : Int} (ho : o + Y.length ≤ W.length) (hq : q < Y.length) : (spl o Y W).set (o + q) x = spl o (Y.set q x) W := by
  refine xl_ext (by rw [List.length_set, spl_length ho, spl_length (by rw [List.length_set]; exact ho)]) fun j hj => ?_
  have hlen : o + q < (spl o Y W).length := by rw [spl_length ho]; omega
  rw [show ((spl o Y W).set (o + q) x).getD j 0 = if o + q = j then x else (spl o Y W).getD j 0 by
    simp only [List.getD_eq_getElem?_getD, List.getElem?_set]
    by_cases e : o + q = j
    · subst e; rw [if_pos rfl, if_pos rfl, if_pos hlen]; rfl
    · rw [if_neg e, if_neg e]]
  rw [spl_getD ho, spl_getD (by rw [List.length_set]; exact ho), List.length_set]
  by_cases e : o + q = j
  · subst e
    rw [if_pos rfl, if_pos (by omega), Nat.add_sub_cancel_left]
    simp [List.getD_eq_getElem?_getD, hq]
  · rw [if_neg e]
    split
    · rename_i h
      simp only [List.getD_eq_getElem?_getD, List.getElem?_set]
      rw [if_neg (by omega)]
    · rfl
theorem spl_snoc {o : Nat} {Y W : List Int} {x : Int} {k : Nat} (ho : o + Y.length < W.length) (hk : k = o + Y.length) : (spl o Y W).set k x = spl o (Y ++ [x]) W := by
  subst hk
  have h2 : o + (Y ++ [x]).length ≤ W.length := by rw [List.length_append, List.length_singleton]; omega
  have ho1 : o + Y.length ≤ W.length := by omega
  refine xl_ext (by rw [List.length_set, spl_length ho1, spl_length h2]) fun j hj => ?_
  have hlen : o + Y.length < (spl o Y W).length := by rw [spl_length ho1]; omega
  rw [show ((spl o Y W).set (o + Y.length) x).getD j 0 = if o + Y.length = j then x else (spl o Y W).getD j 0 by
    simp only [List.getD_eq_getElem?_getD, List.getElem?_set]
    by_cases e : o + Y.length = j
    · subst e; rw [if_pos rfl, if_pos rfl, if_pos hlen]; rfl
    · rw [if_neg e, if_neg e]]
  rw [spl_getD ho1, spl_getD h2, List.length_append, List.length_singleton]
  by_cases e : o + Y.length = j
  · subst e
    rw [if_pos rfl, if_pos (by omega), Nat.add_sub_cancel_left]
    simp [List.getD_eq_getElem?_getD]
  · rw [if_neg e]
    split
    · rename_i h
      rw [if_pos (by omega)]
      simp only [List.getD_eq_getElem?_getD]
      rw [List.getElem?_append_left (by omega)]
    · rw [if_neg (by omega)]
theorem spl_cons {o : Nat} {Y W : List Int} {x : Int} (ho : o < W.length) : spl (o + 1) Y (W.set o x) = spl o (x :: Y) W := by
  unfold spl
  rw [List.length_cons, show o + (Y.length + 1) = o + 1 + Y.length by omega]
  congr 1
  · rw [List.take_set, List.take_add_one, List.getElem?_eq_getElem ho]
    rw [show (List.take o W ++ (some W[o]).toList).set o x = List.take o W ++ [x] by
      rw [List.set_append_right _ _ (by rw [List.length_take]; omega), List.length_take]
      simp [Nat.min_eq_left (Nat.le_of_lt ho)]]
    simp
  · rw [List.drop_set_of_lt (by omega)]
/-- The places alone. -/
def plN (wd dp first : Nat) (Ts : List (List Int)) : Nat → List Int
  | 0 => List.replicate (dp * (1 + wd)) 0
  | i + 1 => spl ((first + i) % dp * (1 + wd) + 1) (tat Ts i) ((plN wd dp first Ts i).set ((first + i) % dp * (1 + wd)) ((tat Ts i).length : Int))
theorem plN_len {wd dp first : Nat} {Ts : List (List Int)} (hd : 0 < dp) : ∀ i, (∀ j, j < i → (tat Ts j).length ≤ wd) → (plN wd dp first Ts i).length = dp * (1 + wd)
  | 0, _ => List.length_replicate
  | i + 1, h => by
    have ih := plN_len (first := first) hd i fun j hj => h j (by omega)
    have h1 := h i (by omega)
    have h2 := kp_bd (wd := wd) (Nat.mod_lt (first + i) hd)
    simp only [plN]
    rw [spl_length (by rw [List.length_set, ih]; omega), List.length_set, ih]
theorem spl_app {x : Nat} {H P Y : List Int} : spl (H.length + x) Y (H ++ P) = H ++ spl x Y P := by
  unfold spl
  rw [List.take_append, List.drop_append, List.take_of_length_le (by omega), List.drop_of_length_le (l := H) (by omega)]
  rw [show H.length + x - H.length = x by omega, show H.length + x + Y.length - H.length = x + Y.length by omega]
  simp
theorem layN_app {wd dp first : Nat} {Hd : List Int} {Ts : List (List Int)} : ∀ i, layN wd dp Hd first Ts i = Hd ++ plN wd dp first Ts i
  | 0 => by
    simp only [layN, plN]
    unfold spl
    simp
  | i + 1 => by
    simp only [layN, plN]
    rw [layN_app i, List.set_append_right _ _ (by omega), Nat.add_sub_cancel_left, Nat.add_assoc, spl_app]
theorem RowR.ex (L : List Int) (wd dp first many : Nat) : ∃ Ts ok, RowR L wd dp first many Ts ok := by
  by_cases h : many ≤ dp ∧ first < dp ∧ RowC L wd dp first many dp
  · exact ⟨_, true, .inl ⟨rfl, h.1, h.2.1, h.2.2, rfl⟩⟩
  · exact ⟨[], false, .inr ⟨rfl, rfl, h⟩⟩
/-- A list that lies there. -/
def DR (w0 : World) (F : List Atom) (b o n : Nat) (W : List Int) : Prop := W.length = n ∧ RowAt w0 F b o (ints .u32 W) ∧ W32s W
theorem DR.ex {w0 : World} {F0 F : List Atom} {b o n W} (h : DR w0 F0 b o n W) [e : Ext F0 F] : DR w0 F b o n W := ⟨h.1, h.2.1.ex, h.2.2⟩
theorem set_gd {X : List Int} {i j : Nat} {x : Int} (hi : i < X.length) : (X.set i x).getD j 0 = if i = j then x else X.getD j 0 := by
  simp only [List.getD_eq_getElem?_getD, List.getElem?_set]
  by_cases h : i = j
  · subst h; simp [hi]
  · simp [h]

theorem bounds_ok (w0 : World) (F : List Atom) (wd dp : Nat) (w1 : 1 ≤ wd) (w2 : wd ≤ 16) (d1 : 1 ≤ dp) (d2 : dp ≤ 8) :
    CallK Try.prog 52 [.int .i64 (wd : Int), .int .i64 (dp : Int)] w0 (F) (Gives w0 fun v F2 => v = .bool true ∧ F2 = F) := by
  refine c_enter Try.func52 rfl rfl rfl ?_
  refine g_seq ?_
  refine g_region ?_
  refine l_assign rfl rfl ?_
  refine l_nil ?_
  refine g_seq ?_
  refine g_region ?_
  refine l_move rfl rfl ?_
  refine l_geq rfl rfl rfl ?_
  refine l_move rfl rfl ?_
  refine l_split 7 rfl ?_ ?_
  · intro hbr
    have hbr := of_decide_eq_true hbr
    refine l_guard_yes rfl rfl ?_
    refine l_move rfl rfl ?_
    refine l_guard_yes rfl rfl ?_
    refine l_leq rfl rfl rfl ?_
    refine l_pick_t rfl rfl rfl ?_
    refine l_move rfl rfl ?_
    refine l_split 11 rfl ?_ ?_
    · intro hbr
      have hbr := of_decide_eq_true hbr
      refine l_guard_yes rfl rfl ?_
      refine l_move rfl rfl ?_
      refine l_guard_yes rfl rfl ?_
      refine l_geq rfl rfl rfl ?_
      refine l_pick_t rfl rfl rfl ?_
      refine l_move rfl rfl ?_
      refine l_split 15 rfl ?_ ?_
      · intro hbr
        have hbr := of_decide_eq_true hbr
        refine l_guard_yes rfl rfl ?_
        refine l_move rfl rfl ?_
        refine l_guard_yes rfl rfl ?_
        refine l_leq rfl rfl rfl ?_
        refine l_pick_t rfl rfl rfl ?_
        refine l_assign rfl rfl ?_
        refine l_nil ?_
        refine g_ret Try.func52 rfl (.tmp rfl .nil) ?_
        exact Gives.mki ⟨(by first | rfl | exact congrArg Value.bool (decide_eq_true (by omega)) | exact congrArg Value.bool (decide_eq_false (by omega))), rfl⟩
      · intro hbr
        have hbr := of_decide_eq_false hbr
        (exfalso; first | omega | (simp at hbr; done))
    · intro hbr
      have hbr := of_decide_eq_false hbr
      (exfalso; first | omega | (simp at hbr; done))
  · intro hbr
    have hbr := of_decide_eq_false hbr
    (exfalso; first | omega | (simp at hbr; done))
theorem bounds_bad (w0 : World) (F : List Atom) (wd dp : Int) (hq : ¬ QOk wd dp) :
    CallK Try.prog 52 [.int .i64 wd, .int .i64 dp] w0 (F) (Gives w0 fun v F2 => v = .bool false ∧ F2 = F) := by
  unfold QOk at hq
  refine c_enter Try.func52 rfl rfl rfl ?_
  refine g_seq ?_
  refine g_region ?_
  refine l_assign rfl rfl ?_
  refine l_nil ?_
  refine g_seq ?_
  refine g_region ?_
  refine l_move rfl rfl ?_
  refine l_geq rfl rfl rfl ?_
  refine l_move rfl rfl ?_
  refine l_split 7 rfl ?_ ?_
  · intro hbr
    have hbr := of_decide_eq_true hbr
    refine l_guard_yes rfl rfl ?_
    refine l_move rfl rfl ?_
    refine l_guard_yes rfl rfl ?_
    refine l_leq rfl rfl rfl ?_
    refine l_pick_t rfl rfl rfl ?_
    refine l_move rfl rfl ?_
    refine l_split 11 rfl ?_ ?_
    · intro hbr
      have hbr := of_decide_eq_true hbr
      refine l_guard_yes rfl rfl ?_
      refine l_move rfl rfl ?_
      refine l_guard_yes rfl rfl ?_
      refine l_geq rfl rfl rfl ?_
      refine l_pick_t rfl rfl rfl ?_
      refine l_move rfl rfl ?_
      refine l_split 15 rfl ?_ ?_
      · intro hbr
        have hbr := of_decide_eq_true hbr
        refine l_guard_yes rfl rfl ?_
        refine l_move rfl rfl ?_
        refine l_guard_yes rfl rfl ?_
        refine l_leq rfl rfl rfl ?_
        refine l_pick_t rfl rfl rfl ?_
        refine l_assign rfl rfl ?_
        refine l_nil ?_
        refine g_ret Try.func52 rfl (.tmp rfl .nil) ?_
        exact Gives.mki ⟨(by first | rfl | exact congrArg Value.bool (decide_eq_true (by omega)) | exact congrArg Value.bool (decide_eq_false (by omega))), rfl⟩
      intro hbr
      have hbr := of_decide_eq_false hbr
      refine l_guard_no rfl rfl rfl ?_
      refine l_guard_no rfl rfl rfl ?_
      refine l_pick_f rfl rfl rfl ?_
      refine l_assign rfl rfl ?_
      refine l_nil ?_
      refine g_ret Try.func52 rfl (.tmp rfl .nil) ?_
      exact Gives.mki ⟨(by first | rfl | exact congrArg Value.bool (decide_eq_true (by omega)) | exact congrArg Value.bool (decide_eq_false (by omega))), rfl⟩
    intro hbr
    have hbr := of_decide_eq_false hbr
    refine l_guard_no rfl rfl rfl ?_
    refine l_guard_no rfl rfl rfl ?_
    refine l_pick_f rfl rfl rfl ?_
    refine l_move rfl rfl ?_
    refine l_guard_no rfl rfl rfl ?_
    refine l_guard_no rfl rfl rfl ?_
    refine l_pick_f rfl rfl rfl ?_
    refine l_assign rfl rfl ?_
    refine l_nil ?_
    refine g_ret Try.func52 rfl (.tmp rfl .nil) ?_
    exact Gives.mki ⟨(by first | rfl | exact congrArg Value.bool (decide_eq_true (by omega)) | exact congrArg Value.bool (decide_eq_false (by omega))), rfl⟩
  intro hbr
  have hbr := of_decide_eq_false hbr
  refine l_guard_no rfl rfl rfl ?_
  refine l_guard_no rfl rfl rfl ?_
  refine l_pick_f rfl rfl rfl ?_
  refine l_move rfl rfl ?_
  refine l_guard_no rfl rfl rfl ?_
  refine l_guard_no rfl rfl rfl ?_
  refine l_pick_f rfl rfl rfl ?_
  refine l_move rfl rfl ?_
  refine l_guard_no rfl rfl rfl ?_
  refine l_guard_no rfl rfl rfl ?_
  refine l_pick_f rfl rfl rfl ?_
  refine l_assign rfl rfl ?_
  refine l_nil ?_
  refine g_ret Try.func52 rfl (.tmp rfl .nil) ?_
  exact Gives.mki ⟨(by first | rfl | exact congrArg Value.bool (decide_eq_true (by omega)) | exact congrArg Value.bool (decide_eq_false (by omega))), rfl⟩
theorem fits_in (w0 : World) (F : List Atom) (a : Option Addr) (n c k : Nat) (at_ : Int) (at_0 : -9223372036854775808 ≤ at_) (at_1 : at_ ≤ 9223372036854775807) (hn : n ≤ 1073741824) (hk : k ≤ 1000) (hi : inR n at_ (k : Int)) :
    CallK Try.prog 56 [.slice a n c, .int .i64 at_, .int .i64 (k : Int)] w0 (F) (Gives w0 fun v F2 => v = .bool true ∧ F2 = F) := by
  unfold inR at hi
  refine c_enter Try.func56 rfl rfl rfl ?_
  refine g_seq ?_
  refine g_region ?_
  refine l_assign rfl rfl ?_
  refine l_nil ?_
  refine g_seq ?_
  refine g_region ?_
  refine l_move rfl rfl ?_
  refine l_geq rfl rfl rfl ?_
  refine l_move rfl rfl ?_
  refine l_split 9 rfl ?_ ?_
  · intro hbr
    have hbr := of_decide_eq_true hbr
    refine l_guard_yes rfl rfl ?_
    refine l_move rfl rfl ?_
    refine l_guard_yes rfl rfl ?_
    refine l_move rfl rfl ?_
    refine l_guard_yes rfl rfl ?_
    refine l_len rfl Try.underlying29 rfl ?_
    refine l_guard_yes rfl rfl ?_
    refine l_leq rfl rfl rfl ?_
    refine l_pick_t rfl rfl rfl ?_
    refine l_move rfl rfl ?_
    refine l_split 15 rfl ?_ ?_
    · intro hbr
      have hbr := of_decide_eq_true hbr
      refine l_guard_yes rfl rfl ?_
      refine l_move rfl rfl ?_
      refine l_guard_yes rfl rfl ?_
      refine l_move rfl rfl ?_
      refine l_guard_yes rfl rfl ?_
      refine l_len rfl Try.underlying29 rfl ?_
      refine l_guard_yes rfl rfl ?_
      refine l_move rfl rfl ?_
      refine l_guard_yes rfl rfl ?_
      first | refine l_sub_ rfl rfl rfl (w_i64 (by omega) (by omega)) ?_ | refine l_subw rfl rfl rfl ?_
      refine l_guard_yes rfl rfl ?_
      refine l_leq rfl rfl rfl ?_
      refine l_pick_t rfl rfl rfl ?_
      refine l_assign rfl rfl ?_
      refine l_nil ?_
      refine g_ret Try.func56 rfl (.tmp rfl .nil) ?_
      exact Gives.mki ⟨(by first | rfl | exact congrArg Value.bool (decide_eq_true (by omega)) | exact congrArg Value.bool (decide_eq_false (by omega))), rfl⟩
    · intro hbr
      have hbr := of_decide_eq_false hbr
      (exfalso; first | omega | (simp at hbr; done))
  · intro hbr
    have hbr := of_decide_eq_false hbr
    (exfalso; first | omega | (simp at hbr; done))
theorem fits_out (w0 : World) (F : List Atom) (a : Option Addr) (n c k : Nat) (at_ : Int) (at_0 : -9223372036854775808 ≤ at_) (at_1 : at_ ≤ 9223372036854775807) (hn : n ≤ 1073741824) (hk : k ≤ 1000) (hi : ¬ inR n at_ (k : Int)) :
    CallK Try.prog 56 [.slice a n c, .int .i64 at_, .int .i64 (k : Int)] w0 (F) (Gives w0 fun v F2 => v = .bool false ∧ F2 = F) := by
  unfold inR at hi
  refine c_enter Try.func56 rfl rfl rfl ?_
  refine g_seq ?_
  refine g_region ?_
  refine l_assign rfl rfl ?_
  refine l_nil ?_
  refine g_seq ?_
  refine g_region ?_
  refine l_move rfl rfl ?_
  refine l_geq rfl rfl rfl ?_
  refine l_move rfl rfl ?_
  refine l_split 9 rfl ?_ ?_
  · intro hbr
    have hbr := of_decide_eq_true hbr
    refine l_guard_yes rfl rfl ?_
    refine l_move rfl rfl ?_
    refine l_guard_yes rfl rfl ?_
    refine l_move rfl rfl ?_
    refine l_guard_yes rfl rfl ?_
    refine l_len rfl Try.underlying29 rfl ?_
    refine l_guard_yes rfl rfl ?_
    refine l_leq rfl rfl rfl ?_
    refine l_pick_t rfl rfl rfl ?_
    refine l_move rfl rfl ?_
    refine l_split 15 rfl ?_ ?_
    · intro hbr
      have hbr := of_decide_eq_true hbr
      refine l_guard_yes rfl rfl ?_
      refine l_move rfl rfl ?_
      refine l_guard_yes rfl rfl ?_
      refine l_move rfl rfl ?_
      refine l_guard_yes rfl rfl ?_
      refine l_len rfl Try.underlying29 rfl ?_
      refine l_guard_yes rfl rfl ?_
      refine l_move rfl rfl ?_
      refine l_guard_yes rfl rfl ?_
      first | refine l_sub_ rfl rfl rfl (w_i64 (by omega) (by omega)) ?_ | refine l_subw rfl rfl rfl ?_
      refine l_guard_yes rfl rfl ?_
      refine l_leq rfl rfl rfl ?_
      refine l_pick_t rfl rfl rfl ?_
      refine l_assign rfl rfl ?_
      refine l_nil ?_
      refine g_ret Try.func56 rfl (.tmp rfl .nil) ?_
      exact Gives.mki ⟨(by first | rfl | exact congrArg Value.bool (decide_eq_true (by omega)) | exact congrArg Value.bool (decide_eq_false (by omega))), rfl⟩
    intro hbr
    have hbr := of_decide_eq_false hbr
    refine l_guard_no rfl rfl rfl ?_
    refine l_guard_no rfl rfl rfl ?_
    refine l_guard_no rfl rfl rfl ?_
    refine l_guard_no rfl rfl rfl ?_
    refine l_guard_no rfl rfl rfl ?_
    refine l_guard_no rfl rfl rfl ?_
    refine l_pick_f rfl rfl rfl ?_
    refine l_assign rfl rfl ?_
    refine l_nil ?_
    refine g_ret Try.func56 rfl (.tmp rfl .nil) ?_
    exact Gives.mki ⟨(by first | rfl | exact congrArg Value.bool (decide_eq_true (by omega)) | exact congrArg Value.bool (decide_eq_false (by omega))), rfl⟩
  intro hbr
  have hbr := of_decide_eq_false hbr
  refine l_guard_no rfl rfl rfl ?_
  refine l_guard_no rfl rfl rfl ?_
  refine l_guard_no rfl rfl rfl ?_
  refine l_guard_no rfl rfl rfl ?_
  refine l_pick_f rfl rfl rfl ?_
  refine l_move rfl rfl ?_
  refine l_guard_no rfl rfl rfl ?_
  refine l_guard_no rfl rfl rfl ?_
  refine l_guard_no rfl rfl rfl ?_
  refine l_guard_no rfl rfl rfl ?_
  refine l_guard_no rfl rfl rfl ?_
  refine l_guard_no rfl rfl rfl ?_
  refine l_pick_f rfl rfl rfl ?_
  refine l_assign rfl rfl ?_
  refine l_nil ?_
  refine g_ret Try.func56 rfl (.tmp rfl .nil) ?_
  exact Gives.mki ⟨(by first | rfl | exact congrArg Value.bool (decide_eq_true (by omega)) | exact congrArg Value.bool (decide_eq_false (by omega))), rfl⟩
theorem stw_ok (w0 : World) (F : List Atom) (wd dp : Nat) (w1 : 1 ≤ wd) (w2 : wd ≤ 16) (d1 : 1 ≤ dp) (d2 : dp ≤ 8) :
    CallK Try.prog 32 [.int .i64 (wd : Int), .int .i64 (dp : Int)] w0 (F) (Gives w0 fun v F2 => v = .int .i64 ((1 + dp * (1 + wd) : Nat) : Int) ∧ F2 = F) := by
  have hpw := pw_bd w1 w2 d1 d2
  have hpi : (dp : Int) * (1 + (wd : Int)) = ((dp * (1 + wd) : Nat) : Int) := by rw [Int.natCast_mul, Int.natCast_add]; rfl
  refine c_enter Try.func32 rfl rfl rfl ?_
  refine g_seq ?_
  refine g_region ?_
  refine l_assign rfl rfl ?_
  refine l_nil ?_
  refine g_seq ?_
  refine g_region ?_
  refine l_move rfl rfl ?_
  refine l_move rfl rfl ?_
  first | refine l_add rfl rfl rfl (w_i64 (by omega) (by omega)) ?_ | refine l_addw rfl rfl rfl ?_
  refine l_mul rfl rfl rfl (by rw [hpi]; exact w_i64 (by omega) (by omega)) ?_
  rw [hpi]
  first | refine l_add rfl rfl rfl (w_i64 (by omega) (by omega)) ?_ | refine l_addw rfl rfl rfl ?_
  refine l_assign rfl rfl ?_
  refine l_nil ?_
  refine g_ret Try.func32 rfl (.tmp rfl .nil) ?_
  exact Gives.mki ⟨congrArg (Value.int .i64) (by omega), rfl⟩
theorem ptw_ok (w0 : World) (F : List Atom) (wd dp : Nat) (w1 : 1 ≤ wd) (w2 : wd ≤ 16) (d1 : 1 ≤ dp) (d2 : dp ≤ 8) :
    CallK Try.prog 33 [.int .i64 (wd : Int), .int .i64 (dp : Int)] w0 (F) (Gives w0 fun v F2 => v = .int .i64 ((3 + dp * (1 + wd) : Nat) : Int) ∧ F2 = F) := by
  have hpw := pw_bd w1 w2 d1 d2
  have hpi : (dp : Int) * (1 + (wd : Int)) = ((dp * (1 + wd) : Nat) : Int) := by rw [Int.natCast_mul, Int.natCast_add]; rfl
  refine c_enter Try.func33 rfl rfl rfl ?_
  refine g_seq ?_
  refine g_region ?_
  refine l_assign rfl rfl ?_
  refine l_nil ?_
  refine g_seq ?_
  refine g_region ?_
  refine l_move rfl rfl ?_
  refine l_move rfl rfl ?_
  first | refine l_add rfl rfl rfl (w_i64 (by omega) (by omega)) ?_ | refine l_addw rfl rfl rfl ?_
  refine l_mul rfl rfl rfl (by rw [hpi]; exact w_i64 (by omega) (by omega)) ?_
  rw [hpi]
  first | refine l_add rfl rfl rfl (w_i64 (by omega) (by omega)) ?_ | refine l_addw rfl rfl rfl ?_
  refine l_assign rfl rfl ?_
  refine l_nil ?_
  refine g_ret Try.func33 rfl (.tmp rfl .nil) ?_
  exact Gives.mki ⟨congrArg (Value.int .i64) (by omega), rfl⟩
theorem copied_ok (w0 : World) (F : List Atom) (b o n c : Nat) (W : List Int) (hD : DR w0 F b o n W) (hn : n ≤ 1073741824) :
    CallK Try.prog 54 [.slice (some ⟨b, o, none⟩) n c] w0 (F) (Gives w0 fun v F2 => ∃ g, v = .slice (some ⟨g, 0, none⟩) n n ∧ F2 = Own 33 1 (.slice (some ⟨g, 0, none⟩) n n) n (ints .u32 W) :: F) := by
  have hWl := hD.1
  refine c_enter Try.func54 rfl rfl rfl ?_
  refine g_seq ?_
  refine g_region ?_
  refine l_assign rfl rfl ?_
  refine l_nil ?_
  refine g_seq ?_
  refine g_region ?_
  refine l_move rfl rfl ?_
  refine l_len rfl Try.underlying29 rfl ?_
  refine l_makew rfl Try.underlying29 Try.type33 rfl rfl rfl rfl (by omega) (by show (4 : Int) * _ ≤ _; omega) (by omega) ?_; intro b6; rw [Int.toNat_natCast]
  refine l_assign rfl rfl ?_
  refine l_nil ?_
  refine g_seq ?_
  refine g_region ?_
  refine l_move rfl rfl ?_
  refine l_move rfl rfl ?_
  refine l_copyw 0 (W := W) rfl Try.underlying29 Try.sizeOf33 rfl rfl rfl ⟨by rw [ints_length]; omega, .inl ⟨_, _, _, rfl, hD.2.1.ex⟩⟩ (by first | (simp; done) | (simp; omega)) (by rw [show W.take (min n n) = W from List.take_of_length_le (by omega)]; rfl) ?_
  rw [show spl 0 W (List.replicate n 0) = W by unfold spl; simp [hWl]]
  refine l_nil ?_
  refine g_seq ?_
  refine g_region ?_
  refine l_move rfl rfl ?_
  refine l_assign rfl rfl ?_
  refine l_nil ?_
  refine g_ret Try.func54 rfl (.tmp rfl .nil) ?_
  exact Gives.mki ⟨b6, rfl, rfl⟩
set_option maxHeartbeats 2000000 in
theorem rplace_ok (w0 : World) (F : List Atom) (b o n c : Nat) (W : List Int) (hD : DR w0 F b o n W) (hn : n ≤ 1073741824) (at_ : Int) (wd : Nat) (w1 : 1 ≤ wd) (w2 : wd ≤ 16) (hi : inR n at_ ((1 + wd : Nat) : Int)) :
    CallK Try.prog 63 [.slice (some ⟨b, o, none⟩) n c, .int .i64 at_, .int .i64 (wd : Int)] w0 (F) (Gives w0 fun v F2 => ∃ a q c2 T m, v = .tuple #[.slice a q c2, .int .i64 m] ∧ T.length = q ∧ (q = 0 ∨ ∃ g2, a = some ⟨g2, 0, none⟩) ∧ F2 = Own 33 1 (.slice a q c2) q (ints .u32 T) :: F ∧ ((m = (q : Int) ∧ plV (stL W at_ (1 + wd)) = some T) ∨ (m = -1 ∧ T = [] ∧ plV (stL W at_ (1 + wd)) = none))) := by
  have hWl := hD.1
  have hU := hD.2.2
  have hi2 := hi
  unfold inR at hi2
  have hsl := stL_len hWl hi
  obtain ⟨k, hk⟩ := Int.eq_ofNat_of_zero_le (hU at_.toNat).1
  have hkb := (hU at_.toNat).2
  have hk0 : (stL W at_ (1 + wd)).getD 0 0 = (k : Int) := by rw [stL_getD (by omega)]; exact hk
  rw [hk] at hkb
  refine c_enter Try.func63 rfl rfl rfl ?_
  refine g_seq ?_
  refine g_region ?_
  refine l_assign rfl rfl ?_
  refine l_assign rfl rfl ?_
  refine l_nil ?_
  refine g_seq ?_
  refine g_region ?_
  refine l_move rfl rfl ?_
  refine l_move rfl rfl ?_
  refine l_ixs rfl Try.underlying29 Try.sizeOf33 rfl rfl (by omega) (by omega) ?_
  refine l_loadc (v := .int .u32 (W.getD at_.toNat 0)) rfl Try.isAgg33 rfl (word_any (j := at_.toNat) hD.2.1 (by omega)) ?_
  rw [hk]
  first | refine l_conv rfl Try.underlying33 Try.underlying3 rfl (w_i64 (by omega) (by omega)) ?_ | refine l_convw rfl Try.underlying33 Try.underlying3 rfl ?_
  refine l_assign rfl rfl ?_
  refine l_nil ?_
  refine g_seq ?_
  refine g_seq ?_
  refine g_region ?_
  refine l_move rfl rfl ?_
  refine l_move rfl rfl ?_
  refine l_gtr rfl rfl rfl ?_
  refine l_nil ?_
  refine g_cond rfl ?_ ?_
  · intro hbr
    have hbr := of_decide_eq_true hbr
    refine g_seq ?_
    refine g_region ?_
    refine l_assign rfl rfl ?_
    refine l_assign rfl rfl ?_
    refine l_nil ?_
    refine g_wnil 33 .u32 ?_
    refine g_ret Try.func63 rfl (.tmp rfl (.tmp rfl .nil)) ?_
    (first | exact Gives.mki ⟨none, 0, 0, [], -1, rfl, rfl, .inl rfl, rfl, .inr ⟨rfl, rfl, plV_long (by rw [hk0, hsl]; omega)⟩⟩ | exact Gives.mki ⟨none, 0, 0, [], -1, rfl, rfl, .inl rfl, rfl, .inr ⟨rfl, rfl, plV_not (i := 1 + i.toNat) (by rw [hk0]; omega) (by omega) (by rw [stL_getD (by omega), show at_.toNat + (1 + i.toNat) = (at_ + 1 + i).toNat by omega]; exact hnz)⟩⟩ | exact Gives.mki ⟨some ⟨b35, 0, none⟩, k, k, (W.drop (at_.toNat + 1)).take k, (k : Int), rfl, by rw [List.length_take, List.length_drop]; omega, .inr ⟨_, rfl⟩, rfl, .inl ⟨rfl, plV_in hsl hk0 (by omega) (fun j h1 h2 => hz j h1 (by omega))⟩⟩)
  intro hbr
  have hbr := of_decide_eq_false hbr
  refine g_skip ?_
  refine g_seq ?_
  refine g_seq ?_
  refine g_region ?_
  refine l_move rfl rfl ?_
  refine l_assign rfl rfl ?_
  refine l_nil ?_
  refine g_block ?_
  refine g_loopc (X := Int) [(0, _), (1, _), (2, _), (8, _)] (.cons rfl (.cons rfl (.cons rfl (.cons rfl (.nil))))) (fun i => (k : Int) ≤ i ∧ i ≤ wd ∧ ∀ j : Nat, k ≤ j → (j : Int) < i → W.getD (at_.toNat + 1 + j) 0 = 0) (fun i => ((wd : Int) - i).toNat) (fun i => [(9, .int .i64 i)]) ((k : Int)) (⟨by omega, by omega, fun j h1 h2 => by omega⟩) (.cons rfl .nil) ?_
  rintro i ⟨i0, i1, hz⟩ ih
  dsimp only [List.cons_append, List.nil_append] at ih ⊢
  refine g_seq ?_
  refine g_seq ?_
  refine g_region ?_
  refine l_move rfl rfl ?_
  refine l_move rfl rfl ?_
  refine l_lss rfl rfl rfl ?_
  refine l_nil ?_
  refine g_cond rfl ?_ ?_
  · intro hbr
    have hbr := of_decide_eq_true hbr
    refine g_skip ?_
    refine g_seq ?_
    refine g_block ?_
    refine g_seq ?_
    refine g_region ?_
    refine l_move rfl rfl ?_
    refine l_move rfl rfl ?_
    first | refine l_add rfl rfl rfl (w_i64 (by omega) (by omega)) ?_ | refine l_addw rfl rfl rfl ?_
    refine l_move rfl rfl ?_
    first | refine l_add rfl rfl rfl (w_i64 (by omega) (by omega)) ?_ | refine l_addw rfl rfl rfl ?_
    refine l_ixs rfl Try.underlying29 Try.sizeOf33 rfl rfl (by omega) (by omega) ?_
    refine l_loadc (v := .int .u32 (W.getD (at_ + 1 + i).toNat 0)) rfl Try.isAgg33 rfl (word_any (j := (at_ + 1 + i).toNat) hD.2.1 (by omega)) ?_
    refine l_neq rfl rfl rfl ?_
    refine l_nil ?_
    refine g_cond rfl ?_ ?_
    · intro hbr
      have hbr := of_decide_eq_true hbr
      refine g_seq ?_
      refine g_region ?_
      have hnz : W.getD (at_ + 1 + i).toNat 0 ≠ 0 := by first | exact hbr | (intro h9; simp [h9] at hbr)
      refine l_assign rfl rfl ?_
      refine l_assign rfl rfl ?_
      refine l_nil ?_
      refine g_wnil 33 .u32 ?_
      refine g_ret Try.func63 rfl (.tmp rfl (.tmp rfl .nil)) ?_
      (first | exact Gives.mki ⟨none, 0, 0, [], -1, rfl, rfl, .inl rfl, rfl, .inr ⟨rfl, rfl, plV_long (by rw [hk0, hsl]; omega)⟩⟩ | exact Gives.mki ⟨none, 0, 0, [], -1, rfl, rfl, .inl rfl, rfl, .inr ⟨rfl, rfl, plV_not (i := 1 + i.toNat) (by rw [hk0]; omega) (by omega) (by rw [stL_getD (by omega), show at_.toNat + (1 + i.toNat) = (at_ + 1 + i).toNat by omega]; exact hnz)⟩⟩ | exact Gives.mki ⟨some ⟨b35, 0, none⟩, k, k, (W.drop (at_.toNat + 1)).take k, (k : Int), rfl, by rw [List.length_take, List.length_drop]; omega, .inr ⟨_, rfl⟩, rfl, .inl ⟨rfl, plV_in hsl hk0 (by omega) (fun j h1 h2 => hz j h1 (by omega))⟩⟩)
    intro hbr
    have hbr := of_decide_eq_false hbr
    refine g_skip ?_
    refine g_inBlock ?_
    refine g_region ?_
    refine l_move rfl rfl ?_
    first | refine l_add rfl rfl rfl (w_i64 (by omega) (by omega)) ?_ | refine l_addw rfl rfl rfl ?_
    refine l_assign rfl rfl ?_
    refine l_nil ?_
    exact g_againi (ih (i + 1) ⟨by omega, by omega, fun j h1 h2 => by rcases (show (j : Int) < i ∨ j = i.toNat by omega) with h | rfl; exact hz j h1 h; (rw [show at_.toNat + 1 + i.toNat = (at_ + 1 + i).toNat by omega]; omega)⟩ (by omega)) (.cons rfl (.cons rfl (.cons rfl (.cons rfl (.cons rfl (.nil))))))
  intro hbr
  have hbr := of_decide_eq_false hbr
  refine g_exit rfl ?_
  obtain rfl : i = wd := by omega
  refine g_seq ?_
  refine g_region ?_
  refine l_move rfl rfl ?_
  refine l_makew rfl Try.underlying29 Try.type33 rfl rfl rfl rfl (by omega) (by show (4 : Int) * _ ≤ _; omega) (by omega) ?_; intro b35; rw [Int.toNat_natCast]
  refine l_assign rfl rfl ?_
  refine l_nil ?_
  refine g_seq ?_
  refine g_seq ?_
  refine g_region ?_
  refine l_assign rfl rfl ?_
  refine l_nil ?_
  refine g_block ?_
  refine g_loopk (X := Int × List Int) [(0, _), (1, _), (8, _), (10, _)] (.cons rfl (.cons rfl (.cons rfl (.cons rfl (.nil))))) (fun z => 0 ≤ z.1 ∧ z.1 ≤ k ∧ z.2.length = k ∧ ∀ j : Nat, (j : Int) < z.1 → z.2.getD j 0 = W.getD (at_.toNat + 1 + j) 0) (fun z => ((k : Int) - z.1).toNat) (fun z => [(11, .int .i64 z.1)]) (fun z => Own 33 1 (.slice (some ⟨b35, 0, none⟩) k k) k (ints .u32 z.2) :: F) (((0 : Int), List.replicate k 0)) (⟨by simp only; omega, by simp only; omega, List.length_replicate, fun j hj => by simp only at hj; omega⟩) (.cons rfl .nil) (fun w hw => SPI.holds hw) ?_
  rintro ⟨i, X⟩ ⟨i0, i1, hX, hx⟩ ihq
  dsimp only [List.cons_append, List.nil_append] at ihq ⊢
  simp only at i0 i1 hX hx
  refine g_seq ?_
  refine g_seq ?_
  refine g_region ?_
  refine l_move rfl rfl ?_
  refine l_move rfl rfl ?_
  refine l_lss rfl rfl rfl ?_
  refine l_nil ?_
  refine g_cond rfl ?_ ?_
  · intro hbr
    have hbr := of_decide_eq_true hbr
    refine g_skip ?_
    refine g_seq ?_
    refine g_block ?_
    refine g_region ?_
    refine l_move rfl rfl ?_
    refine l_move rfl rfl ?_
    refine l_move rfl rfl ?_
    refine l_move rfl rfl ?_
    first | refine l_add rfl rfl rfl (w_i64 (by omega) (by omega)) ?_ | refine l_addw rfl rfl rfl ?_
    refine l_move rfl rfl ?_
    first | refine l_add rfl rfl rfl (w_i64 (by omega) (by omega)) ?_ | refine l_addw rfl rfl rfl ?_
    refine l_ixs rfl Try.underlying29 Try.sizeOf33 rfl rfl (by omega) (by omega) ?_
    refine l_loadc (v := .int .u32 (W.getD (at_ + 1 + i).toNat 0)) rfl Try.isAgg33 rfl (word_any (j := (at_ + 1 + i).toNat) hD.2.1 (by omega)) ?_
    refine l_ixs rfl Try.underlying29 Try.sizeOf33 rfl rfl (by omega) (by omega) ?_
    refine l_storew 0 Try.sizeOf33 rfl rfl rfl (by omega) rfl ?_
    refine l_nil ?_
    refine g_inBlock ?_
    refine g_region ?_
    refine l_move rfl rfl ?_
    first | refine l_add rfl rfl rfl (w_i64 (by omega) (by omega)) ?_ | refine l_addw rfl rfl rfl ?_
    refine l_assign rfl rfl ?_
    refine l_nil ?_
    exact g_againi (ihq (i + 1, X.set i.toNat (W.getD (at_ + 1 + i).toNat 0)) ⟨by simp only; omega, by simp only; omega, by simp only [List.length_set]; exact hX, fun j hj => by simp only at hj ⊢; rw [set_gd (by omega)]; split; (subst_vars; rw [show (at_ + 1 + i).toNat = at_.toNat + 1 + i.toNat by omega]); exact hx j (by omega)⟩ (by simp only; omega)) (.cons rfl (.cons rfl (.cons rfl (.cons rfl (.cons rfl (.nil))))))
  intro hbr
  have hbr := of_decide_eq_false hbr
  refine g_exit rfl ?_
  obtain rfl : i = k := by omega
  obtain rfl : X = (W.drop (at_.toNat + 1)).take k := xl_ext (by rw [hX, List.length_take, List.length_drop]; omega) (fun j hj => by rw [List.length_take, List.length_drop] at hj; rw [hx j (by omega), getD_part, if_pos (by omega)])
  refine g_seq ?_
  refine g_region ?_
  refine l_move rfl rfl ?_
  refine l_move rfl rfl ?_
  refine l_assign rfl rfl ?_
  refine l_assign rfl rfl ?_
  refine l_nil ?_
  refine g_ret Try.func63 rfl (.tmp rfl (.tmp rfl .nil)) ?_
  (first | exact Gives.mki ⟨none, 0, 0, [], -1, rfl, rfl, .inl rfl, rfl, .inr ⟨rfl, rfl, plV_long (by rw [hk0, hsl]; omega)⟩⟩ | exact Gives.mki ⟨none, 0, 0, [], -1, rfl, rfl, .inl rfl, rfl, .inr ⟨rfl, rfl, plV_not (i := 1 + i.toNat) (by rw [hk0]; omega) (by omega) (by rw [stL_getD (by omega), show at_.toNat + (1 + i.toNat) = (at_ + 1 + i).toNat by omega]; exact hnz)⟩⟩ | exact Gives.mki ⟨some ⟨b35, 0, none⟩, k, k, (W.drop (at_.toNat + 1)).take k, (k : Int), rfl, by rw [List.length_take, List.length_drop]; omega, .inr ⟨_, rfl⟩, rfl, .inl ⟨rfl, plV_in hsl hk0 (by omega) (fun j h1 h2 => hz j h1 (by omega))⟩⟩)
set_option maxHeartbeats 4000000 in
theorem rrow_ok (w0 : World) (F : List Atom) (wd dp : Nat) (w1 : 1 ≤ wd) (w2 : wd ≤ 16) (d1 : 1 ≤ dp) (d2 : dp ≤ 8) (b o n c : Nat) (W : List Int) (hD : DR w0 F b o n W) (hn : n ≤ 1073741824) (at_ : Int) (hi : inR n at_ ((dp * (1 + wd)) : Nat)) (first many : Nat) (hf : first < dp) (hm : many ≤ dp) :
    CallK Try.prog 61 [.slice (some ⟨b, o, none⟩) n c, .int .i64 at_, .int .i64 (wd : Int), .int .i64 (dp : Int), .int .i64 (first : Int), .int .i64 (many : Int)] w0 (F) (Gives w0 fun v F2 => ∃ fi ao co ms Ts ok, v = .tuple #[.agg #[.int .i64 fi, .slice ao ms.length co, .int .u32 0], .bool ok] ∧ F2 = Own 29 1 (.slice ao ms.length co) ms.length (ms.map lvV) :: BigF ms.length (fun j => Own 33 1 (.slice (lat ms j).a (lat ms j).n (lat ms j).c) (lat ms j).n (ints .u32 (tat Ts j))) :: F ∧ MsOk ms Ts ∧ (ms.length = 0 ∨ ∃ g, ao = some ⟨g, 0, none⟩) ∧ (ok = true → fi = (first : Int)) ∧ RowR (stL W at_ (dp * (1 + wd))) wd dp first many Ts ok) := by
  have hpw := pw_bd w1 w2 d1 d2
  have hi2 := hi
  unfold inR at hi2
  refine c_enter Try.func61 rfl rfl rfl ?_
  refine g_seq ?_
  refine g_region ?_
  refine l_allocs rfl Try.zeroValue97 ?_; intro b12
  refine l_assign rfl rfl ?_
  refine l_nil ?_
  refine g_seq ?_
  refine g_region ?_
  refine l_move rfl rfl ?_
  refine l_build rfl rfl (fun w => bd_97_0 _ w) ?_
  refine l_allocs rfl Try.zeroValue97 ?_; intro b14
  refine l_sts Try.sizeOf97 rfl rfl rfl rfl rfl ?_
  refine l_nil ?_
  refine g_seq ?_
  refine g_seq ?_
  refine g_region ?_
  refine l_assign rfl rfl ?_
  refine l_nil ?_
  refine g_block ?_
  refine g_own_nil 29 1 ?_
  refine g_loopk (X := Int × Option Addr × Nat × List LV × List (List Int)) [(0, _), (1, _), (2, _), (3, _), (4, _), (5, _), (12, _), (14, _)] (.cons rfl (.cons rfl (.cons rfl (.cons rfl (.cons rfl (.cons rfl (.cons rfl (.cons rfl (.nil))))))))) (fun z => 0 ≤ z.1 ∧ z.1 ≤ dp ∧ RowC (stL W at_ (dp * (1 + wd))) wd dp first many z.1.toNat ∧ z.2.2.2.2 = rowT (stL W at_ (dp * (1 + wd))) wd dp first (min z.1.toNat many) ∧ MsOk z.2.2.2.1 z.2.2.2.2 ∧ (z.2.2.2.1.length = 0 ∨ ∃ g, z.2.1 = some ⟨g, 0, none⟩)) (fun z => (dp - z.1).toNat) (fun z => [(15, .int .i64 z.1)]) (fun z => Own 29 1 (.slice z.2.1 z.2.2.2.1.length z.2.2.1) z.2.2.2.1.length (z.2.2.2.1.map lvV) :: BigF z.2.2.2.1.length (fun j => Own 33 1 (.slice (lat z.2.2.2.1 j).a (lat z.2.2.2.1 j).n (lat z.2.2.2.1 j).c) (lat z.2.2.2.1 j).n (ints .u32 (tat z.2.2.2.2 j))) :: Blk b14 (.cells [Value.int .i64 (first : Int), .slice z.2.1 z.2.2.2.1.length z.2.2.1, .int .u32 0].toArray 97 (0, 0)) :: Blk b12 (.cells [Value.int .i64 0, .slice none 0 0, .int .u32 0].toArray 97 (0, 0)) :: F) ((0, none, 0, [], [])) (⟨by simp only; omega, by simp only; omega, fun j hj => by simp at hj, by simp [rowT], MsOk.nil, .inl rfl⟩) (.cons rfl .nil) ((fun w hw => zero1 hw _)) ?_
  rintro ⟨i, ao, co, ms, Ts⟩ ⟨i0, i1, hC, hTs, hMs, hao⟩ ih
  dsimp only [List.cons_append, List.nil_append] at ih ⊢
  simp only at i0 i1 hC hTs hMs hao
  have hml : Ts.length = min i.toNat many := by rw [hTs, rowT_len]
  have hme := hMs.1
  refine g_seq ?_
  refine g_seq ?_
  refine g_region ?_
  refine l_move rfl rfl ?_
  refine l_move rfl rfl ?_
  refine l_lss rfl rfl rfl ?_
  refine l_nil ?_
  refine g_cond rfl ?_ ?_
  · intro hbr
    have hbr := of_decide_eq_true hbr
    refine g_skip ?_
    refine g_seq ?_
    refine g_block ?_
    refine g_seq ?_
    refine g_region ?_
    refine l_move rfl rfl ?_
    refine l_move rfl rfl ?_
    first | refine l_add rfl rfl rfl (w_i64 (by omega) (by omega)) ?_ | refine l_addw rfl rfl rfl ?_
    refine l_move rfl rfl ?_
    have hmn := mod_nat (first := first) (dp := dp) i0 (by omega)
    have hmn2 := hmn.2
    refine l_rem rfl rfl rfl (by omega) (by omega) (by rw [hmn.1]; exact w_i64 (by omega) (by omega)) ?_
    rw [hmn.1]
    obtain ⟨kk, hke⟩ : ∃ kk, (first + i.toNat) % dp = kk := ⟨_, rfl⟩
    rw [hke] at hmn2 ⊢
    clear hmn
    have hkd : kk < dp := hmn2
    obtain ⟨p0, p1, p2, p3, p4⟩ := piece_bd w1 w2 d2 hkd
    have hkb := kp_bd (wd := wd) hkd
    have hkn : (kk : Int) * (1 + (wd : Int)) = ((kk * (1 + wd) : Nat) : Int) := by rw [Int.natCast_mul, Int.natCast_add]; rfl
    refine l_assign rfl rfl ?_
    refine l_nil ?_
    refine g_seq ?_
    refine g_region ?_
    refine l_move rfl rfl ?_
    refine l_move rfl rfl ?_
    refine l_move rfl rfl ?_
    refine l_move rfl rfl ?_
    first | refine l_add rfl rfl rfl (w_i64 (by omega) (by omega)) ?_ | refine l_addw rfl rfl rfl ?_
    first | refine l_mul rfl rfl rfl (w_i64 (by omega) (by omega)) ?_ | refine l_mulw rfl rfl rfl ?_
    first | refine l_add rfl rfl rfl (w_i64 (by omega) (by omega)) ?_ | refine l_addw rfl rfl rfl ?_
    refine l_move rfl rfl ?_
    rw [hkn]
    refine l_call rfl Try.call63 rfl (rplace_ok _ _ b o n c W hD.ex hn (at_ + ((kk * (1 + wd) : Nat) : Int)) wd w1 w2 (by unfold inR; omega)) ?_; rintro _ _ ⟨a2, q2, c2, T, m, rfl, hT, ha2, rfl, hM⟩
    rw [← piece_stL (W := W) (a := at_) (K := (dp * (1 + wd))) (kk := kk) (wd := wd) (by omega) (by omega) rfl] at hM
    refine l_move rfl rfl ?_
    refine l_extract rfl rfl rfl ?_
    refine l_extract rfl rfl rfl ?_
    refine l_assign rfl rfl ?_
    refine l_assign rfl rfl ?_
    refine l_nil ?_
    refine g_seq ?_
    refine g_seq ?_
    refine g_region ?_
    refine l_move rfl rfl ?_
    refine l_lss rfl rfl rfl ?_
    refine l_move rfl rfl ?_
    refine l_split 45 rfl ?_ ?_
    · intro hbr
      have hbr := of_decide_eq_true hbr
      refine l_guard_no rfl rfl rfl ?_
      refine l_guard_no rfl rfl rfl ?_
      refine l_guard_no rfl rfl rfl ?_
      refine l_guard_no rfl rfl rfl ?_
      refine l_guard_no rfl rfl rfl ?_
      refine l_guard_no rfl rfl rfl ?_
      refine l_pick_t rfl rfl rfl ?_
      refine l_nil ?_
      first | refine g_cond_t rfl ?_ | refine g_cond_t (congrArg (fun b => some (Value.bool b)) (decide_eq_true hbr)) ?_
      refine g_seq ?_
      refine g_region ?_
      refine l_build rfl rfl (fun w => bd_97_z w) ?_
      refine l_sts Try.sizeOf97 rfl rfl rfl rfl rfl ?_
      refine l_assign rfl rfl ?_
      refine l_nil ?_
      refine g_own_nil 29 1 ?_
      refine g_heap (F' := Own 29 1 (.slice none ([] : List LV).length 0) ([] : List LV).length (([] : List LV).map lvV) :: BigF ([] : List LV).length (fun j => Own 33 1 (.slice (lat ([] : List LV) j).a (lat ([] : List LV) j).n (lat ([] : List LV) j).c) (lat ([] : List LV) j).n (ints .u32 (tat ([] : List (List Int)) j))) :: _) (fun w hw => zero1 hw _) ?_
      refine g_ret Try.func61 rfl (.cis rfl Try.isAgg97 Try.sizeOf97 rfl (.tmp rfl .nil)) ?_
      exact Gives.mki ⟨0, none, 0, [], [], false, rfl, rfl, MsOk.nil, .inl rfl, (fun h => nomatch h), RowR.no2 (i := i.toNat) (by omega) (by unfold pieceV; rw [hke]; rcases hM with ⟨h, _⟩ | ⟨_, _, h⟩; (exfalso; omega); exact h)⟩
    intro hbr
    have hbr := of_decide_eq_false hbr
    refine l_guard_yes rfl rfl ?_
    refine l_move rfl rfl ?_
    refine l_guard_yes rfl rfl ?_
    refine l_move rfl rfl ?_
    refine l_guard_yes rfl rfl ?_
    refine l_lss rfl rfl rfl ?_
    refine l_guard_yes rfl rfl ?_
    refine l_move rfl rfl ?_
    refine l_guard_yes rfl rfl ?_
    refine l_gtr rfl rfl rfl ?_
    refine l_guard_yes rfl rfl ?_
    refine l_neqb rfl Try.underlying4 rfl rfl ?_
    refine l_pick_f rfl rfl rfl ?_
    refine l_nil ?_
    refine g_cond rfl ?_ ?_
    · intro hbr
      have hb52 := hbr
      refine g_seq ?_
      refine g_region ?_
      refine l_build rfl rfl (fun w => bd_97_z w) ?_
      refine l_sts Try.sizeOf97 rfl rfl rfl rfl rfl ?_
      refine l_assign rfl rfl ?_
      refine l_nil ?_
      refine g_own_nil 29 1 ?_
      refine g_heap (F' := Own 29 1 (.slice none ([] : List LV).length 0) ([] : List LV).length (([] : List LV).map lvV) :: BigF ([] : List LV).length (fun j => Own 33 1 (.slice (lat ([] : List LV) j).a (lat ([] : List LV) j).n (lat ([] : List LV) j).c) (lat ([] : List LV) j).n (ints .u32 (tat ([] : List (List Int)) j))) :: _) (fun w hw => zero1 hw _) ?_
      refine g_ret Try.func61 rfl (.cis rfl Try.isAgg97 Try.sizeOf97 rfl (.tmp rfl .nil)) ?_
      exact Gives.mki ⟨0, none, 0, [], [], false, rfl, rfl, MsOk.nil, .inl rfl, (fun h => nomatch h), RowR.no3 (i := i.toNat) (T := T) (by omega) (by unfold pieceV; rw [hke]; rcases hM with ⟨_, h⟩ | ⟨h, _⟩; exact h; (exfalso; omega)) (by rw [hT]; have h9 := hbr; simp at h9; rcases hM with ⟨h8, _⟩ | ⟨h8, _⟩; (intro h7; apply h9; constructor <;> intro h <;> omega); (exfalso; omega))⟩
    intro hbr
    have hb52 := hbr
    refine g_skip ?_
    refine g_seq ?_
    refine g_region ?_
    have hiff : 0 < q2 ↔ i < (many : Int) := by have h9 := hb52; simp at h9; rcases hM with ⟨h8, _⟩ | ⟨h8, _⟩; (constructor <;> intro h <;> omega); (exfalso; omega)
    refine l_move rfl rfl ?_
    refine l_move rfl rfl ?_
    refine l_lss rfl rfl rfl ?_
    refine l_nil ?_
    refine g_cond rfl ?_ ?_
    · intro hbr
      have hbr := of_decide_eq_true hbr
      refine g_region ?_
      refine l_fieldAddr rfl fa_97_1 rfl ?_
      refine l_ld rfl Try.isAgg40 rfl rfl ?_
      refine l_move rfl rfl ?_
      refine l_frontv (.slice ao ms.length co) ?_
      refine l_buildSlice rfl Try.underlying40 Try.sizeOf29 Try.zeroValue29 rfl rfl rfl rfl rfl rfl ?_; intro b60
      refine l_append 1 (sz := 1) (by_ := 24) (m2 := 1) (news := [Value.slice a2 q2 c2]) rfl Try.underlying40 Try.type29 rfl rfl rfl rfl rfl rfl rfl rfl ⟨rfl, .inl ⟨_, _, _, rfl, .own (mem_getO 0 rfl)⟩⟩ rfl (by omega) (by simp only [maxLen]; omega) (fun _ => rfl) ?_; intro v61 hv61
      refine l_fact (own_cases (mem_getO 1 rfl)) ?_
      rintro ⟨_, _, hv | ⟨g61, c61, rfl, hc61⟩⟩
      · exact absurd (hv61.1 hv.1).2 (by omega)
      rw [show ms.map lvV ++ [Value.slice a2 q2 c2] = (ms ++ [(LV.mk a2 q2 c2)]).map lvV by simp [lvV]]
      refine l_fieldAddr rfl fa_97_1 rfl ?_
      refine l_st Try.sizeOf40 rfl rfl rfl rfl ?_
      refine l_nil ?_
      refine g_inBlock ?_
      refine g_region ?_
      refine l_move rfl rfl ?_
      first | refine l_add rfl rfl rfl (w_i64 (by omega) (by omega)) ?_ | refine l_addw rfl rfl rfl ?_
      refine l_assign rfl rfl ?_
      refine l_nil ?_
      have hpp : pieceV (stL W at_ (dp * (1 + wd))) wd dp first i.toNat = some T := by rcases hM with ⟨_, h⟩ | ⟨h, _⟩; unfold pieceV; rw [hke]; exact h; (exfalso; omega)
      (first
      | (have e9 : (ms ++ [(LV.mk a2 q2 c2)]).length = ms.length + 1 := by simp
         refine g_heap (F' := Own 29 1 (.slice (some ⟨g61, 0, none⟩) (ms ++ [(LV.mk a2 q2 c2)]).length c61) (ms ++ [(LV.mk a2 q2 c2)]).length ((ms ++ [(LV.mk a2 q2 c2)]).map lvV) :: BigF (ms ++ [(LV.mk a2 q2 c2)]).length (fun j => Own 33 1 (.slice (lat (ms ++ [(LV.mk a2 q2 c2)]) j).a (lat (ms ++ [(LV.mk a2 q2 c2)]) j).n (lat (ms ++ [(LV.mk a2 q2 c2)]) j).c) (lat (ms ++ [(LV.mk a2 q2 c2)]) j).n (ints .u32 (tat (Ts ++ [T]) j))) :: Blk b14 (.cells [Value.int .i64 (first : Int), .slice (some ⟨g61, 0, none⟩) (ms ++ [(LV.mk a2 q2 c2)]).length c61, .int .u32 0].toArray 97 (0, 0)) :: Blk b12 (.cells [Value.int .i64 0, .slice none 0 0, .int .u32 0].toArray 97 (0, 0)) :: F) (fun w hw => ?_) ?_
         · rw [e9]
           exact big_snoc (SPI.holds (F' := Own 33 1 (.slice a2 q2 c2) q2 (ints .u32 T) :: BigF ms.length (fun j => Own 33 1 (.slice (lat ms j).a (lat ms j).n (lat ms j).c) (lat ms j).n (ints .u32 (tat Ts j))) :: Own 29 1 (.slice (some ⟨g61, 0, none⟩) (ms.length + 1) c61) (ms.length + 1) ((ms ++ [(LV.mk a2 q2 c2)]).map lvV) :: Blk b14 (.cells [Value.int .i64 (first : Int), .slice (some ⟨g61, 0, none⟩) (ms.length + 1) c61, .int .u32 0].toArray 97 (0, 0)) :: Blk b12 (.cells [Value.int .i64 0, .slice none 0 0, .int .u32 0].toArray 97 (0, 0)) :: F) hw) (by simp only [lat_last, tat_at hme]) (fun k hk => by simp only [lat_init hk, tat_init (show k < Ts.length by omega)])
         rw [← e9]
         exact g_againi (ih (i + 1, (some ⟨g61, 0, none⟩), c61, (ms ++ [(LV.mk a2 q2 c2)]), (Ts ++ [T])) ⟨by simp only; omega, by simp only; omega, hC.succ i0 hpp (by rw [hT]; exact hiff), by simp only; rw [hTs, show min i.toNat many = i.toNat by omega, show min (i + 1).toNat many = i.toNat + 1 by omega]; exact rowT_succ hpp, hMs.snoc hT ha2, .inr ⟨_, rfl⟩⟩ (by simp only; omega)) (.cons rfl (.cons rfl (.cons rfl (.cons rfl (.cons rfl (.cons rfl (.cons rfl (.cons rfl (.cons rfl (.nil)))))))))))
      | exact g_againi (ih (i + 1, ao, co, ms, Ts) ⟨by simp only; omega, by simp only; omega, hC.succ i0 hpp (by rw [hT]; exact hiff), by simp only; rw [hTs, show min i.toNat many = many by omega, show min (i + 1).toNat many = many by omega], hMs, hao⟩ (by simp only; omega)) (.cons rfl (.cons rfl (.cons rfl (.cons rfl (.cons rfl (.cons rfl (.cons rfl (.cons rfl (.cons rfl (.nil)))))))))))
    intro hbr
    have hbr := of_decide_eq_false hbr
    refine g_skip ?_
    refine g_inBlock ?_
    refine g_region ?_
    refine l_move rfl rfl ?_
    first | refine l_add rfl rfl rfl (w_i64 (by omega) (by omega)) ?_ | refine l_addw rfl rfl rfl ?_
    refine l_assign rfl rfl ?_
    refine l_nil ?_
    have hpp : pieceV (stL W at_ (dp * (1 + wd))) wd dp first i.toNat = some T := by rcases hM with ⟨_, h⟩ | ⟨h, _⟩; unfold pieceV; rw [hke]; exact h; (exfalso; omega)
    (first
    | (have e9 : (ms ++ [(LV.mk a2 q2 c2)]).length = ms.length + 1 := by simp
       refine g_heap (F' := Own 29 1 (.slice (some ⟨g61, 0, none⟩) (ms ++ [(LV.mk a2 q2 c2)]).length c61) (ms ++ [(LV.mk a2 q2 c2)]).length ((ms ++ [(LV.mk a2 q2 c2)]).map lvV) :: BigF (ms ++ [(LV.mk a2 q2 c2)]).length (fun j => Own 33 1 (.slice (lat (ms ++ [(LV.mk a2 q2 c2)]) j).a (lat (ms ++ [(LV.mk a2 q2 c2)]) j).n (lat (ms ++ [(LV.mk a2 q2 c2)]) j).c) (lat (ms ++ [(LV.mk a2 q2 c2)]) j).n (ints .u32 (tat (Ts ++ [T]) j))) :: Blk b14 (.cells [Value.int .i64 (first : Int), .slice (some ⟨g61, 0, none⟩) (ms ++ [(LV.mk a2 q2 c2)]).length c61, .int .u32 0].toArray 97 (0, 0)) :: Blk b12 (.cells [Value.int .i64 0, .slice none 0 0, .int .u32 0].toArray 97 (0, 0)) :: F) (fun w hw => ?_) ?_
       · rw [e9]
         exact big_snoc (SPI.holds (F' := Own 33 1 (.slice a2 q2 c2) q2 (ints .u32 T) :: BigF ms.length (fun j => Own 33 1 (.slice (lat ms j).a (lat ms j).n (lat ms j).c) (lat ms j).n (ints .u32 (tat Ts j))) :: Own 29 1 (.slice (some ⟨g61, 0, none⟩) (ms.length + 1) c61) (ms.length + 1) ((ms ++ [(LV.mk a2 q2 c2)]).map lvV) :: Blk b14 (.cells [Value.int .i64 (first : Int), .slice (some ⟨g61, 0, none⟩) (ms.length + 1) c61, .int .u32 0].toArray 97 (0, 0)) :: Blk b12 (.cells [Value.int .i64 0, .slice none 0 0, .int .u32 0].toArray 97 (0, 0)) :: F) hw) (by simp only [lat_last, tat_at hme]) (fun k hk => by simp only [lat_init hk, tat_init (show k < Ts.length by omega)])
       rw [← e9]
       exact g_againi (ih (i + 1, (some ⟨g61, 0, none⟩), c61, (ms ++ [(LV.mk a2 q2 c2)]), (Ts ++ [T])) ⟨by simp only; omega, by simp only; omega, hC.succ i0 hpp (by rw [hT]; exact hiff), by simp only; rw [hTs, show min i.toNat many = i.toNat by omega, show min (i + 1).toNat many = i.toNat + 1 by omega]; exact rowT_succ hpp, hMs.snoc hT ha2, .inr ⟨_, rfl⟩⟩ (by simp only; omega)) (.cons rfl (.cons rfl (.cons rfl (.cons rfl (.cons rfl (.cons rfl (.cons rfl (.cons rfl (.cons rfl (.nil)))))))))))
    | exact g_againi (ih (i + 1, ao, co, ms, Ts) ⟨by simp only; omega, by simp only; omega, hC.succ i0 hpp (by rw [hT]; exact hiff), by simp only; rw [hTs, show min i.toNat many = many by omega, show min (i + 1).toNat many = many by omega], hMs, hao⟩ (by simp only; omega)) (.cons rfl (.cons rfl (.cons rfl (.cons rfl (.cons rfl (.cons rfl (.cons rfl (.cons rfl (.cons rfl (.nil)))))))))))
  intro hbr
  have hbr := of_decide_eq_false hbr
  refine g_exit rfl ?_
  obtain rfl : i = dp := by omega
  rw [Int.toNat_natCast] at hC hTs
  refine g_seq ?_
  refine g_region ?_
  refine l_lds rfl Try.isAgg97 Try.sizeOf97 rfl rfl ?_
  refine l_sts Try.sizeOf97 rfl rfl rfl rfl rfl ?_
  refine l_assign rfl rfl ?_
  refine l_nil ?_
  refine g_ret Try.func61 rfl (.cis rfl Try.isAgg97 Try.sizeOf97 rfl (.tmp rfl .nil)) ?_
  exact Gives.mki ⟨_, ao, co, ms, Ts, true, rfl, rfl, hMs, hao, fun _ => rfl, by rw [hTs, show min dp many = many by omega]; exact hC.ok (by omega) (by omega)⟩
theorem StgR.of {W : List Int} {a : Int} {wd dp m : Nat} {Ts : List (List Int)} {ok : Bool} (h0 : 0 ≤ a) (hm : W.getD a.toNat 0 = (m : Int)) (h : RowR (stL W (a + 1) (dp * (1 + wd))) wd dp 0 m Ts ok) : StgR W a wd dp Ts ok := by
  unfold StgR
  rw [stL_drop h0, hm, Int.toNat_natCast]
  exact h
theorem PrtR.of {W : List Int} {a : Int} {wd dp f m : Nat} {Ts : List (List Int)} {r ok : Bool} (h0 : 0 ≤ a) (hf : W.getD a.toNat 0 = (f : Int)) (hm : W.getD (a.toNat + 1) 0 = (m : Int)) (h : RowR (stL W (a + 3) (dp * (1 + wd))) wd dp f m Ts r) (hok : ok = true ↔ r = true ∧ (0 < m ∨ f = 0)) : PrtR W a wd dp Ts ok := by
  refine ⟨r, ?_, ?_⟩
  · rw [stL_drop h0, hf, hm, Int.toNat_natCast, Int.toNat_natCast]
    exact h
  · rw [hf, hm, hok]
    constructor
    · rintro ⟨h1, h2⟩; exact ⟨h1, by omega⟩
    · rintro ⟨h1, h2⟩; exact ⟨h1, by omega⟩
theorem PrtR.no {W : List Int} {a : Int} {wd dp f m : Nat} (h0 : 0 ≤ a) (hf : W.getD a.toNat 0 = (f : Int)) (hm : W.getD (a.toNat + 1) 0 = (m : Int)) (h : dp ≤ f ∨ dp < m ∨ (m = 0 ∧ f ≠ 0)) : ∃ Ts, PrtR W a wd dp Ts false := by
  obtain ⟨Ts, r, hr⟩ := RowR.ex (stL W (a + 3) (dp * (1 + wd))) wd dp f m
  refine ⟨Ts, PrtR.of h0 hf hm hr (Iff.intro (fun h9 => by cases h9) ?_)⟩
  rintro ⟨h1, h2⟩
  subst h1
  rcases hr with ⟨_, h3, h4, _⟩ | ⟨h3, _⟩
  · omega
  · cases h3
def StageG (W : List Int) (a : Int) (wd dp : Nat) (Ts : List (List Int)) (e : Int) : Prop := (e = 201 ∧ Ts = [] ∧ StgR W a wd dp [] false) ∨ (e = 0 ∧ StgR W a wd dp Ts true)
theorem mem_gd {w0 : World} {F0 F : List Atom} {b o n j : Nat} {W : List Int} (h : DR w0 F0 b o n W) [e : Ext F0 F] (hj : j < n) : CellAt w0 F b (o + j * 1) (.int .u32 (W.getD j 0)) := word_any h.2.1 (by rw [h.1]; exact hj)
theorem rstage_out (w0 : World) (F : List Atom) (wd dp : Nat) (w1 : 1 ≤ wd) (w2 : wd ≤ 16) (d1 : 1 ≤ dp) (d2 : dp ≤ 8) (b o n c : Nat) (W : List Int) (hD : DR w0 F b o n W) (hn : n ≤ 1073741824) (at_ : Int) (at_0 : -9223372036854775808 ≤ at_) (at_1 : at_ ≤ 9223372036854775807) (hi0 : ¬ inR n at_ ((1 + dp * (1 + wd) : Nat) : Int)) :
    CallK Try.prog 53 [.slice (some ⟨b, o, none⟩) n c, .int .i64 at_, .int .i64 (wd : Int), .int .i64 (dp : Int)] w0 (F) (Gives w0 fun v F2 => v = .tuple #[.agg #[.int .i64 0, .slice none 0 0, .int .u32 0], .int .i64 51] ∧ F2 = F) := by
  have hpw := pw_bd w1 w2 d1 d2
  refine c_enter Try.func53 rfl rfl rfl ?_
  refine g_seq ?_
  refine g_region ?_
  refine l_allocs rfl Try.zeroValue97 ?_; intro b8
  refine l_assign rfl rfl ?_
  refine l_nil ?_
  refine g_seq ?_
  refine g_seq ?_
  refine g_region ?_
  refine l_move rfl rfl ?_
  refine l_move rfl rfl ?_
  refine l_move rfl rfl ?_
  refine l_move rfl rfl ?_
  refine l_call rfl Try.call32 rfl (stw_ok _ _ wd dp w1 w2 d1 d2) ?_; rintro _ F9 ⟨rfl, hF9⟩; rw [hF9]; clear hF9 F9
  refine l_call rfl Try.call56 rfl (fits_out _ _ _ n c (1 + dp * (1 + wd)) at_ (by omega) (by omega) hn (by omega) hi0) ?_; rintro _ F9 ⟨rfl, hF9⟩; rw [hF9]; clear hF9 F9
  refine l_not rfl rfl ?_
  refine l_nil ?_
  first | refine g_cond_t rfl ?_ | refine g_cond_t (congrArg (fun b => some (Value.bool b)) (decide_eq_true hbr)) ?_
  refine g_seq ?_
  refine g_region ?_
  refine l_build rfl rfl (fun w => bd_97_z w) ?_
  refine l_sts Try.sizeOf97 rfl rfl rfl rfl rfl ?_
  refine l_assign rfl rfl ?_
  refine l_nil ?_
  refine g_ret Try.func53 rfl (.cis rfl Try.isAgg97 Try.sizeOf97 rfl (.tmp rfl .nil)) ?_
  exact Gives.mki ⟨rfl, rfl⟩
set_option maxHeartbeats 4000000 in
theorem rstage_in (w0 : World) (F : List Atom) (wd dp : Nat) (w1 : 1 ≤ wd) (w2 : wd ≤ 16) (d1 : 1 ≤ dp) (d2 : dp ≤ 8) (b o n c : Nat) (W : List Int) (hD : DR w0 F b o n W) (hn : n ≤ 1073741824) (at_ : Int) (hi0 : inR n at_ ((1 + dp * (1 + wd) : Nat) : Int)) :
    CallK Try.prog 53 [.slice (some ⟨b, o, none⟩) n c, .int .i64 at_, .int .i64 (wd : Int), .int .i64 (dp : Int)] w0 (F) (Gives w0 fun v F2 => ∃ fx ao co ms Ts ls e, v = .tuple #[.agg #[.int .i64 fx, .slice ao ms.length co, .int .u32 ls], .int .i64 e] ∧ F2 = Own 29 1 (.slice ao ms.length co) ms.length (ms.map lvV) :: BigF ms.length (fun j => Own 33 1 (.slice (lat ms j).a (lat ms j).n (lat ms j).c) (lat ms j).n (ints .u32 (tat Ts j))) :: F ∧ MsOk ms Ts ∧ (ms.length = 0 ∨ ∃ g, ao = some ⟨g, 0, none⟩) ∧ StageG W at_ wd dp Ts e) := by
  have hpw := pw_bd w1 w2 d1 d2
  have hWl := hD.1
  have hU := hD.2.2
  have hi := hi0
  unfold inR at hi
  obtain ⟨mn, emn⟩ := Int.eq_ofNat_of_zero_le (hU (at_.toNat)).1
  have bmn := (hU (at_.toNat)).2
  rw [emn] at bmn
  refine c_enter Try.func53 rfl rfl rfl ?_
  refine g_seq ?_
  refine g_region ?_
  refine l_allocs rfl Try.zeroValue97 ?_; intro b8
  refine l_assign rfl rfl ?_
  refine l_nil ?_
  refine g_seq ?_
  refine g_seq ?_
  refine g_region ?_
  refine l_move rfl rfl ?_
  refine l_move rfl rfl ?_
  refine l_move rfl rfl ?_
  refine l_move rfl rfl ?_
  refine l_call rfl Try.call32 rfl (stw_ok _ _ wd dp w1 w2 d1 d2) ?_; rintro _ F9 ⟨rfl, hF9⟩; rw [hF9]; clear hF9 F9
  refine l_call rfl Try.call56 rfl (fits_in _ _ _ n c (1 + dp * (1 + wd)) at_ (by omega) (by omega) hn (by omega) hi0) ?_; rintro _ F9 ⟨rfl, hF9⟩; rw [hF9]; clear hF9 F9
  refine l_not rfl rfl ?_
  refine l_nil ?_
  first | refine g_cond_f rfl ?_ | refine g_cond_f (congrArg (fun b => some (Value.bool b)) (decide_eq_false hbr)) ?_
  refine g_skip ?_
  refine g_seq ?_
  refine g_region ?_
  refine l_move rfl rfl ?_
  refine l_move rfl rfl ?_
  refine l_ixs rfl Try.underlying29 Try.sizeOf33 rfl rfl (by omega) (by omega) ?_
  refine l_loadc (v := .int .u32 (W.getD at_.toNat 0)) rfl Try.isAgg33 rfl (mem_gd hD (by omega)) ?_
  rw [emn]
  first | refine l_conv rfl Try.underlying33 Try.underlying3 rfl (w_i64 (by omega) (by omega)) ?_ | refine l_convw rfl Try.underlying33 Try.underlying3 rfl ?_
  refine l_assign rfl rfl ?_
  refine l_nil ?_
  refine g_seq ?_
  refine g_seq ?_
  refine g_region ?_
  refine l_move rfl rfl ?_
  refine l_move rfl rfl ?_
  refine l_gtr rfl rfl rfl ?_
  refine l_nil ?_
  refine g_cond rfl ?_ ?_
  · intro hbr
    have hbr := of_decide_eq_true hbr
    refine g_seq ?_
    refine g_region ?_
    refine l_build rfl rfl (fun w => bd_97_z w) ?_
    refine l_sts Try.sizeOf97 rfl rfl rfl rfl rfl ?_
    refine l_assign rfl rfl ?_
    refine l_nil ?_
    refine g_own_nil 29 1 ?_
    refine g_heap (F' := Own 29 1 (.slice none ([] : List LV).length 0) ([] : List LV).length (([] : List LV).map lvV) :: BigF ([] : List LV).length (fun j => Own 33 1 (.slice (lat ([] : List LV) j).a (lat ([] : List LV) j).n (lat ([] : List LV) j).c) (lat ([] : List LV) j).n (ints .u32 (tat ([] : List (List Int)) j))) :: _) (fun w hw => zero1 hw _) ?_
    refine g_ret Try.func53 rfl (.cis rfl Try.isAgg97 Try.sizeOf97 rfl (.tmp rfl .nil)) ?_
    exact Gives.mki ⟨0, none, 0, [], [], 0, 201, rfl, rfl, MsOk.nil, .inl rfl, .inl ⟨rfl, rfl, StgR.of (by omega) emn (RowR.no1 (.inl (by omega)))⟩⟩
  intro hbr
  have hbr := of_decide_eq_false hbr
  refine g_skip ?_
  refine g_seq ?_
  refine g_region ?_
  refine l_move rfl rfl ?_
  refine l_move rfl rfl ?_
  first | refine l_add rfl rfl rfl (w_i64 (by omega) (by omega)) ?_ | refine l_addw rfl rfl rfl ?_
  refine l_move rfl rfl ?_
  refine l_move rfl rfl ?_
  refine l_move rfl rfl ?_
  refine l_call rfl Try.call61 rfl (rrow_ok _ _ wd dp w1 w2 d1 d2 b o n c W hD.ex hn (at_ + 1) (by unfold inR; omega) 0 mn (by omega) (by omega)) ?_; rintro _ _ ⟨fx, ao, co, ms, Ts, ok, rfl, rfl, hMs, hao, hfx, hRow⟩
  refine l_move rfl rfl ?_
  refine l_extract rfl rfl rfl ?_
  refine l_extract rfl rfl rfl ?_
  refine l_allocs rfl Try.zeroValue97 ?_; intro b11
  refine l_sts Try.sizeOf97 rfl rfl rfl rfl rfl ?_
  refine l_assign rfl rfl ?_
  refine l_nil ?_
  refine g_seq ?_
  refine g_seq ?_
  refine g_region ?_
  refine l_move rfl rfl ?_
  refine l_not rfl rfl ?_
  refine l_nil ?_
  refine g_cond rfl ?_ ?_
  · intro hbr
    have hb41 := hbr
    refine g_seq ?_
    refine g_region ?_
    refine l_build rfl rfl (fun w => bd_97_z w) ?_
    refine l_sts Try.sizeOf97 rfl rfl rfl rfl rfl ?_
    refine l_assign rfl rfl ?_
    refine l_nil ?_
    refine g_own_nil 29 1 ?_
    refine g_heap (F' := Own 29 1 (.slice none ([] : List LV).length 0) ([] : List LV).length (([] : List LV).map lvV) :: BigF ([] : List LV).length (fun j => Own 33 1 (.slice (lat ([] : List LV) j).a (lat ([] : List LV) j).n (lat ([] : List LV) j).c) (lat ([] : List LV) j).n (ints .u32 (tat ([] : List (List Int)) j))) :: _) (fun w hw => zero1 hw _) ?_
    refine g_ret Try.func53 rfl (.cis rfl Try.isAgg97 Try.sizeOf97 rfl (.tmp rfl .nil)) ?_
    have hok : ok = false := by simpa using hbr
    subst hok
    have hTn := hRow.nil
    subst hTn
    exact Gives.mki ⟨0, none, 0, [], [], 0, 201, rfl, rfl, MsOk.nil, .inl rfl, .inl ⟨rfl, rfl, StgR.of (by omega) emn hRow⟩⟩
  intro hbr
  have hb41 := hbr
  refine g_skip ?_
  refine g_seq ?_
  refine g_region ?_
  refine l_lds rfl Try.isAgg97 Try.sizeOf97 rfl rfl ?_
  refine l_sts Try.sizeOf97 rfl rfl rfl rfl rfl ?_
  refine l_assign rfl rfl ?_
  refine l_nil ?_
  refine g_ret Try.func53 rfl (.cis rfl Try.isAgg97 Try.sizeOf97 rfl (.tmp rfl .nil)) ?_
  have hok : ok = true := by simpa using hbr
  subst hok
  exact Gives.mki ⟨fx, ao, co, ms, Ts, 0, 0, rfl, rfl, hMs, hao, .inr ⟨rfl, StgR.of (by omega) emn hRow⟩⟩
theorem rport_out (w0 : World) (F : List Atom) (wd dp : Nat) (w1 : 1 ≤ wd) (w2 : wd ≤ 16) (d1 : 1 ≤ dp) (d2 : dp ≤ 8) (b o n c : Nat) (W : List Int) (hD : DR w0 F b o n W) (hn : n ≤ 1073741824) (at_ : Int) (at_0 : -9223372036854775808 ≤ at_) (at_1 : at_ ≤ 9223372036854775807) (hi0 : ¬ inR n at_ ((3 + dp * (1 + wd) : Nat) : Int)) :
    CallK Try.prog 57 [.slice (some ⟨b, o, none⟩) n c, .int .i64 at_, .int .i64 (wd : Int), .int .i64 (dp : Int)] w0 (F) (Gives w0 fun v F2 => v = .tuple #[.agg #[.int .i64 0, .slice none 0 0, .int .u32 0], .int .i64 51] ∧ F2 = F) := by
  have hpw := pw_bd w1 w2 d1 d2
  refine c_enter Try.func57 rfl rfl rfl ?_
  refine g_seq ?_
  refine g_region ?_
  refine l_allocs rfl Try.zeroValue97 ?_; intro b8
  refine l_assign rfl rfl ?_
  refine l_nil ?_
  refine g_seq ?_
  refine g_seq ?_
  refine g_region ?_
  refine l_move rfl rfl ?_
  refine l_move rfl rfl ?_
  refine l_move rfl rfl ?_
  refine l_move rfl rfl ?_
  refine l_call rfl Try.call33 rfl (ptw_ok _ _ wd dp w1 w2 d1 d2) ?_; rintro _ F9 ⟨rfl, hF9⟩; rw [hF9]; clear hF9 F9
  refine l_call rfl Try.call56 rfl (fits_out _ _ _ n c (3 + dp * (1 + wd)) at_ (by omega) (by omega) hn (by omega) hi0) ?_; rintro _ F9 ⟨rfl, hF9⟩; rw [hF9]; clear hF9 F9
  refine l_not rfl rfl ?_
  refine l_nil ?_
  first | refine g_cond_t rfl ?_ | refine g_cond_t (congrArg (fun b => some (Value.bool b)) (decide_eq_true hbr)) ?_
  refine g_seq ?_
  refine g_region ?_
  refine l_build rfl rfl (fun w => bd_97_z w) ?_
  refine l_sts Try.sizeOf97 rfl rfl rfl rfl rfl ?_
  refine l_assign rfl rfl ?_
  refine l_nil ?_
  refine g_ret Try.func57 rfl (.cis rfl Try.isAgg97 Try.sizeOf97 rfl (.tmp rfl .nil)) ?_
  exact Gives.mki ⟨rfl, rfl⟩
set_option maxHeartbeats 4000000 in
theorem rport_in (w0 : World) (F : List Atom) (wd dp : Nat) (w1 : 1 ≤ wd) (w2 : wd ≤ 16) (d1 : 1 ≤ dp) (d2 : dp ≤ 8) (b o n c : Nat) (W : List Int) (hD : DR w0 F b o n W) (hn : n ≤ 1073741824) (at_ : Int) (hi0 : inR n at_ ((3 + dp * (1 + wd) : Nat) : Int)) :
    CallK Try.prog 57 [.slice (some ⟨b, o, none⟩) n c, .int .i64 at_, .int .i64 (wd : Int), .int .i64 (dp : Int)] w0 (F) (Gives w0 fun v F2 => ∃ fx ao co ms Ts ls e, v = .tuple #[.agg #[.int .i64 fx, .slice ao ms.length co, .int .u32 ls], .int .i64 e] ∧ F2 = Own 29 1 (.slice ao ms.length co) ms.length (ms.map lvV) :: BigF ms.length (fun j => Own 33 1 (.slice (lat ms j).a (lat ms j).n (lat ms j).c) (lat ms j).n (ints .u32 (tat Ts j))) :: F ∧ MsOk ms Ts ∧ (ms.length = 0 ∨ ∃ g, ao = some ⟨g, 0, none⟩) ∧ PtdR W at_ wd dp fx ls Ts e) := by
  have hpw := pw_bd w1 w2 d1 d2
  have hWl := hD.1
  have hU := hD.2.2
  have hi := hi0
  unfold inR at hi
  obtain ⟨fi, efi⟩ := Int.eq_ofNat_of_zero_le (hU (at_.toNat)).1
  have bfi := (hU (at_.toNat)).2
  rw [efi] at bfi
  obtain ⟨mn, emn⟩ := Int.eq_ofNat_of_zero_le (hU (at_.toNat + 1)).1
  have bmn := (hU (at_.toNat + 1)).2
  rw [emn] at bmn
  refine c_enter Try.func57 rfl rfl rfl ?_
  refine g_seq ?_
  refine g_region ?_
  refine l_allocs rfl Try.zeroValue97 ?_; intro b8
  refine l_assign rfl rfl ?_
  refine l_nil ?_
  refine g_seq ?_
  refine g_seq ?_
  refine g_region ?_
  refine l_move rfl rfl ?_
  refine l_move rfl rfl ?_
  refine l_move rfl rfl ?_
  refine l_move rfl rfl ?_
  refine l_call rfl Try.call33 rfl (ptw_ok _ _ wd dp w1 w2 d1 d2) ?_; rintro _ F9 ⟨rfl, hF9⟩; rw [hF9]; clear hF9 F9
  refine l_call rfl Try.call56 rfl (fits_in _ _ _ n c (3 + dp * (1 + wd)) at_ (by omega) (by omega) hn (by omega) hi0) ?_; rintro _ F9 ⟨rfl, hF9⟩; rw [hF9]; clear hF9 F9
  refine l_not rfl rfl ?_
  refine l_nil ?_
  first | refine g_cond_f rfl ?_ | refine g_cond_f (congrArg (fun b => some (Value.bool b)) (decide_eq_false hbr)) ?_
  refine g_skip ?_
  refine g_seq ?_
  refine g_region ?_
  refine l_move rfl rfl ?_
  refine l_move rfl rfl ?_
  refine l_ixs rfl Try.underlying29 Try.sizeOf33 rfl rfl (by omega) (by omega) ?_
  refine l_loadc (v := .int .u32 (W.getD at_.toNat 0)) rfl Try.isAgg33 rfl (mem_gd hD (by omega)) ?_
  rw [efi]
  first | refine l_conv rfl Try.underlying33 Try.underlying3 rfl (w_i64 (by omega) (by omega)) ?_ | refine l_convw rfl Try.underlying33 Try.underlying3 rfl ?_
  refine l_assign rfl rfl ?_
  refine l_nil ?_
  refine g_seq ?_
  refine g_region ?_
  refine l_move rfl rfl ?_
  refine l_move rfl rfl ?_
  first | refine l_add rfl rfl rfl (w_i64 (by omega) (by omega)) ?_ | refine l_addw rfl rfl rfl ?_
  refine l_ixs rfl Try.underlying29 Try.sizeOf33 rfl rfl (by omega) (by omega) ?_
  refine l_loadc (v := .int .u32 (W.getD (at_ + 1).toNat 0)) rfl Try.isAgg33 rfl (mem_gd hD (by omega)) ?_
  rw [show W.getD (at_ + 1).toNat 0 = (mn : Int) by rw [show (at_ + 1).toNat = at_.toNat + 1 by omega]; exact emn]
  first | refine l_conv rfl Try.underlying33 Try.underlying3 rfl (w_i64 (by omega) (by omega)) ?_ | refine l_convw rfl Try.underlying33 Try.underlying3 rfl ?_
  refine l_assign rfl rfl ?_
  refine l_nil ?_
  refine g_seq ?_
  refine g_seq ?_
  refine g_region ?_
  refine l_move rfl rfl ?_
  refine l_move rfl rfl ?_
  refine l_geq rfl rfl rfl ?_
  refine l_move rfl rfl ?_
  refine l_split 36 rfl ?_ ?_
  · intro hbr
    have hbr := of_decide_eq_true hbr
    refine l_guard_no rfl rfl rfl ?_
    refine l_guard_no rfl rfl rfl ?_
    refine l_guard_no rfl rfl rfl ?_
    refine l_pick_t rfl rfl rfl ?_
    refine l_move rfl rfl ?_
    refine l_guard_no rfl rfl rfl ?_
    refine l_guard_no rfl rfl rfl ?_
    refine l_guard_no rfl rfl rfl ?_
    refine l_guard_nou rfl rfl rfl ?_
    refine l_guard_nou rfl rfl rfl ?_
    refine l_guard_no rfl rfl rfl ?_
    refine l_pick_t rfl rfl rfl ?_
    refine l_nil ?_
    first | refine g_cond_t rfl ?_ | refine g_cond_t (congrArg (fun b => some (Value.bool b)) (decide_eq_true hbr)) ?_
    refine g_seq ?_
    refine g_region ?_
    refine l_build rfl rfl (fun w => bd_97_z w) ?_
    refine l_sts Try.sizeOf97 rfl rfl rfl rfl rfl ?_
    refine l_assign rfl rfl ?_
    refine l_nil ?_
    refine g_own_nil 29 1 ?_
    refine g_heap (F' := Own 29 1 (.slice none ([] : List LV).length 0) ([] : List LV).length (([] : List LV).map lvV) :: BigF ([] : List LV).length (fun j => Own 33 1 (.slice (lat ([] : List LV) j).a (lat ([] : List LV) j).n (lat ([] : List LV) j).c) (lat ([] : List LV) j).n (ints .u32 (tat ([] : List (List Int)) j))) :: _) (fun w hw => zero1 hw _) ?_
    refine g_ret Try.func57 rfl (.cis rfl Try.isAgg97 Try.sizeOf97 rfl (.tmp rfl .nil)) ?_
    exact Gives.mki ⟨0, none, 0, [], [], 0, 201, rfl, rfl, MsOk.nil, .inl rfl, .inl ⟨rfl, rfl, rfl, rfl, PrtR.no (by omega) efi emn (by omega)⟩⟩
  intro hbr
  have hbr := of_decide_eq_false hbr
  refine l_guard_yes rfl rfl ?_
  refine l_move rfl rfl ?_
  refine l_guard_yes rfl rfl ?_
  refine l_move rfl rfl ?_
  refine l_guard_yes rfl rfl ?_
  refine l_gtr rfl rfl rfl ?_
  refine l_pick_f rfl rfl rfl ?_
  refine l_move rfl rfl ?_
  refine l_split 41 rfl ?_ ?_
  · intro hbr
    have hbr := of_decide_eq_true hbr
    refine l_guard_no rfl rfl rfl ?_
    refine l_guard_no rfl rfl rfl ?_
    refine l_guard_no rfl rfl rfl ?_
    refine l_guard_nou rfl rfl rfl ?_
    refine l_guard_nou rfl rfl rfl ?_
    refine l_guard_no rfl rfl rfl ?_
    refine l_pick_t rfl rfl rfl ?_
    refine l_nil ?_
    first | refine g_cond_t rfl ?_ | refine g_cond_t (congrArg (fun b => some (Value.bool b)) (decide_eq_true hbr)) ?_
    refine g_seq ?_
    refine g_region ?_
    refine l_build rfl rfl (fun w => bd_97_z w) ?_
    refine l_sts Try.sizeOf97 rfl rfl rfl rfl rfl ?_
    refine l_assign rfl rfl ?_
    refine l_nil ?_
    refine g_own_nil 29 1 ?_
    refine g_heap (F' := Own 29 1 (.slice none ([] : List LV).length 0) ([] : List LV).length (([] : List LV).map lvV) :: BigF ([] : List LV).length (fun j => Own 33 1 (.slice (lat ([] : List LV) j).a (lat ([] : List LV) j).n (lat ([] : List LV) j).c) (lat ([] : List LV) j).n (ints .u32 (tat ([] : List (List Int)) j))) :: _) (fun w hw => zero1 hw _) ?_
    refine g_ret Try.func57 rfl (.cis rfl Try.isAgg97 Try.sizeOf97 rfl (.tmp rfl .nil)) ?_
    exact Gives.mki ⟨0, none, 0, [], [], 0, 201, rfl, rfl, MsOk.nil, .inl rfl, .inl ⟨rfl, rfl, rfl, rfl, PrtR.no (by omega) efi emn (by omega)⟩⟩
  intro hbr
  have hbr := of_decide_eq_false hbr
  refine l_guard_yes rfl rfl ?_
  refine l_move rfl rfl ?_
  refine l_guard_yes rfl rfl ?_
  refine l_eql rfl rfl rfl ?_
  refine l_guard_yes rfl rfl ?_
  refine l_move rfl rfl ?_
  refine l_split 44 rfl ?_ ?_
  · intro hbr
    have hbr := of_decide_eq_true hbr
    refine l_guard_yes rfl rfl ?_
    refine l_move rfl rfl ?_
    refine l_guard_yes rfl rfl ?_
    refine l_neq rfl rfl rfl ?_
    refine l_guard_yes rfl rfl ?_
    refine l_pick_t rfl rfl rfl ?_
    refine l_pick_f rfl rfl rfl ?_
    refine l_nil ?_
    refine g_cond rfl ?_ ?_
    · intro hbr
      have hbr := of_decide_eq_true hbr
      refine g_seq ?_
      refine g_region ?_
      refine l_build rfl rfl (fun w => bd_97_z w) ?_
      refine l_sts Try.sizeOf97 rfl rfl rfl rfl rfl ?_
      refine l_assign rfl rfl ?_
      refine l_nil ?_
      refine g_own_nil 29 1 ?_
      refine g_heap (F' := Own 29 1 (.slice none ([] : List LV).length 0) ([] : List LV).length (([] : List LV).map lvV) :: BigF ([] : List LV).length (fun j => Own 33 1 (.slice (lat ([] : List LV) j).a (lat ([] : List LV) j).n (lat ([] : List LV) j).c) (lat ([] : List LV) j).n (ints .u32 (tat ([] : List (List Int)) j))) :: _) (fun w hw => zero1 hw _) ?_
      refine g_ret Try.func57 rfl (.cis rfl Try.isAgg97 Try.sizeOf97 rfl (.tmp rfl .nil)) ?_
      exact Gives.mki ⟨0, none, 0, [], [], 0, 201, rfl, rfl, MsOk.nil, .inl rfl, .inl ⟨rfl, rfl, rfl, rfl, PrtR.no (by omega) efi emn (by omega)⟩⟩
    intro hbr
    have hbr := of_decide_eq_false hbr
    refine g_skip ?_
    refine g_seq ?_
    refine g_region ?_
    refine l_move rfl rfl ?_
    refine l_move rfl rfl ?_
    first | refine l_add rfl rfl rfl (w_i64 (by omega) (by omega)) ?_ | refine l_addw rfl rfl rfl ?_
    refine l_move rfl rfl ?_
    refine l_move rfl rfl ?_
    refine l_move rfl rfl ?_
    refine l_move rfl rfl ?_
    refine l_call rfl Try.call61 rfl (rrow_ok _ _ wd dp w1 w2 d1 d2 b o n c W hD.ex hn (at_ + 3) (by unfold inR; omega) fi mn (by omega) (by omega)) ?_; rintro _ _ ⟨fx, ao, co, ms, Ts, ok, rfl, rfl, hMs, hao, hfx, hRow⟩
    refine l_move rfl rfl ?_
    refine l_extract rfl rfl rfl ?_
    refine l_extract rfl rfl rfl ?_
    refine l_allocs rfl Try.zeroValue97 ?_; intro b12
    refine l_sts Try.sizeOf97 rfl rfl rfl rfl rfl ?_
    refine l_assign rfl rfl ?_
    refine l_nil ?_
    refine g_seq ?_
    refine g_seq ?_
    refine g_region ?_
    refine l_move rfl rfl ?_
    refine l_not rfl rfl ?_
    refine l_nil ?_
    refine g_cond rfl ?_ ?_
    · intro hbr
      have hb62 := hbr
      refine g_seq ?_
      refine g_region ?_
      refine l_build rfl rfl (fun w => bd_97_z w) ?_
      refine l_sts Try.sizeOf97 rfl rfl rfl rfl rfl ?_
      refine l_assign rfl rfl ?_
      refine l_nil ?_
      refine g_own_nil 29 1 ?_
      refine g_heap (F' := Own 29 1 (.slice none ([] : List LV).length 0) ([] : List LV).length (([] : List LV).map lvV) :: BigF ([] : List LV).length (fun j => Own 33 1 (.slice (lat ([] : List LV) j).a (lat ([] : List LV) j).n (lat ([] : List LV) j).c) (lat ([] : List LV) j).n (ints .u32 (tat ([] : List (List Int)) j))) :: _) (fun w hw => zero1 hw _) ?_
      refine g_ret Try.func57 rfl (.cis rfl Try.isAgg97 Try.sizeOf97 rfl (.tmp rfl .nil)) ?_
      have hok : ok = false := by simpa using hbr
      subst hok
      exact Gives.mki ⟨0, none, 0, [], [], 0, 201, rfl, rfl, MsOk.nil, .inl rfl, .inl ⟨rfl, rfl, rfl, rfl, Ts, PrtR.of (by omega) efi emn hRow ⟨fun h => (nomatch h), fun ⟨h, _⟩ => nomatch h⟩⟩⟩
    intro hbr
    have hb62 := hbr
    refine g_skip ?_
    refine g_seq ?_
    refine g_region ?_
    have hok9 := hbr
    refine l_move rfl rfl ?_
    refine l_move rfl rfl ?_
    first | refine l_add rfl rfl rfl (w_i64 (by omega) (by omega)) ?_ | refine l_addw rfl rfl rfl ?_
    refine l_ixs rfl Try.underlying29 Try.sizeOf33 rfl rfl (by omega) (by omega) ?_
    refine l_loadc (v := .int .u32 (W.getD (at_ + 2).toNat 0)) rfl Try.isAgg33 rfl (mem_gd hD (by omega)) ?_
    refine l_fieldAddr rfl fa_97_2 rfl ?_
    first | refine l_st Try.sizeOf33 rfl rfl rfl rfl ?_ | refine l_stw Try.sizeOf33 rfl rfl (by omega) ?_
    refine l_nil ?_
    refine g_seq ?_
    refine g_region ?_
    refine l_lds rfl Try.isAgg97 Try.sizeOf97 rfl rfl ?_
    refine l_sts Try.sizeOf97 rfl rfl rfl rfl rfl ?_
    refine l_assign rfl rfl ?_
    refine l_nil ?_
    refine g_ret Try.func57 rfl (.cis rfl Try.isAgg97 Try.sizeOf97 rfl (.tmp rfl .nil)) ?_
    have hok : ok = true := by simpa using hok9
    subst hok
    exact Gives.mki ⟨fx, ao, co, ms, Ts, _, 0, rfl, rfl, hMs, hao, .inr ⟨rfl, PrtR.of (by omega) efi emn hRow ⟨fun _ => ⟨rfl, by omega⟩, fun _ => rfl⟩, by rw [hfx rfl]; exact efi.symm, by rw [show at_.toNat + 2 = (at_ + 2).toNat by omega]⟩⟩
  intro hbr
  have hbr := of_decide_eq_false hbr
  refine l_guard_no rfl rfl rfl ?_
  refine l_guard_no rfl rfl rfl ?_
  refine l_guard_yes rfl rfl ?_
  refine l_pick_f rfl rfl rfl ?_
  refine l_pick_f rfl rfl rfl ?_
  refine l_nil ?_
  first | refine g_cond_f rfl ?_ | refine g_cond_f (congrArg (fun b => some (Value.bool b)) (decide_eq_false hbr)) ?_
  refine g_skip ?_
  refine g_seq ?_
  refine g_region ?_
  refine l_move rfl rfl ?_
  refine l_move rfl rfl ?_
  first | refine l_add rfl rfl rfl (w_i64 (by omega) (by omega)) ?_ | refine l_addw rfl rfl rfl ?_
  refine l_move rfl rfl ?_
  refine l_move rfl rfl ?_
  refine l_move rfl rfl ?_
  refine l_move rfl rfl ?_
  refine l_call rfl Try.call61 rfl (rrow_ok _ _ wd dp w1 w2 d1 d2 b o n c W hD.ex hn (at_ + 3) (by unfold inR; omega) fi mn (by omega) (by omega)) ?_; rintro _ _ ⟨fx, ao, co, ms, Ts, ok, rfl, rfl, hMs, hao, hfx, hRow⟩
  refine l_move rfl rfl ?_
  refine l_extract rfl rfl rfl ?_
  refine l_extract rfl rfl rfl ?_
  refine l_allocs rfl Try.zeroValue97 ?_; intro b12
  refine l_sts Try.sizeOf97 rfl rfl rfl rfl rfl ?_
  refine l_assign rfl rfl ?_
  refine l_nil ?_
  refine g_seq ?_
  refine g_seq ?_
  refine g_region ?_
  refine l_move rfl rfl ?_
  refine l_not rfl rfl ?_
  refine l_nil ?_
  refine g_cond rfl ?_ ?_
  · intro hbr
    have hb62 := hbr
    refine g_seq ?_
    refine g_region ?_
    refine l_build rfl rfl (fun w => bd_97_z w) ?_
    refine l_sts Try.sizeOf97 rfl rfl rfl rfl rfl ?_
    refine l_assign rfl rfl ?_
    refine l_nil ?_
    refine g_own_nil 29 1 ?_
    refine g_heap (F' := Own 29 1 (.slice none ([] : List LV).length 0) ([] : List LV).length (([] : List LV).map lvV) :: BigF ([] : List LV).length (fun j => Own 33 1 (.slice (lat ([] : List LV) j).a (lat ([] : List LV) j).n (lat ([] : List LV) j).c) (lat ([] : List LV) j).n (ints .u32 (tat ([] : List (List Int)) j))) :: _) (fun w hw => zero1 hw _) ?_
    refine g_ret Try.func57 rfl (.cis rfl Try.isAgg97 Try.sizeOf97 rfl (.tmp rfl .nil)) ?_
    have hok : ok = false := by simpa using hbr
    subst hok
    exact Gives.mki ⟨0, none, 0, [], [], 0, 201, rfl, rfl, MsOk.nil, .inl rfl, .inl ⟨rfl, rfl, rfl, rfl, Ts, PrtR.of (by omega) efi emn hRow ⟨fun h => (nomatch h), fun ⟨h, _⟩ => nomatch h⟩⟩⟩
  intro hbr
  have hb62 := hbr
  refine g_skip ?_
  refine g_seq ?_
  refine g_region ?_
  have hok9 := hbr
  refine l_move rfl rfl ?_
  refine l_move rfl rfl ?_
  first | refine l_add rfl rfl rfl (w_i64 (by omega) (by omega)) ?_ | refine l_addw rfl rfl rfl ?_
  refine l_ixs rfl Try.underlying29 Try.sizeOf33 rfl rfl (by omega) (by omega) ?_
  refine l_loadc (v := .int .u32 (W.getD (at_ + 2).toNat 0)) rfl Try.isAgg33 rfl (mem_gd hD (by omega)) ?_
  refine l_fieldAddr rfl fa_97_2 rfl ?_
  first | refine l_st Try.sizeOf33 rfl rfl rfl rfl ?_ | refine l_stw Try.sizeOf33 rfl rfl (by omega) ?_
  refine l_nil ?_
  refine g_seq ?_
  refine g_region ?_
  refine l_lds rfl Try.isAgg97 Try.sizeOf97 rfl rfl ?_
  refine l_sts Try.sizeOf97 rfl rfl rfl rfl rfl ?_
  refine l_assign rfl rfl ?_
  refine l_nil ?_
  refine g_ret Try.func57 rfl (.cis rfl Try.isAgg97 Try.sizeOf97 rfl (.tmp rfl .nil)) ?_
  have hok : ok = true := by simpa using hok9
  subst hok
  exact Gives.mki ⟨fx, ao, co, ms, Ts, _, 0, rfl, rfl, hMs, hao, .inr ⟨rfl, PrtR.of (by omega) efi emn hRow ⟨fun _ => ⟨rfl, by omega⟩, fun _ => rfl⟩, by rw [hfx rfl]; exact efi.symm, by rw [show at_.toNat + 2 = (at_ + 2).toNat by omega]⟩⟩
theorem take_get {W : List Int} {i : Nat} (h : i < W.length) : W.take i ++ [W.getD i 0] = W.take (i + 1) := by
  rw [List.take_add_one, List.getElem?_eq_getElem h, List.getD_eq_getElem?_getD, List.getElem?_eq_getElem h]
  rfl
set_option maxHeartbeats 4000000 in
theorem rlay_ok (w0 : World) (F : List Atom) (wd dp : Nat) (w1 : 1 ≤ wd) (w2 : wd ≤ 16) (d1 : 1 ≤ dp) (d2 : dp ≤ 8) (g n c : Nat) (W : List Int) (hW : W.length = n) (hc : n ≤ c) (hn : n ≤ 1073741824) (at_ : Int) (hi0 : inR n at_ ((dp * (1 + wd) : Nat) : Int)) (first : Nat) (hf : first < dp) (am : Option Addr) (m cm : Nat) (ms : List LV) (Ts : List (List Int)) (hml : ms.length = m) (hm : m ≤ dp) (hrow : m = 0 ∨ ∃ g o, am = some ⟨g, o, none⟩ ∧ RowAt w0 F g o (ms.map lvV)) (hms : MsRd w0 F wd ms Ts) :
    CallK Try.prog 62 [.slice (some ⟨g, 0, none⟩) n c, .int .i64 at_, .int .i64 (wd : Int), .int .i64 (dp : Int), .int .i64 (first : Int), .slice am m cm] w0 (Own 33 1 (.slice (some ⟨g, 0, none⟩) n c) n (ints .u32 W) :: F) (Gives w0 fun v F2 => F2 = Own 33 1 (.slice (some ⟨g, 0, none⟩) n c) n (ints .u32 (spl at_.toNat (plN wd dp first Ts m) W)) :: F) := by
  have hpw := pw_bd w1 w2 d1 d2
  have hi := hi0
  unfold inR at hi
  have hpi : (dp : Int) * (1 + (wd : Int)) = ((dp * (1 + wd) : Nat) : Int) := by rw [Int.natCast_mul, Int.natCast_add]; rfl
  have hle : ∀ j, j < m → (tat Ts j).length ≤ wd := fun j hj => by have h9 := hms j (by omega); rw [h9.1.1]; exact h9.2.2
  refine c_enter Try.func62 rfl rfl rfl ?_
  refine g_seq ?_
  refine g_seq ?_
  refine g_region ?_
  refine l_assign rfl rfl ?_
  refine l_nil ?_
  refine g_block ?_
  refine g_loopk (X := Int) [(0, _), (1, _), (2, _), (3, _), (4, _), (5, _)] (.cons rfl (.cons rfl (.cons rfl (.cons rfl (.cons rfl (.cons rfl (.nil))))))) (fun i => 0 ≤ i ∧ i ≤ ((dp * (1 + wd) : Nat) : Int)) (fun i => (((dp * (1 + wd) : Nat) : Int) - i).toNat) (fun i => [(12, .int .i64 i)]) (fun i => Own 33 1 (.slice (some ⟨g, 0, none⟩) n c) n (ints .u32 (spl at_.toNat (List.replicate i.toNat 0) W)) :: F) (0) (⟨by omega, by omega⟩) (.cons rfl .nil) ((fun w hw => by rw [show spl at_.toNat (List.replicate (0 : Int).toNat 0) W = W from spl_nil _ _]; exact hw)) ?_
  rintro i ⟨i0, i1⟩ ih
  dsimp only [List.cons_append, List.nil_append] at ih ⊢
  have hsl : (spl at_.toNat (List.replicate i.toNat 0) W).length = n := by rw [spl_length (by rw [List.length_replicate]; omega)]; exact hW
  refine g_seq ?_
  refine g_seq ?_
  refine g_region ?_
  refine l_move rfl rfl ?_
  refine l_move rfl rfl ?_
  refine l_move rfl rfl ?_
  first | refine l_add rfl rfl rfl (w_i64 (by omega) (by omega)) ?_ | refine l_addw rfl rfl rfl ?_
  refine l_mul rfl rfl rfl (by rw [hpi]; exact w_i64 (by omega) (by omega)) ?_
  rw [hpi]
  refine l_lss rfl rfl rfl ?_
  refine l_nil ?_
  refine g_cond rfl ?_ ?_
  · intro hbr
    have hbr := of_decide_eq_true hbr
    refine g_skip ?_
    refine g_seq ?_
    refine g_block ?_
    refine g_region ?_
    refine l_move rfl rfl ?_
    refine l_move rfl rfl ?_
    refine l_move rfl rfl ?_
    first | refine l_add rfl rfl rfl (w_i64 (by omega) (by omega)) ?_ | refine l_addw rfl rfl rfl ?_
    refine l_ixs rfl Try.underlying29 Try.sizeOf33 rfl rfl (by omega) (by omega) ?_
    refine l_storew 0 Try.sizeOf33 rfl rfl rfl (by rw [hsl]; omega) rfl ?_
    refine l_nil ?_
    refine g_inBlock ?_
    refine g_region ?_
    refine l_move rfl rfl ?_
    first | refine l_add rfl rfl rfl (w_i64 (by omega) (by omega)) ?_ | refine l_addw rfl rfl rfl ?_
    refine l_assign rfl rfl ?_
    refine l_nil ?_
    rw [spl_snoc (by rw [List.length_replicate]; omega) (by rw [List.length_replicate]; omega), show List.replicate i.toNat (0 : Int) ++ [0] = List.replicate (i + 1).toNat 0 by rw [show (i + 1).toNat = i.toNat + 1 by omega, List.replicate_succ']]
    exact g_againi (ih (i + 1) ⟨by omega, by omega⟩ (by omega)) (.cons rfl (.cons rfl (.cons rfl (.cons rfl (.cons rfl (.cons rfl (.cons rfl (.nil))))))))
  intro hbr
  have hbr := of_decide_eq_false hbr
  refine g_exit rfl ?_
  obtain rfl : i = ((dp * (1 + wd) : Nat) : Int) := by omega
  rw [Int.toNat_natCast, show List.replicate (dp * (1 + wd)) (0 : Int) = plN wd dp first Ts 0 from rfl]
  refine g_seq ?_
  refine g_region ?_
  refine l_assign rfl rfl ?_
  refine l_nil ?_
  refine g_block ?_
  refine g_loopk (X := Int) [(0, _), (1, _), (2, _), (3, _), (4, _), (5, _)] (.cons rfl (.cons rfl (.cons rfl (.cons rfl (.cons rfl (.cons rfl (.nil))))))) (fun i => 0 ≤ i ∧ i ≤ m) (fun i => ((m : Int) - i).toNat) (fun i => [(13, .int .i64 i)]) (fun i => Own 33 1 (.slice (some ⟨g, 0, none⟩) n c) n (ints .u32 (spl at_.toNat (plN wd dp first Ts i.toNat) W)) :: F) (0) (⟨by omega, by omega⟩) (.cons rfl .nil) ((fun w hw => hw)) ?_
  rintro i ⟨i0, i1⟩ ihp
  dsimp only [List.cons_append, List.nil_append] at ihp ⊢
  have hpl := plN_len (first := first) (Ts := Ts) (wd := wd) (dp := dp) (by omega) i.toNat (fun j hj => hle j (by omega))
  have hsl : (spl at_.toNat (plN wd dp first Ts i.toNat) W).length = n := by rw [spl_length (by rw [hpl]; omega)]; exact hW
  refine g_seq ?_
  refine g_seq ?_
  refine g_region ?_
  refine l_move rfl rfl ?_
  refine l_move rfl rfl ?_
  refine l_len rfl Try.underlying40 rfl ?_
  refine l_lss rfl rfl rfl ?_
  refine l_nil ?_
  refine g_cond rfl ?_ ?_
  · intro hbr
    have hbr := of_decide_eq_true hbr
    refine g_skip ?_
    refine g_seq ?_
    refine g_block ?_
    refine g_seq ?_
    refine g_region ?_
    have hmn := mod_nat (first := first) (dp := dp) i0 (by omega)
    obtain ⟨kk, hke⟩ : ∃ kk, (first + i.toNat) % dp = kk := ⟨_, rfl⟩
    rw [hke] at hmn
    obtain ⟨hre, hkd⟩ := hmn
    have hkb := kp_bd (wd := wd) hkd
    have hkn : (kk : Int) * (1 + (wd : Int)) = ((kk * (1 + wd) : Nat) : Int) := by rw [Int.natCast_mul, Int.natCast_add]; rfl
    obtain ⟨kp, hkp⟩ : ∃ kp, kk * (1 + wd) = kp := ⟨_, rfl⟩
    rw [hkp] at hkb hkn
    refine l_move rfl rfl ?_
    refine l_move rfl rfl ?_
    refine l_move rfl rfl ?_
    first | refine l_add rfl rfl rfl (w_i64 (by omega) (by omega)) ?_ | refine l_addw rfl rfl rfl ?_
    refine l_move rfl rfl ?_
    refine l_rem rfl rfl rfl (by omega) (by omega) (by rw [hre]; exact w_i64 (by omega) (by omega)) ?_
    refine l_move rfl rfl ?_
    first | refine l_add rfl rfl rfl (w_i64 (by omega) (by omega)) ?_ | refine l_addw rfl rfl rfl ?_
    refine l_mul rfl rfl rfl (by rw [hre, hkn]; exact w_i64 (by omega) (by omega)) ?_
    refine l_add rfl rfl rfl (by rw [hre, hkn]; exact w_i64 (by omega) (by omega)) ?_
    refine l_assign rfl rfl ?_
    refine l_nil ?_
    refine g_seq ?_
    refine g_region ?_
    rw [hre, hkn]
    refine l_move rfl rfl ?_
    refine l_move rfl rfl ?_
    refine l_move rfl rfl ?_
    refine l_move rfl rfl ?_
    obtain ⟨gr, orr, rfl, hrr⟩ := hrow.resolve_left (show ¬ m = 0 by omega)
    obtain ⟨⟨aj, nj, cj⟩, hj⟩ : ∃ x, lat ms i.toNat = x := ⟨_, rfl⟩
    obtain ⟨hIj, hj1, hjw⟩ := hms i.toNat (by omega)
    rw [hj] at hIj hj1 hjw
    simp only at hIj hj1 hjw
    obtain ⟨bj, oj, rfl, hrj⟩ := hIj.some (i := 0) (by omega)
    have hTl := hIj.1
    refine l_ixs rfl Try.underlying40 Try.sizeOf29 rfl rfl (by omega) (by omega) ?_
    refine l_loadc rfl Try.isAgg29 rfl (lv_cell hrr hj (by omega)) ?_
    refine l_len rfl Try.underlying29 rfl ?_
    refine l_conv rfl Try.underlying3 Try.underlying33 rfl (w_u32 (by omega) (by omega)) ?_
    refine l_ixs rfl Try.underlying29 Try.sizeOf33 rfl rfl (by omega) (by omega) ?_
    refine l_storew 0 Try.sizeOf33 rfl rfl rfl (by rw [hsl]; omega) rfl ?_
    rw [show (at_ + (kp : Int)).toNat = at_.toNat + kp by omega, spl_set (by rw [hpl]; omega) (by rw [hpl]; omega), ← hTl]
    refine l_nil ?_
    refine g_seq ?_
    refine g_region ?_
    refine l_assign rfl rfl ?_
    refine l_nil ?_
    refine g_block ?_
    refine g_loopk (X := Int) [(0, _), (1, _), (2, _), (3, _), (4, _), (5, _), (13, _), (14, _), (29, _), (30, _), (31, _), (32, _), (35, _), (36, _), (37, _), (38, _), (39, _), (40, _), (41, _), (42, _), (43, _), (44, _), (45, _), (46, _), (47, _), (48, _), (49, _), (50, _), (51, _), (52, _), (53, _)] (.cons rfl (.cons rfl (.cons rfl (.cons rfl (.cons rfl (.cons rfl (.cons rfl (.cons rfl (.cons rfl (.cons rfl (.cons rfl (.cons rfl (.cons rfl (.cons rfl (.cons rfl (.cons rfl (.cons rfl (.cons rfl (.cons rfl (.cons rfl (.cons rfl (.cons rfl (.cons rfl (.cons rfl (.cons rfl (.cons rfl (.cons rfl (.cons rfl (.cons rfl (.cons rfl (.cons rfl (.nil)))))))))))))))))))))))))))))))) (fun j => 0 ≤ j ∧ j ≤ (nj : Int)) (fun j => ((nj : Int) - j).toNat) (fun j => [(15, .int .i64 j)]) (fun j => Own 33 1 (.slice (some ⟨g, 0, none⟩) n c) n (ints .u32 (spl at_.toNat (spl (kp + 1) ((tat Ts i.toNat).take j.toNat) ((plN wd dp first Ts i.toNat).set kp ((tat Ts i.toNat).length : Int))) W)) :: F) (0) (⟨by omega, by omega⟩) (.cons rfl .nil) ((fun w hw => by rw [show (tat Ts i.toNat).take (0 : Int).toNat = [] from rfl, spl_nil]; exact hw)) ?_
    rintro j ⟨j0, j1⟩ ihq
    dsimp only [List.cons_append, List.nil_append] at ihq ⊢
    have hl2 : (spl (kp + 1) ((tat Ts i.toNat).take j.toNat) ((plN wd dp first Ts i.toNat).set kp ((tat Ts i.toNat).length : Int))).length = dp * (1 + wd) := by rw [spl_length (by rw [List.length_set, List.length_take, hpl]; omega), List.length_set, hpl]
    have hsl2 : (spl at_.toNat (spl (kp + 1) ((tat Ts i.toNat).take j.toNat) ((plN wd dp first Ts i.toNat).set kp ((tat Ts i.toNat).length : Int))) W).length = n := by rw [spl_length (by rw [hl2]; omega)]; exact hW
    refine g_seq ?_
    refine g_seq ?_
    refine g_region ?_
    refine l_move rfl rfl ?_
    refine l_move rfl rfl ?_
    refine l_move rfl rfl ?_
    refine l_ixs rfl Try.underlying40 Try.sizeOf29 rfl rfl (by omega) (by omega) ?_
    refine l_loadc rfl Try.isAgg29 rfl (lv_cell hrr hj (by omega)) ?_
    refine l_len rfl Try.underlying29 rfl ?_
    refine l_lss rfl rfl rfl ?_
    refine l_nil ?_
    refine g_cond rfl ?_ ?_
    · intro hbr
      have hbr := of_decide_eq_true hbr
      refine g_skip ?_
      refine g_seq ?_
      refine g_block ?_
      refine g_region ?_
      refine l_move rfl rfl ?_
      refine l_move rfl rfl ?_
      first | refine l_add rfl rfl rfl (w_i64 (by omega) (by omega)) ?_ | refine l_addw rfl rfl rfl ?_
      refine l_move rfl rfl ?_
      first | refine l_add rfl rfl rfl (w_i64 (by omega) (by omega)) ?_ | refine l_addw rfl rfl rfl ?_
      refine l_move rfl rfl ?_
      refine l_move rfl rfl ?_
      refine l_ixs rfl Try.underlying40 Try.sizeOf29 rfl rfl (by omega) (by omega) ?_
      refine l_loadc rfl Try.isAgg29 rfl (lv_cell hrr hj (by omega)) ?_
      refine l_move rfl rfl ?_
      refine l_ixs rfl Try.underlying29 Try.sizeOf33 rfl rfl (by omega) (by omega) ?_
      refine l_loadc (v := .int .u32 ((tat Ts i.toNat).getD j.toNat 0)) rfl Try.isAgg33 rfl (word_any hrj (by omega)) ?_
      refine l_ixs rfl Try.underlying29 Try.sizeOf33 rfl rfl (by omega) (by omega) ?_
      refine l_storew 0 Try.sizeOf33 rfl rfl rfl (by rw [hsl2]; omega) rfl ?_
      refine l_nil ?_
      refine g_inBlock ?_
      refine g_region ?_
      refine l_move rfl rfl ?_
      first | refine l_add rfl rfl rfl (w_i64 (by omega) (by omega)) ?_ | refine l_addw rfl rfl rfl ?_
      refine l_assign rfl rfl ?_
      refine l_nil ?_
      rw [show (at_ + (kp : Int) + 1 + j).toNat = at_.toNat + (kp + 1 + j.toNat) by omega, spl_set (by rw [hl2]; omega) (by rw [hl2]; omega), spl_snoc (by rw [List.length_take, List.length_set, hpl]; omega) (by rw [List.length_take]; omega), show (tat Ts i.toNat).take j.toNat ++ [(tat Ts i.toNat).getD j.toNat 0] = (tat Ts i.toNat).take (j + 1).toNat by rw [show (j + 1).toNat = j.toNat + 1 by omega]; exact take_get (by omega)]
      exact g_againi (ihq (j + 1) ⟨by omega, by omega⟩ (by omega)) (.cons rfl (.cons rfl (.cons rfl (.cons rfl (.cons rfl (.cons rfl (.cons rfl (.cons rfl (.cons rfl (.cons rfl (.cons rfl (.cons rfl (.cons rfl (.cons rfl (.cons rfl (.cons rfl (.cons rfl (.cons rfl (.cons rfl (.cons rfl (.cons rfl (.cons rfl (.cons rfl (.cons rfl (.cons rfl (.cons rfl (.cons rfl (.cons rfl (.cons rfl (.cons rfl (.cons rfl (.cons rfl (.nil)))))))))))))))))))))))))))))))))
    intro hbr
    have hbr := of_decide_eq_false hbr
    refine g_exit rfl ?_
    obtain rfl : j = (nj : Int) := by omega
    rw [Int.toNat_natCast, show (tat Ts i.toNat).take nj = tat Ts i.toNat from List.take_of_length_le (by omega)]
    refine g_inBlock ?_
    refine g_region ?_
    refine l_move rfl rfl ?_
    first | refine l_add rfl rfl rfl (w_i64 (by omega) (by omega)) ?_ | refine l_addw rfl rfl rfl ?_
    refine l_assign rfl rfl ?_
    refine l_nil ?_
    have e9 : (plN wd dp first Ts (i + 1).toNat) = spl (kp + 1) (tat Ts i.toNat) ((plN wd dp first Ts i.toNat).set kp ((tat Ts i.toNat).length : Int)) := by rw [show (i + 1).toNat = i.toNat + 1 by omega]; simp only [plN]; rw [hke, hkp]
    rw [← e9]
    exact g_againi (ihp (i + 1) ⟨by omega, by omega⟩ (by omega)) (.cons rfl (.cons rfl (.cons rfl (.cons rfl (.cons rfl (.cons rfl (.cons rfl (.nil))))))))
  intro hbr
  have hbr := of_decide_eq_false hbr
  refine g_exit rfl ?_
  obtain rfl : i = (m : Int) := by omega
  rw [Int.toNat_natCast]
  refine g_end Try.func62 rfl .nil ?_
  exact Gives.mki rfl
theorem spl_three {o : Nat} {P W : List Int} {a b c : Int} (h : o + 3 ≤ W.length) : spl (o + 3) P (((W.set o a).set (o + 1) b).set (o + 2) c) = spl o (a :: b :: c :: P) W := by
  rw [show o + 3 = (o + 2) + 1 from rfl, spl_cons (by rw [List.length_set, List.length_set]; omega), show o + 2 = (o + 1) + 1 from rfl, spl_cons (by rw [List.length_set]; omega), spl_cons (by omega)]
set_option maxHeartbeats 4000000 in
theorem rlays_ok (w0 : World) (F : List Atom) (wd dp : Nat) (w1 : 1 ≤ wd) (w2 : wd ≤ 16) (d1 : 1 ≤ dp) (d2 : dp ≤ 8) (g n c : Nat) (W : List Int) (hW : W.length = n) (hc : n ≤ c) (hn : n ≤ 1073741824) (at_ : Int) (hi0 : inR n at_ ((1 + dp * (1 + wd) : Nat) : Int)) (fx ls : Int) (am : Option Addr) (m cm : Nat) (ms : List LV) (Ts : List (List Int)) (hml : ms.length = m) (hm : m ≤ dp) (hrow : m = 0 ∨ ∃ g o, am = some ⟨g, o, none⟩ ∧ RowAt w0 F g o (ms.map lvV)) (hms : MsRd w0 F wd ms Ts) :
    CallK Try.prog 55 [.slice (some ⟨g, 0, none⟩) n c, .int .i64 at_, .int .i64 (wd : Int), .int .i64 (dp : Int), .agg #[.int .i64 fx, .slice am m cm, .int .u32 ls]] w0 (Own 33 1 (.slice (some ⟨g, 0, none⟩) n c) n (ints .u32 W) :: F) (Gives w0 fun v F2 => F2 = Own 33 1 (.slice (some ⟨g, 0, none⟩) n c) n (ints .u32 (spl at_.toNat (layN wd dp [(m : Int)] 0 Ts m) W)) :: F) := by
  have hpw := pw_bd w1 w2 d1 d2
  have hi := hi0
  unfold inR at hi
  refine c_enter Try.func55 rfl rfl rfl ?_
  refine g_seq ?_
  refine g_region ?_
  refine l_boxs rfl rfl ?_; intro b9
  refine l_nil ?_
  refine g_seq ?_
  refine g_region ?_
  refine l_move rfl rfl ?_
  refine l_move rfl rfl ?_
  refine l_fieldAddr rfl fa_97_1 rfl ?_
  refine l_ld rfl Try.isAgg40 rfl rfl ?_
  refine l_len rfl Try.underlying40 rfl ?_
  refine l_conv rfl Try.underlying3 Try.underlying33 rfl (w_u32 (by omega) (by omega)) ?_
  refine l_ixs rfl Try.underlying29 Try.sizeOf33 rfl rfl (by omega) (by omega) ?_
  refine l_storew 1 Try.sizeOf33 rfl rfl rfl (by first | omega | (simp only [List.length_set]; omega)) rfl ?_
  refine l_nil ?_
  refine g_region ?_
  refine l_move rfl rfl ?_
  refine l_move rfl rfl ?_
  first | refine l_add rfl rfl rfl (w_i64 (by omega) (by omega)) ?_ | refine l_addw rfl rfl rfl ?_
  refine l_move rfl rfl ?_
  refine l_move rfl rfl ?_
  refine l_fieldAddr rfl fa_97_1 rfl ?_
  refine l_ld rfl Try.isAgg40 rfl rfl ?_
  refine l_fronto g ?_
  refine l_call rfl Try.call62 rfl (rlay_ok _ _ wd dp w1 w2 d1 d2 g n c (W.set at_.toNat (m : Int)) (by first | exact hW | (simp only [List.length_set]; exact hW)) hc hn (at_ + 1) (by unfold inR; omega) 0 (by omega) am m cm ms Ts hml hm (hrow.imp id fun ⟨g9, o9, h9, h8⟩ => ⟨g9, o9, h9, h8.ex⟩) (fun j hj => ⟨(hms j hj).1.ex, (hms j hj).2⟩)) ?_; rintro _ _ rfl
  refine l_nil ?_
  refine g_end Try.func55 rfl .nil ?_
  rw [layN_app, show (at_ + 1).toNat = at_.toNat + 1 by omega, spl_cons (by omega)]
  simp only [List.cons_append, List.nil_append]
  exact Gives.mki rfl
set_option maxHeartbeats 4000000 in
theorem rlayp_ok (w0 : World) (F : List Atom) (wd dp : Nat) (w1 : 1 ≤ wd) (w2 : wd ≤ 16) (d1 : 1 ≤ dp) (d2 : dp ≤ 8) (g n c : Nat) (W : List Int) (hW : W.length = n) (hc : n ≤ c) (hn : n ≤ 1073741824) (at_ : Int) (hi0 : inR n at_ ((3 + dp * (1 + wd) : Nat) : Int)) (first : Nat) (hf : first < dp) (ls : Int) (l0 : 0 ≤ ls) (l1 : ls ≤ 4294967295) (am : Option Addr) (m cm : Nat) (ms : List LV) (Ts : List (List Int)) (hml : ms.length = m) (hm : m ≤ dp) (hrow : m = 0 ∨ ∃ g o, am = some ⟨g, o, none⟩ ∧ RowAt w0 F g o (ms.map lvV)) (hms : MsRd w0 F wd ms Ts) :
    CallK Try.prog 58 [.slice (some ⟨g, 0, none⟩) n c, .int .i64 at_, .int .i64 (wd : Int), .int .i64 (dp : Int), .agg #[.int .i64 (first : Int), .slice am m cm, .int .u32 ls]] w0 (Own 33 1 (.slice (some ⟨g, 0, none⟩) n c) n (ints .u32 W) :: F) (Gives w0 fun v F2 => F2 = Own 33 1 (.slice (some ⟨g, 0, none⟩) n c) n (ints .u32 (spl at_.toNat (portL wd dp first ls Ts m) W)) :: F) := by
  have hpw := pw_bd w1 w2 d1 d2
  have hi := hi0
  unfold inR at hi
  refine c_enter Try.func58 rfl rfl rfl ?_
  refine g_seq ?_
  refine g_region ?_
  refine l_boxs rfl rfl ?_; intro b9
  refine l_nil ?_
  refine g_seq ?_
  refine g_seq ?_
  refine g_region ?_
  refine l_fieldAddr rfl fa_97_1 rfl ?_
  refine l_ld rfl Try.isAgg40 rfl rfl ?_
  refine l_len rfl Try.underlying40 rfl ?_
  refine l_eql rfl rfl rfl ?_
  refine l_nil ?_
  refine g_cond rfl ?_ ?_
  · intro hbr
    have hbr := of_decide_eq_true hbr
    refine g_region ?_
    obtain rfl : m = 0 := by omega
    refine l_fieldAddr rfl fa_97_0 rfl ?_
    first | refine l_st Try.sizeOf3 rfl rfl rfl rfl ?_ | refine l_stw Try.sizeOf3 rfl rfl (by omega) ?_
    refine l_nil ?_
    refine g_seq ?_
    refine g_region ?_
    refine l_move rfl rfl ?_
    refine l_move rfl rfl ?_
    refine l_fieldAddr rfl fa_97_0 rfl ?_
    first | refine l_ld rfl Try.isAgg3 rfl rfl ?_ | refine l_ldw rfl Try.isAgg3 rfl (by omega) ?_
    refine l_conv rfl Try.underlying3 Try.underlying33 rfl (w_u32 (by omega) (by omega)) ?_
    refine l_ixs rfl Try.underlying29 Try.sizeOf33 rfl rfl (by omega) (by omega) ?_
    refine l_storew 1 Try.sizeOf33 rfl rfl rfl (by first | omega | (simp only [List.length_set]; omega)) rfl ?_
    refine l_nil ?_
    refine g_seq ?_
    refine g_region ?_
    refine l_move rfl rfl ?_
    refine l_move rfl rfl ?_
    first | refine l_add rfl rfl rfl (w_i64 (by omega) (by omega)) ?_ | refine l_addw rfl rfl rfl ?_
    refine l_fieldAddr rfl fa_97_1 rfl ?_
    refine l_ld rfl Try.isAgg40 rfl rfl ?_
    refine l_len rfl Try.underlying40 rfl ?_
    refine l_conv rfl Try.underlying3 Try.underlying33 rfl (w_u32 (by omega) (by omega)) ?_
    refine l_ixs rfl Try.underlying29 Try.sizeOf33 rfl rfl (by omega) (by omega) ?_
    refine l_storew 1 Try.sizeOf33 rfl rfl rfl (by first | omega | (simp only [List.length_set]; omega)) rfl ?_
    refine l_nil ?_
    refine g_seq ?_
    refine g_region ?_
    refine l_move rfl rfl ?_
    refine l_move rfl rfl ?_
    first | refine l_add rfl rfl rfl (w_i64 (by omega) (by omega)) ?_ | refine l_addw rfl rfl rfl ?_
    refine l_fieldAddr rfl fa_97_2 rfl ?_
    first | refine l_ld rfl Try.isAgg33 rfl rfl ?_ | refine l_ldw rfl Try.isAgg33 rfl (by omega) ?_
    refine l_ixs rfl Try.underlying29 Try.sizeOf33 rfl rfl (by omega) (by omega) ?_
    refine l_storew 1 Try.sizeOf33 rfl rfl rfl (by first | omega | (simp only [List.length_set]; omega)) rfl ?_
    refine l_nil ?_
    refine g_region ?_
    refine l_move rfl rfl ?_
    refine l_move rfl rfl ?_
    first | refine l_add rfl rfl rfl (w_i64 (by omega) (by omega)) ?_ | refine l_addw rfl rfl rfl ?_
    refine l_move rfl rfl ?_
    refine l_move rfl rfl ?_
    refine l_fieldAddr rfl fa_97_0 rfl ?_
    first | refine l_ld rfl Try.isAgg3 rfl rfl ?_ | refine l_ldw rfl Try.isAgg3 rfl (by omega) ?_
    refine l_fieldAddr rfl fa_97_1 rfl ?_
    refine l_ld rfl Try.isAgg40 rfl rfl ?_
    refine l_fronto g ?_
    refine l_call rfl Try.call62 rfl (rlay_ok _ _ wd dp w1 w2 d1 d2 g n c (((W.set at_.toNat (0 : Int)).set (at_ + 1).toNat (((0 : Nat) : Int))).set (at_ + 2).toNat ls) (by first | exact hW | (simp only [List.length_set]; exact hW)) hc hn (at_ + 3) (by unfold inR; omega) 0 (by omega) am 0 cm ms Ts hml (by omega) (hrow.imp id fun ⟨g9, o9, h9, h8⟩ => ⟨g9, o9, h9, h8.ex⟩) (fun j hj => ⟨(hms j hj).1.ex, (hms j hj).2⟩)) ?_; rintro _ _ rfl
    refine l_nil ?_
    refine g_end Try.func58 rfl .nil ?_
    rw [show portL wd dp first ls Ts 0 = layN wd dp [((0 : Int) : Int), (((0 : Nat) : Int) : Int), ls] 0 Ts 0 by unfold portL frst; simp, layN_app, show (at_ + 3).toNat = at_.toNat + 3 by omega, show (at_ + 1).toNat = at_.toNat + 1 by omega, show (at_ + 2).toNat = at_.toNat + 2 by omega, spl_three (by omega)]
    simp only [List.cons_append, List.nil_append]
    exact Gives.mki rfl
  intro hbr
  have hbr := of_decide_eq_false hbr
  refine g_skip ?_
  refine g_seq ?_
  refine g_region ?_
  refine l_move rfl rfl ?_
  refine l_move rfl rfl ?_
  refine l_fieldAddr rfl fa_97_0 rfl ?_
  first | refine l_ld rfl Try.isAgg3 rfl rfl ?_ | refine l_ldw rfl Try.isAgg3 rfl (by omega) ?_
  refine l_conv rfl Try.underlying3 Try.underlying33 rfl (w_u32 (by omega) (by omega)) ?_
  refine l_ixs rfl Try.underlying29 Try.sizeOf33 rfl rfl (by omega) (by omega) ?_
  refine l_storew 1 Try.sizeOf33 rfl rfl rfl (by first | omega | (simp only [List.length_set]; omega)) rfl ?_
  refine l_nil ?_
  refine g_seq ?_
  refine g_region ?_
  refine l_move rfl rfl ?_
  refine l_move rfl rfl ?_
  first | refine l_add rfl rfl rfl (w_i64 (by omega) (by omega)) ?_ | refine l_addw rfl rfl rfl ?_
  refine l_fieldAddr rfl fa_97_1 rfl ?_
  refine l_ld rfl Try.isAgg40 rfl rfl ?_
  refine l_len rfl Try.underlying40 rfl ?_
  refine l_conv rfl Try.underlying3 Try.underlying33 rfl (w_u32 (by omega) (by omega)) ?_
  refine l_ixs rfl Try.underlying29 Try.sizeOf33 rfl rfl (by omega) (by omega) ?_
  refine l_storew 1 Try.sizeOf33 rfl rfl rfl (by first | omega | (simp only [List.length_set]; omega)) rfl ?_
  refine l_nil ?_
  refine g_seq ?_
  refine g_region ?_
  refine l_move rfl rfl ?_
  refine l_move rfl rfl ?_
  first | refine l_add rfl rfl rfl (w_i64 (by omega) (by omega)) ?_ | refine l_addw rfl rfl rfl ?_
  refine l_fieldAddr rfl fa_97_2 rfl ?_
  first | refine l_ld rfl Try.isAgg33 rfl rfl ?_ | refine l_ldw rfl Try.isAgg33 rfl (by omega) ?_
  refine l_ixs rfl Try.underlying29 Try.sizeOf33 rfl rfl (by omega) (by omega) ?_
  refine l_storew 1 Try.sizeOf33 rfl rfl rfl (by first | omega | (simp only [List.length_set]; omega)) rfl ?_
  refine l_nil ?_
  refine g_region ?_
  refine l_move rfl rfl ?_
  refine l_move rfl rfl ?_
  first | refine l_add rfl rfl rfl (w_i64 (by omega) (by omega)) ?_ | refine l_addw rfl rfl rfl ?_
  refine l_move rfl rfl ?_
  refine l_move rfl rfl ?_
  refine l_fieldAddr rfl fa_97_0 rfl ?_
  first | refine l_ld rfl Try.isAgg3 rfl rfl ?_ | refine l_ldw rfl Try.isAgg3 rfl (by omega) ?_
  refine l_fieldAddr rfl fa_97_1 rfl ?_
  refine l_ld rfl Try.isAgg40 rfl rfl ?_
  refine l_fronto g ?_
  refine l_call rfl Try.call62 rfl (rlay_ok _ _ wd dp w1 w2 d1 d2 g n c (((W.set at_.toNat (first : Int)).set (at_ + 1).toNat (m : Int)).set (at_ + 2).toNat ls) (by first | exact hW | (simp only [List.length_set]; exact hW)) hc hn (at_ + 3) (by unfold inR; omega) first (by omega) am m cm ms Ts hml hm (hrow.imp id fun ⟨g9, o9, h9, h8⟩ => ⟨g9, o9, h9, h8.ex⟩) (fun j hj => ⟨(hms j hj).1.ex, (hms j hj).2⟩)) ?_; rintro _ _ rfl
  refine l_nil ?_
  refine g_end Try.func58 rfl .nil ?_
  have hm0 : m ≠ 0 := by omega
  rw [show portL wd dp first ls Ts m = layN wd dp [((first : Int) : Int), ((m : Int) : Int), ls] first Ts m by unfold portL frst; rw [if_neg hm0], layN_app, show (at_ + 3).toNat = at_.toNat + 3 by omega, show (at_ + 1).toNat = at_.toNat + 1 by omega, show (at_ + 2).toNat = at_.toNat + 2 by omega, spl_three (by omega)]
  simp only [List.cons_append, List.nil_append]
  exact Gives.mki rfl
end Go.Proofs.Ytecibldbnekgbaa.Fw
