import Derived.Test.YthngpcaljljlaaaPuts
namespace Go.Proofs.Ythngpcaljljlaaa.Fw
open Go Go.Proofs
set_option linter.unusedVariables false
set_option linter.unusedSimpArgs false
set_option maxRecDepth 10000

def pAt (P : List Int) (i : Nat) : Int := P.getD i 0
def ApartP (st wd : Int) (P : List Int) (q : Nat) : Prop := ∀ i, i < q → ¬ (pAt P i < st + 2 + wd ∧ st < pAt P i + (3 + wd)) ∧ ∀ j, j < i → ¬ (pAt P i < pAt P j + (3 + wd) ∧ pAt P j < pAt P i + (3 + wd))
def CntOk (wd : Int) (q : Nat) : Prop := WdOk wd ∧ 1 ≤ q ∧ q ≤ 4
def Rdy0 (n : Nat) (st wd : Int) (P : List Int) (q : Nat) : Prop := CntOk wd q ∧ inR n st (2 + wd) ∧ ∀ i, i < q → inR n (pAt P i) (3 + wd)
def ReadyG (W : List Int) (n : Nat) (st wd : Int) (P : List Int) (q : Nat) (e : Int) : Prop :=
  (e = 1 ∧ ¬ CntOk wd q) ∨ (e = 51 ∧ CntOk wd q ∧ (¬ inR n st (2 + wd) ∨ ∃ i, i < q ∧ ¬ inR n (pAt P i) (3 + wd))) ∨ (e = 191 ∧ Rdy0 n st wd P q ∧ (¬ ApartP st wd P q ∨ ∃ i, i < q ∧ heldV (part W (pAt P i) (3 + wd)) 3 = none)) ∨
  (e = 0 ∧ Rdy0 n st wd P q ∧ ApartP st wd P q ∧ ∀ i, i < q → ∃ T, heldV (part W (pAt P i) (3 + wd)) 3 = some T)
theorem ReadyG.rdy {W : List Int} {n : Nat} {st wd : Int} {P : List Int} {q : Nat} {e : Int} (h : ReadyG W n st wd P q e) (he : e = 0) : Rdy0 n st wd P q := by
  subst he
  rcases h with h | h | h | h
  · exact absurd h.1 (by decide)
  · exact absurd h.1 (by decide)
  · exact absurd h.1 (by decide)
  · exact h.2.1
def clearP (W P : List Int) : Nat → List Int
  | 0 => W
  | k + 1 => (clearP W P k).set (pAt P k + 1).toNat 0
def layP (W P Y : List Int) : Nat → List Int
  | 0 => W
  | k + 1 => spl (pAt P k).toNat Y (layP W P Y k)
theorem clearP_len (W P : List Int) : ∀ k, (clearP W P k).length = W.length
  | 0 => rfl
  | k + 1 => by simp only [clearP, List.length_set]; exact clearP_len W P k
theorem layP_len {W P Y : List Int} {n : Nat} (hW : W.length = n) : ∀ k, (∀ i, i < k → (pAt P i).toNat + Y.length ≤ n) → (layP W P Y k).length = n
  | 0, _ => hW
  | k + 1, h => by
    have ih := layP_len hW k fun i hi => h i (by omega)
    simp only [layP]
    rw [spl_length (by rw [ih]; exact h k (by omega)), ih]
def portW (T : List Int) (wd : Int) : List Int := spl 3 T ((((List.replicate (3 + wd).toNat (0 : Int)).set 0 1).set 1 1).set 2 (T.length : Int))
theorem portW_len {T : List Int} {wd : Int} (h1 : 1 ≤ T.length) (h2 : (T.length : Int) ≤ wd) : (portW T wd).length = (3 + wd).toNat := by
  unfold portW
  rw [spl_length (by simp; omega)]; simp
theorem held_len {l T : List Int} {h : Nat} (hh : heldV l h = some T) : T.length + h ≤ l.length ∨ T = [] := by
  unfold heldV at hh
  split at hh
  · injection hh with hh; exact .inr hh.symm
  · split at hh
    · rename_i hc
      injection hh with hh
      subst hh
      have h1 := hc.2.2.2.1
      rw [List.length_take, List.length_drop]; omega
    · cases hh
theorem held_u32 {l T : List Int} {h : Nat} (hh : heldV l h = some T) (hU : W32s l) : W32s T := by
  unfold heldV at hh
  split at hh
  · injection hh with hh; subst hh; exact W32s.of (by simp)
  · split at hh
    · injection hh with hh
      subst hh
      exact hU.part _ _
    · cases hh
def DelG (W : List Int) (n : Nat) (st wd : Int) (P : List Int) (q : Nat) (W2 : List Int) (e : Int) : Prop :=
  (e ≠ 0 ∧ W2 = W ∧ (ReadyG W n st wd P q e ∨ (ReadyG W n st wd P q 0 ∧ e = 191 ∧ heldV (part W st (2 + wd)) 2 = none))) ∨
  (e = 0 ∧ ReadyG W n st wd P q 0 ∧ ((heldV (part W st (2 + wd)) 2 = some [] ∧ W2 = clearP W P q) ∨ ∃ T, heldV (part W st (2 + wd)) 2 = some T ∧ 1 ≤ T.length ∧ W2 = spl st.toNat (List.replicate (2 + wd).toNat 0) (layP W P (portW T wd) q)))
def RdpG (W : List Int) (n : Nat) (at_ wd : Int) (T : List Int) (fr th : Bool) (e : Int) : Prop :=
  (e = 1 ∧ ¬ WdOk wd ∧ T = [] ∧ fr = false ∧ th = false) ∨ (WdOk wd ∧ T = [] ∧ fr = false ∧ th = false ∧ ReadG W n at_ wd 3 T e) ∨ (WdOk wd ∧ e = 0 ∧ 1 ≤ T.length ∧ th = true ∧ ReadG W n at_ wd 3 T 0 ∧ fr = decide (W.getD (at_ + 1).toNat 0 = 1))
set_option maxHeartbeats 4000000 in
theorem apart_ok (w0 : World) (F : List Atom) (st wd : Int) (s0 : 0 ≤ st) (s1 : st ≤ 1073741824) (hwd : 1 ≤ wd ∧ wd ≤ 16) (a : Option Addr) (q qc : Nat) (P : List Int) (hI : IR w0 F .i64 a q P) (hP : ∀ i, -9223372036854775808 ≤ P.getD i 0 ∧ P.getD i 0 ≤ 9223372036854775807) (hq : q ≤ 9223372036854775807) (hqc : q ≤ qc) (hin : ∀ i, i < q → 0 ≤ pAt P i ∧ pAt P i ≤ 1073741824) :
    CallK Try.prog 46 [.int .i64 st, .int .i64 wd, .slice a q qc] w0 (F) (Gives w0 fun v F2 => ∃ t, v = .bool t ∧ F2 = F ∧ (t = true ↔ ApartP st wd P q)) := by
  have hl := hI.1
  obtain ⟨wd0, wd1⟩ := hwd
  refine c_enter Try.func46 rfl rfl rfl ?_
  refine g_seq ?_
  refine g_region ?_
  refine l_assign rfl rfl ?_
  refine l_nil ?_
  refine g_seq ?_
  refine g_region ?_
  refine l_move rfl rfl ?_
  first | refine l_add rfl rfl rfl (w_i64 (by omega) (by omega)) ?_ | refine l_addw rfl rfl rfl ?_
  refine l_assign rfl rfl ?_
  refine l_nil ?_
  refine g_seq ?_
  refine g_seq ?_
  refine g_region ?_
  refine l_move rfl rfl ?_
  refine l_len rfl Try.underlying34 rfl ?_
  refine l_move rfl rfl ?_
  refine l_nil ?_
  refine g_block ?_
  refine g_loopc (X := Int) [(0, _), (1, _), (2, _), (7, _), (14, _), (15, _)] (.cons rfl (.cons rfl (.cons rfl (.cons rfl (.cons rfl (.cons rfl (.nil))))))) (fun i => 0 ≤ i ∧ i ≤ q ∧ ApartP st wd P i.toNat) (fun i => (q - i).toNat) (fun i => [(16, .int .i64 i)]) (0) (⟨by omega, by omega, fun k hk => by omega⟩) (.cons rfl .nil) ?_
  rintro i ⟨i0, i1, hA⟩ ih
  dsimp only [List.cons_append, List.nil_append] at ih ⊢
  have hA := hA
  refine g_seq ?_
  refine g_region ?_
  refine l_lss rfl rfl rfl ?_
  refine l_nil ?_
  refine g_seq ?_
  refine g_cond rfl ?_ ?_
  · intro hbr
    have hbr := of_decide_eq_true hbr
    refine g_skip ?_
    refine g_seq ?_
    refine g_block ?_
    refine g_seq ?_
    refine g_region ?_
    refine l_move rfl rfl ?_
    obtain ⟨b9, o9, rfl, hr9⟩ := hI.some (i := i.toNat) (by omega)
    have hb9 := hP i.toNat
    refine l_ixs rfl Try.underlying34 Try.sizeOf3 rfl rfl (by omega) (by omega) ?_
    have hn9 := hin i.toNat (by omega)
    unfold pAt at hn9
    refine l_loadc rfl Try.isAgg3 rfl (word_any hr9 (by omega)) ?_
    refine l_assign rfl rfl ?_
    refine l_assign rfl rfl ?_
    refine l_nil ?_
    refine g_seq ?_
    refine g_seq ?_
    refine g_region ?_
    refine l_move rfl rfl ?_
    refine l_move rfl rfl ?_
    first | refine l_add rfl rfl rfl (w_i64 (by omega) (by omega)) ?_ | refine l_addw rfl rfl rfl ?_
    refine l_move rfl rfl ?_
    first | refine l_add rfl rfl rfl (w_i64 (by omega) (by omega)) ?_ | refine l_addw rfl rfl rfl ?_
    refine l_lss rfl rfl rfl ?_
    refine l_move rfl rfl ?_
    refine l_split 27 rfl ?_ ?_
    · intro hbr
      have hbr := of_decide_eq_true hbr
      refine l_guard_yes rfl rfl ?_
      refine l_move rfl rfl ?_
      refine l_guard_yes rfl rfl ?_
      refine l_move rfl rfl ?_
      refine l_guard_yes rfl rfl ?_
      refine l_move rfl rfl ?_
      refine l_guard_yes rfl rfl ?_
      first | refine l_add rfl rfl rfl (w_i64 (by omega) (by omega)) ?_ | refine l_addw rfl rfl rfl ?_
      refine l_guard_yes rfl rfl ?_
      refine l_lss rfl rfl rfl ?_
      refine l_pick_t rfl rfl rfl ?_
      refine l_nil ?_
      refine g_cond rfl ?_ ?_
      · intro hbr
        have hbr := of_decide_eq_true hbr
        refine g_seq ?_
        refine g_region ?_
        refine l_assign rfl rfl ?_
        refine l_nil ?_
        refine g_ret Try.func46 rfl (.tmp rfl .nil) ?_
        (first | exact Gives.mki ⟨true, rfl, rfl, ⟨fun _ => hA, fun _ => rfl⟩⟩ | exact Gives.mki ⟨false, rfl, rfl, ⟨fun h => (by cases h), fun h => absurd (h i.toNat (by omega)).1 (by unfold pAt; omega)⟩⟩ | exact Gives.mki ⟨false, rfl, rfl, ⟨fun h => (by cases h), fun h => absurd ((h i.toNat (by omega)).2 j.toNat (by omega)) (by unfold pAt; omega)⟩⟩)
      intro hbr
      have hbr := of_decide_eq_false hbr
      refine g_skip ?_
      refine g_seq ?_
      refine g_region ?_
      refine l_move rfl rfl ?_
      refine l_move rfl rfl ?_
      refine l_slice_hi rfl Try.underlying34 Try.sizeOf3 rfl rfl (by omega) (by omega) ?_
      refine l_len rfl Try.underlying34 rfl ?_
      refine l_move rfl rfl ?_
      refine l_nil ?_
      refine g_block ?_
      refine g_loopc (X := Int) [(0, _), (1, _), (2, _), (7, _), (8, _), (9, _), (14, _), (15, _), (16, _), (17, _), (18, _), (19, _), (20, _), (21, _), (22, _), (23, _), (24, _), (25, _), (26, _), (27, _), (28, _), (29, _), (30, _), (31, _), (32, _), (33, _), (34, _), (35, _), (36, _), (37, _)] (.cons rfl (.cons rfl (.cons rfl (.cons rfl (.cons rfl (.cons rfl (.cons rfl (.cons rfl (.cons rfl (.cons rfl (.cons rfl (.cons rfl (.cons rfl (.cons rfl (.cons rfl (.cons rfl (.cons rfl (.cons rfl (.cons rfl (.cons rfl (.cons rfl (.cons rfl (.cons rfl (.cons rfl (.cons rfl (.cons rfl (.cons rfl (.cons rfl (.cons rfl (.cons rfl (.nil))))))))))))))))))))))))))))))) (fun j => 0 ≤ j ∧ j ≤ i ∧ ∀ k : Nat, k < j → ¬ (P.getD i.toNat 0 < P.getD k 0 + (3 + wd) ∧ P.getD k 0 < P.getD i.toNat 0 + (3 + wd))) (fun j => (i - j).toNat) (fun j => [(38, .int .i64 j)]) (0) (⟨by omega, by omega, fun k hk => by omega⟩) (.cons rfl .nil) ?_
      rintro j ⟨j0, j1, hJ⟩ ihj
      dsimp only [List.cons_append, List.nil_append] at ihj ⊢
      refine g_seq ?_
      refine g_region ?_
      refine l_lss rfl rfl rfl ?_
      refine l_nil ?_
      refine g_seq ?_
      refine g_cond rfl ?_ ?_
      · intro hbr
        have hbr := of_decide_eq_true hbr
        refine g_skip ?_
        refine g_seq ?_
        refine g_block ?_
        refine g_seq ?_
        refine g_region ?_
        have hn8 := hin j.toNat (by omega)
        unfold pAt at hn8
        refine l_ixs rfl Try.underlying34 Try.sizeOf3 rfl rfl (by omega) (by omega) ?_
        refine l_loadc rfl Try.isAgg3 rfl (word_any hr9 (by omega)) ?_
        refine l_assign rfl rfl ?_
        refine l_nil ?_
        refine g_seq ?_
        refine g_region ?_
        refine l_move rfl rfl ?_
        refine l_move rfl rfl ?_
        refine l_move rfl rfl ?_
        first | refine l_add rfl rfl rfl (w_i64 (by omega) (by omega)) ?_ | refine l_addw rfl rfl rfl ?_
        refine l_lss rfl rfl rfl ?_
        refine l_move rfl rfl ?_
        refine l_split 47 rfl ?_ ?_
        · intro hbr
          have hbr := of_decide_eq_true hbr
          refine l_guard_yes rfl rfl ?_
          refine l_move rfl rfl ?_
          refine l_guard_yes rfl rfl ?_
          refine l_move rfl rfl ?_
          refine l_guard_yes rfl rfl ?_
          refine l_move rfl rfl ?_
          refine l_guard_yes rfl rfl ?_
          first | refine l_add rfl rfl rfl (w_i64 (by omega) (by omega)) ?_ | refine l_addw rfl rfl rfl ?_
          refine l_guard_yes rfl rfl ?_
          refine l_lss rfl rfl rfl ?_
          refine l_pick_t rfl rfl rfl ?_
          refine l_nil ?_
          refine g_cond rfl ?_ ?_
          · intro hbr
            have hbr := of_decide_eq_true hbr
            refine g_seq ?_
            refine g_region ?_
            refine l_assign rfl rfl ?_
            refine l_nil ?_
            refine g_ret Try.func46 rfl (.tmp rfl .nil) ?_
            (first | exact Gives.mki ⟨true, rfl, rfl, ⟨fun _ => hA, fun _ => rfl⟩⟩ | exact Gives.mki ⟨false, rfl, rfl, ⟨fun h => (by cases h), fun h => absurd (h i.toNat (by omega)).1 (by unfold pAt; omega)⟩⟩ | exact Gives.mki ⟨false, rfl, rfl, ⟨fun h => (by cases h), fun h => absurd ((h i.toNat (by omega)).2 j.toNat (by omega)) (by unfold pAt; omega)⟩⟩)
          intro hbr
          have hbr := of_decide_eq_false hbr
          refine g_skip ?_
          refine g_inBlock ?_
          refine g_region ?_
          first | refine l_add rfl rfl rfl (w_i64 (by omega) (by omega)) ?_ | refine l_addw rfl rfl rfl ?_
          refine l_move rfl rfl ?_
          refine l_nil ?_
          exact g_againi (ihj (j + 1) ⟨by omega, by omega, fun k hk => by rcases (show (k : Int) < j ∨ k = j.toNat by omega) with h | rfl; exact hJ k h; omega⟩ (by omega)) (.cons rfl (.cons rfl (.cons rfl (.cons rfl (.cons rfl (.cons rfl (.cons rfl (.cons rfl (.cons rfl (.cons rfl (.cons rfl (.cons rfl (.cons rfl (.cons rfl (.cons rfl (.cons rfl (.cons rfl (.cons rfl (.cons rfl (.cons rfl (.cons rfl (.cons rfl (.cons rfl (.cons rfl (.cons rfl (.cons rfl (.cons rfl (.cons rfl (.cons rfl (.cons rfl (.cons rfl (.nil))))))))))))))))))))))))))))))))
        intro hbr
        have hbr := of_decide_eq_false hbr
        refine l_guard_no rfl rfl rfl ?_
        refine l_guard_no rfl rfl rfl ?_
        refine l_guard_no rfl rfl rfl ?_
        refine l_guard_no rfl rfl rfl ?_
        refine l_guard_no rfl rfl rfl ?_
        refine l_pick_f rfl rfl rfl ?_
        refine l_nil ?_
        refine g_cond_f rfl ?_
        refine g_skip ?_
        refine g_inBlock ?_
        refine g_region ?_
        first | refine l_add rfl rfl rfl (w_i64 (by omega) (by omega)) ?_ | refine l_addw rfl rfl rfl ?_
        refine l_move rfl rfl ?_
        refine l_nil ?_
        exact g_againi (ihj (j + 1) ⟨by omega, by omega, fun k hk => by rcases (show (k : Int) < j ∨ k = j.toNat by omega) with h | rfl; exact hJ k h; omega⟩ (by omega)) (.cons rfl (.cons rfl (.cons rfl (.cons rfl (.cons rfl (.cons rfl (.cons rfl (.cons rfl (.cons rfl (.cons rfl (.cons rfl (.cons rfl (.cons rfl (.cons rfl (.cons rfl (.cons rfl (.cons rfl (.cons rfl (.cons rfl (.cons rfl (.cons rfl (.cons rfl (.cons rfl (.cons rfl (.cons rfl (.cons rfl (.cons rfl (.cons rfl (.cons rfl (.cons rfl (.cons rfl (.nil))))))))))))))))))))))))))))))))
      intro hbr
      have hbr := of_decide_eq_false hbr
      refine g_exit rfl ?_
      obtain rfl : i = j := by omega
      refine g_inBlock ?_
      refine g_region ?_
      first | refine l_add rfl rfl rfl (w_i64 (by omega) (by omega)) ?_ | refine l_addw rfl rfl rfl ?_
      refine l_move rfl rfl ?_
      refine l_nil ?_
      exact g_againi (ih (i + 1) ⟨by omega, by omega, fun k hk => by rcases (show k < i.toNat ∨ k = i.toNat by omega) with h | rfl; exact hA k h; exact ⟨by unfold pAt; omega, fun k2 hk2 => by unfold pAt; exact hJ k2 (by omega)⟩⟩ (by omega)) (.cons rfl (.cons rfl (.cons rfl (.cons rfl (.cons rfl (.cons rfl (.cons rfl (.nil))))))))
    intro hbr
    have hbr := of_decide_eq_false hbr
    refine l_guard_no rfl rfl rfl ?_
    refine l_guard_no rfl rfl rfl ?_
    refine l_guard_no rfl rfl rfl ?_
    refine l_guard_no rfl rfl rfl ?_
    refine l_guard_no rfl rfl rfl ?_
    refine l_pick_f rfl rfl rfl ?_
    refine l_nil ?_
    refine g_cond_f rfl ?_
    refine g_skip ?_
    refine g_seq ?_
    refine g_region ?_
    refine l_move rfl rfl ?_
    refine l_move rfl rfl ?_
    refine l_slice_hi rfl Try.underlying34 Try.sizeOf3 rfl rfl (by omega) (by omega) ?_
    refine l_len rfl Try.underlying34 rfl ?_
    refine l_move rfl rfl ?_
    refine l_nil ?_
    refine g_block ?_
    refine g_loopc (X := Int) [(0, _), (1, _), (2, _), (7, _), (8, _), (9, _), (14, _), (15, _), (16, _), (17, _), (18, _), (19, _), (20, _), (21, _), (22, _), (23, _), (24, _), (25, _), (26, _), (27, _), (33, _), (34, _), (35, _), (36, _), (37, _)] (.cons rfl (.cons rfl (.cons rfl (.cons rfl (.cons rfl (.cons rfl (.cons rfl (.cons rfl (.cons rfl (.cons rfl (.cons rfl (.cons rfl (.cons rfl (.cons rfl (.cons rfl (.cons rfl (.cons rfl (.cons rfl (.cons rfl (.cons rfl (.cons rfl (.cons rfl (.cons rfl (.cons rfl (.cons rfl (.nil)))))))))))))))))))))))))) (fun j => 0 ≤ j ∧ j ≤ i ∧ ∀ k : Nat, k < j → ¬ (P.getD i.toNat 0 < P.getD k 0 + (3 + wd) ∧ P.getD k 0 < P.getD i.toNat 0 + (3 + wd))) (fun j => (i - j).toNat) (fun j => [(38, .int .i64 j)]) (0) (⟨by omega, by omega, fun k hk => by omega⟩) (.cons rfl .nil) ?_
    rintro j ⟨j0, j1, hJ⟩ ihj
    dsimp only [List.cons_append, List.nil_append] at ihj ⊢
    refine g_seq ?_
    refine g_region ?_
    refine l_lss rfl rfl rfl ?_
    refine l_nil ?_
    refine g_seq ?_
    refine g_cond rfl ?_ ?_
    · intro hbr
      have hbr := of_decide_eq_true hbr
      refine g_skip ?_
      refine g_seq ?_
      refine g_block ?_
      refine g_seq ?_
      refine g_region ?_
      have hn8 := hin j.toNat (by omega)
      unfold pAt at hn8
      refine l_ixs rfl Try.underlying34 Try.sizeOf3 rfl rfl (by omega) (by omega) ?_
      refine l_loadc rfl Try.isAgg3 rfl (word_any hr9 (by omega)) ?_
      refine l_assign rfl rfl ?_
      refine l_nil ?_
      refine g_seq ?_
      refine g_region ?_
      refine l_move rfl rfl ?_
      refine l_move rfl rfl ?_
      refine l_move rfl rfl ?_
      first | refine l_add rfl rfl rfl (w_i64 (by omega) (by omega)) ?_ | refine l_addw rfl rfl rfl ?_
      refine l_lss rfl rfl rfl ?_
      refine l_move rfl rfl ?_
      refine l_split 47 rfl ?_ ?_
      · intro hbr
        have hbr := of_decide_eq_true hbr
        refine l_guard_yes rfl rfl ?_
        refine l_move rfl rfl ?_
        refine l_guard_yes rfl rfl ?_
        refine l_move rfl rfl ?_
        refine l_guard_yes rfl rfl ?_
        refine l_move rfl rfl ?_
        refine l_guard_yes rfl rfl ?_
        first | refine l_add rfl rfl rfl (w_i64 (by omega) (by omega)) ?_ | refine l_addw rfl rfl rfl ?_
        refine l_guard_yes rfl rfl ?_
        refine l_lss rfl rfl rfl ?_
        refine l_pick_t rfl rfl rfl ?_
        refine l_nil ?_
        refine g_cond rfl ?_ ?_
        · intro hbr
          have hbr := of_decide_eq_true hbr
          refine g_seq ?_
          refine g_region ?_
          refine l_assign rfl rfl ?_
          refine l_nil ?_
          refine g_ret Try.func46 rfl (.tmp rfl .nil) ?_
          (first | exact Gives.mki ⟨true, rfl, rfl, ⟨fun _ => hA, fun _ => rfl⟩⟩ | exact Gives.mki ⟨false, rfl, rfl, ⟨fun h => (by cases h), fun h => absurd (h i.toNat (by omega)).1 (by unfold pAt; omega)⟩⟩ | exact Gives.mki ⟨false, rfl, rfl, ⟨fun h => (by cases h), fun h => absurd ((h i.toNat (by omega)).2 j.toNat (by omega)) (by unfold pAt; omega)⟩⟩)
        intro hbr
        have hbr := of_decide_eq_false hbr
        refine g_skip ?_
        refine g_inBlock ?_
        refine g_region ?_
        first | refine l_add rfl rfl rfl (w_i64 (by omega) (by omega)) ?_ | refine l_addw rfl rfl rfl ?_
        refine l_move rfl rfl ?_
        refine l_nil ?_
        exact g_againi (ihj (j + 1) ⟨by omega, by omega, fun k hk => by rcases (show (k : Int) < j ∨ k = j.toNat by omega) with h | rfl; exact hJ k h; omega⟩ (by omega)) (.cons rfl (.cons rfl (.cons rfl (.cons rfl (.cons rfl (.cons rfl (.cons rfl (.cons rfl (.cons rfl (.cons rfl (.cons rfl (.cons rfl (.cons rfl (.cons rfl (.cons rfl (.cons rfl (.cons rfl (.cons rfl (.cons rfl (.cons rfl (.cons rfl (.cons rfl (.cons rfl (.cons rfl (.cons rfl (.cons rfl (.nil)))))))))))))))))))))))))))
      intro hbr
      have hbr := of_decide_eq_false hbr
      refine l_guard_no rfl rfl rfl ?_
      refine l_guard_no rfl rfl rfl ?_
      refine l_guard_no rfl rfl rfl ?_
      refine l_guard_no rfl rfl rfl ?_
      refine l_guard_no rfl rfl rfl ?_
      refine l_pick_f rfl rfl rfl ?_
      refine l_nil ?_
      refine g_cond_f rfl ?_
      refine g_skip ?_
      refine g_inBlock ?_
      refine g_region ?_
      first | refine l_add rfl rfl rfl (w_i64 (by omega) (by omega)) ?_ | refine l_addw rfl rfl rfl ?_
      refine l_move rfl rfl ?_
      refine l_nil ?_
      exact g_againi (ihj (j + 1) ⟨by omega, by omega, fun k hk => by rcases (show (k : Int) < j ∨ k = j.toNat by omega) with h | rfl; exact hJ k h; omega⟩ (by omega)) (.cons rfl (.cons rfl (.cons rfl (.cons rfl (.cons rfl (.cons rfl (.cons rfl (.cons rfl (.cons rfl (.cons rfl (.cons rfl (.cons rfl (.cons rfl (.cons rfl (.cons rfl (.cons rfl (.cons rfl (.cons rfl (.cons rfl (.cons rfl (.cons rfl (.cons rfl (.cons rfl (.cons rfl (.cons rfl (.cons rfl (.nil)))))))))))))))))))))))))))
    intro hbr
    have hbr := of_decide_eq_false hbr
    refine g_exit rfl ?_
    obtain rfl : i = j := by omega
    refine g_inBlock ?_
    refine g_region ?_
    first | refine l_add rfl rfl rfl (w_i64 (by omega) (by omega)) ?_ | refine l_addw rfl rfl rfl ?_
    refine l_move rfl rfl ?_
    refine l_nil ?_
    exact g_againi (ih (i + 1) ⟨by omega, by omega, fun k hk => by rcases (show k < i.toNat ∨ k = i.toNat by omega) with h | rfl; exact hA k h; exact ⟨by unfold pAt; omega, fun k2 hk2 => by unfold pAt; exact hJ k2 (by omega)⟩⟩ (by omega)) (.cons rfl (.cons rfl (.cons rfl (.cons rfl (.cons rfl (.cons rfl (.cons rfl (.nil))))))))
  intro hbr
  have hbr := of_decide_eq_false hbr
  refine g_exit rfl ?_
  obtain rfl : i = q := by omega
  rw [Int.toNat_natCast] at hA
  refine g_seq ?_
  refine g_region ?_
  refine l_assign rfl rfl ?_
  refine l_nil ?_
  refine g_ret Try.func46 rfl (.tmp rfl .nil) ?_
  (first | exact Gives.mki ⟨true, rfl, rfl, ⟨fun _ => hA, fun _ => rfl⟩⟩ | exact Gives.mki ⟨false, rfl, rfl, ⟨fun h => (by cases h), fun h => absurd (h i.toNat (by omega)).1 (by unfold pAt; omega)⟩⟩ | exact Gives.mki ⟨false, rfl, rfl, ⟨fun h => (by cases h), fun h => absurd ((h i.toNat (by omega)).2 j.toNat (by omega)) (by unfold pAt; omega)⟩⟩)
set_option maxHeartbeats 4000000 in
theorem ready_ok (w0 : World) (F : List Atom) (b g n c : Nat) (W : List Int) (hW : W.length = n) (hc : n ≤ c) (hn : n ≤ 1073741824) (hU : W32s W) (h16 : n % 16 = 0) (st : Int) (st0 : -9223372036854775808 ≤ st) (st1 : st ≤ 9223372036854775807) (wd : Int) (wd0 : -9223372036854775808 ≤ wd) (wd1 : wd ≤ 9223372036854775807) (a : Option Addr) (q qc : Nat) (P : List Int) (hI : IR w0 F .i64 a q P) (hP : ∀ i, -9223372036854775808 ≤ P.getD i 0 ∧ P.getD i 0 ≤ 9223372036854775807) (hq : q ≤ 9223372036854775807) (hqc : q ≤ qc) :
    CallK Try.prog 34 [.pointer (some ⟨b, 0, none⟩), .int .i64 st, .int .i64 wd, .slice a q qc] w0 (Blk b (.cells [.slice (some ⟨g, 0, none⟩) n c].toArray 63 (0, 0)) :: Own 28 1 (.slice (some ⟨g, 0, none⟩) n c) n (ints .u32 W) :: F) (Gives w0 fun v F2 => ∃ e, v = .int .i64 e ∧ F2 = Blk b (.cells [.slice (some ⟨g, 0, none⟩) n c].toArray 63 (0, 0)) :: Own 28 1 (.slice (some ⟨g, 0, none⟩) n c) n (ints .u32 W) :: F ∧ ReadyG W n st wd P q e) := by
  have hl := hI.1
  refine c_enter Try.func34 rfl rfl rfl ?_
  refine g_seq ?_
  refine g_region ?_
  refine l_assign rfl rfl ?_
  refine l_nil ?_
  refine g_seq ?_
  refine g_seq ?_
  refine g_region ?_
  refine l_move rfl rfl ?_
  refine l_move rfl rfl ?_
  refine l_call rfl Try.call28 rfl (may_ok _ _ b wd wd0 wd1) ?_; rintro _ F9 ⟨e1, rfl, hF9, he1⟩; rw [hF9]; clear hF9 F9
  have hwd9 : e1 = 0 → WdOk wd := fun h => by rcases he1 with h2 | h2; omega; exact h2.2
  have hwd8 : e1 ≠ 0 → e1 = 1 ∧ ¬ WdOk wd := fun h => by rcases he1 with h2 | h2; exact h2; omega
  unfold WdOk at he1
  refine l_assign rfl rfl ?_
  refine l_nil ?_
  refine g_seq ?_
  refine g_region ?_
  refine l_move rfl rfl ?_
  refine l_neq rfl rfl rfl ?_
  refine l_nil ?_
  refine g_cond rfl ?_ ?_
  · intro hbr
    have hbr := of_decide_eq_true hbr
    refine g_seq ?_
    refine g_region ?_
    refine l_move rfl rfl ?_
    refine l_assign rfl rfl ?_
    refine l_nil ?_
    refine g_ret Try.func34 rfl (.tmp rfl .nil) ?_
    (first | exact Gives.mki ⟨e1, rfl, rfl, .inl ⟨(hwd8 (by omega)).1, fun h => (hwd8 (by omega)).2 h.1⟩⟩ | exact Gives.mki ⟨1, rfl, rfl, .inl ⟨rfl, fun h => by have := h.2; omega⟩⟩ | exact Gives.mki ⟨e2, rfl, rfl, .inr (.inl ⟨(hs3 (by omega)).1, ⟨hwd9 (by omega), by omega, by omega⟩, .inl (hs3 (by omega)).2⟩)⟩ | exact Gives.mki ⟨e5, rfl, rfl, .inr (.inl ⟨(hin8 (by omega)).1, ⟨hwd9 (by omega), by omega, by omega⟩, .inr ⟨i.toNat, by omega, (hin8 (by omega)).2⟩⟩)⟩ | exact Gives.mki ⟨191, rfl, rfl, .inr (.inr (.inl ⟨rfl, ⟨⟨hwd, by omega, by omega⟩, hst, hA9⟩, .inl fun h => by have := hta.2 h; simp_all⟩))⟩ | exact Gives.mki ⟨e4, rfl, rfl, .inr (.inr (.inl ⟨(hh8 (by omega)).1, ⟨⟨hwd, by omega, by omega⟩, hst, hA9⟩, .inr ⟨i.toNat, by omega, (hh8 (by omega)).2⟩⟩))⟩ | exact Gives.mki ⟨0, rfl, rfl, .inr (.inr (.inr ⟨rfl, ⟨⟨hwd, by omega, by omega⟩, hst, hA9⟩, hta.1 (by cases ta <;> first | rfl | (simp at hb59)), fun k hk => hA k (by omega)⟩))⟩)
  intro hbr
  have hbr := of_decide_eq_false hbr
  refine g_skip ?_
  refine g_seq ?_
  refine g_seq ?_
  refine g_region ?_
  refine l_move rfl rfl ?_
  refine l_len rfl Try.underlying34 rfl ?_
  refine l_lss rfl rfl rfl ?_
  refine l_move rfl rfl ?_
  refine l_split 27 rfl ?_ ?_
  · intro hbr
    have hbr := of_decide_eq_true hbr
    refine l_guard_no rfl rfl rfl ?_
    refine l_guard_no rfl rfl rfl ?_
    refine l_guard_no rfl rfl rfl ?_
    refine l_pick_t rfl rfl rfl ?_
    refine l_nil ?_
    refine g_cond_t rfl ?_
    refine g_seq ?_
    refine g_region ?_
    refine l_assign rfl rfl ?_
    refine l_nil ?_
    refine g_ret Try.func34 rfl (.tmp rfl .nil) ?_
    (first | exact Gives.mki ⟨e1, rfl, rfl, .inl ⟨(hwd8 (by omega)).1, fun h => (hwd8 (by omega)).2 h.1⟩⟩ | exact Gives.mki ⟨1, rfl, rfl, .inl ⟨rfl, fun h => by have := h.2; omega⟩⟩ | exact Gives.mki ⟨e2, rfl, rfl, .inr (.inl ⟨(hs3 (by omega)).1, ⟨hwd9 (by omega), by omega, by omega⟩, .inl (hs3 (by omega)).2⟩)⟩ | exact Gives.mki ⟨e5, rfl, rfl, .inr (.inl ⟨(hin8 (by omega)).1, ⟨hwd9 (by omega), by omega, by omega⟩, .inr ⟨i.toNat, by omega, (hin8 (by omega)).2⟩⟩)⟩ | exact Gives.mki ⟨191, rfl, rfl, .inr (.inr (.inl ⟨rfl, ⟨⟨hwd, by omega, by omega⟩, hst, hA9⟩, .inl fun h => by have := hta.2 h; simp_all⟩))⟩ | exact Gives.mki ⟨e4, rfl, rfl, .inr (.inr (.inl ⟨(hh8 (by omega)).1, ⟨⟨hwd, by omega, by omega⟩, hst, hA9⟩, .inr ⟨i.toNat, by omega, (hh8 (by omega)).2⟩⟩))⟩ | exact Gives.mki ⟨0, rfl, rfl, .inr (.inr (.inr ⟨rfl, ⟨⟨hwd, by omega, by omega⟩, hst, hA9⟩, hta.1 (by cases ta <;> first | rfl | (simp at hb59)), fun k hk => hA k (by omega)⟩))⟩)
  intro hbr
  have hbr := of_decide_eq_false hbr
  refine l_guard_yes rfl rfl ?_
  refine l_move rfl rfl ?_
  refine l_guard_yes rfl rfl ?_
  refine l_len rfl Try.underlying34 rfl ?_
  refine l_guard_yes rfl rfl ?_
  refine l_gtr rfl rfl rfl ?_
  refine l_pick_f rfl rfl rfl ?_
  refine l_nil ?_
  refine g_cond rfl ?_ ?_
  · intro hbr
    have hbr := of_decide_eq_true hbr
    refine g_seq ?_
    refine g_region ?_
    refine l_assign rfl rfl ?_
    refine l_nil ?_
    refine g_ret Try.func34 rfl (.tmp rfl .nil) ?_
    (first | exact Gives.mki ⟨e1, rfl, rfl, .inl ⟨(hwd8 (by omega)).1, fun h => (hwd8 (by omega)).2 h.1⟩⟩ | exact Gives.mki ⟨1, rfl, rfl, .inl ⟨rfl, fun h => by have := h.2; omega⟩⟩ | exact Gives.mki ⟨e2, rfl, rfl, .inr (.inl ⟨(hs3 (by omega)).1, ⟨hwd9 (by omega), by omega, by omega⟩, .inl (hs3 (by omega)).2⟩)⟩ | exact Gives.mki ⟨e5, rfl, rfl, .inr (.inl ⟨(hin8 (by omega)).1, ⟨hwd9 (by omega), by omega, by omega⟩, .inr ⟨i.toNat, by omega, (hin8 (by omega)).2⟩⟩)⟩ | exact Gives.mki ⟨191, rfl, rfl, .inr (.inr (.inl ⟨rfl, ⟨⟨hwd, by omega, by omega⟩, hst, hA9⟩, .inl fun h => by have := hta.2 h; simp_all⟩))⟩ | exact Gives.mki ⟨e4, rfl, rfl, .inr (.inr (.inl ⟨(hh8 (by omega)).1, ⟨⟨hwd, by omega, by omega⟩, hst, hA9⟩, .inr ⟨i.toNat, by omega, (hh8 (by omega)).2⟩⟩))⟩ | exact Gives.mki ⟨0, rfl, rfl, .inr (.inr (.inr ⟨rfl, ⟨⟨hwd, by omega, by omega⟩, hst, hA9⟩, hta.1 (by cases ta <;> first | rfl | (simp at hb59)), fun k hk => hA k (by omega)⟩))⟩)
  intro hbr
  have hbr := of_decide_eq_false hbr
  refine g_skip ?_
  refine g_seq ?_
  refine g_seq ?_
  refine g_region ?_
  refine l_move rfl rfl ?_
  refine l_move rfl rfl ?_
  refine l_move rfl rfl ?_
  first | refine l_add rfl rfl rfl (w_i64 (by omega) (by omega)) ?_ | refine l_addw rfl rfl rfl ?_
  refine l_call rfl Try.call29 rfl (stands_ok _ _ b g n c W hW hc hn h16 st st0 st1 (2 + wd) (by omega) (by omega)) ?_; rintro _ _ ⟨e2, rfl, rfl, he2⟩
  have hs2 : e2 = 0 → inR n st (2 + wd) := fun h => by rcases he2 with h2 | h2; omega; exact h2.2
  have hs3 : e2 ≠ 0 → e2 = 51 ∧ ¬ inR n st (2 + wd) := fun h => by rcases he2 with h2 | h2; exact h2; omega
  have he2b : e2 = 51 ∨ e2 = 0 := by omega
  clear he2
  refine l_assign rfl rfl ?_
  refine l_nil ?_
  refine g_seq ?_
  refine g_region ?_
  refine l_move rfl rfl ?_
  refine l_neq rfl rfl rfl ?_
  refine l_nil ?_
  refine g_cond rfl ?_ ?_
  · intro hbr
    have hbr := of_decide_eq_true hbr
    refine g_seq ?_
    refine g_region ?_
    refine l_move rfl rfl ?_
    refine l_assign rfl rfl ?_
    refine l_nil ?_
    refine g_ret Try.func34 rfl (.tmp rfl .nil) ?_
    (first | exact Gives.mki ⟨e1, rfl, rfl, .inl ⟨(hwd8 (by omega)).1, fun h => (hwd8 (by omega)).2 h.1⟩⟩ | exact Gives.mki ⟨1, rfl, rfl, .inl ⟨rfl, fun h => by have := h.2; omega⟩⟩ | exact Gives.mki ⟨e2, rfl, rfl, .inr (.inl ⟨(hs3 (by omega)).1, ⟨hwd9 (by omega), by omega, by omega⟩, .inl (hs3 (by omega)).2⟩)⟩ | exact Gives.mki ⟨e5, rfl, rfl, .inr (.inl ⟨(hin8 (by omega)).1, ⟨hwd9 (by omega), by omega, by omega⟩, .inr ⟨i.toNat, by omega, (hin8 (by omega)).2⟩⟩)⟩ | exact Gives.mki ⟨191, rfl, rfl, .inr (.inr (.inl ⟨rfl, ⟨⟨hwd, by omega, by omega⟩, hst, hA9⟩, .inl fun h => by have := hta.2 h; simp_all⟩))⟩ | exact Gives.mki ⟨e4, rfl, rfl, .inr (.inr (.inl ⟨(hh8 (by omega)).1, ⟨⟨hwd, by omega, by omega⟩, hst, hA9⟩, .inr ⟨i.toNat, by omega, (hh8 (by omega)).2⟩⟩))⟩ | exact Gives.mki ⟨0, rfl, rfl, .inr (.inr (.inr ⟨rfl, ⟨⟨hwd, by omega, by omega⟩, hst, hA9⟩, hta.1 (by cases ta <;> first | rfl | (simp at hb59)), fun k hk => hA k (by omega)⟩))⟩)
  intro hbr
  have hbr := of_decide_eq_false hbr
  refine g_skip ?_
  refine g_seq ?_
  refine g_seq ?_
  refine g_region ?_
  refine l_move rfl rfl ?_
  refine l_len rfl Try.underlying34 rfl ?_
  refine l_move rfl rfl ?_
  refine l_nil ?_
  refine g_block ?_
  refine g_loopc (X := Int) [(0, _), (1, _), (2, _), (3, _), (40, _), (41, _)] (.cons rfl (.cons rfl (.cons rfl (.cons rfl (.cons rfl (.cons rfl (.nil))))))) (fun i => 0 ≤ i ∧ i ≤ q ∧ ∀ k : Nat, k < i → inR n (pAt P k) (3 + wd)) (fun i => (q - i).toNat) (fun i => [(42, .int .i64 i)]) (0) (⟨by omega, by omega, fun k hk => by omega⟩) (.cons rfl .nil) ?_
  rintro i ⟨i0, i1, hA⟩ ih
  dsimp only [List.cons_append, List.nil_append] at ih ⊢
  refine g_seq ?_
  refine g_region ?_
  refine l_lss rfl rfl rfl ?_
  refine l_nil ?_
  refine g_seq ?_
  refine g_cond rfl ?_ ?_
  · intro hbr
    have hbr := of_decide_eq_true hbr
    refine g_skip ?_
    refine g_seq ?_
    refine g_block ?_
    refine g_seq ?_
    refine g_region ?_
    obtain ⟨b9, o9, rfl, hr9⟩ := hI.some (i := i.toNat) (by omega)
    have hb9 := hP i.toNat
    refine l_ixs rfl Try.underlying34 Try.sizeOf3 rfl rfl (by omega) (by omega) ?_
    refine l_loadc rfl Try.isAgg3 rfl (word_any hr9 (by omega)) ?_
    refine l_assign rfl rfl ?_
    refine l_nil ?_
    refine g_seq ?_
    refine g_region ?_
    refine l_move rfl rfl ?_
    refine l_move rfl rfl ?_
    refine l_move rfl rfl ?_
    first | refine l_add rfl rfl rfl (w_i64 (by omega) (by omega)) ?_ | refine l_addw rfl rfl rfl ?_
    refine l_call rfl Try.call29 rfl (stands_ok _ _ b g n c W hW hc hn h16 (P.getD i.toNat 0) (by omega) (by omega) (3 + wd) (by omega) (by omega)) ?_; rintro _ _ ⟨e5, rfl, rfl, he5⟩
    have hin9 : e5 = 0 → inR n (pAt P i.toNat) (3 + wd) := fun h => by rcases he5 with h2 | h2; omega; exact h2.2
    have hin8 : e5 ≠ 0 → e5 = 51 ∧ ¬ inR n (pAt P i.toNat) (3 + wd) := fun h => by rcases he5 with h2 | h2; exact h2; omega
    clear he5
    refine l_assign rfl rfl ?_
    refine l_nil ?_
    refine g_seq ?_
    refine g_region ?_
    refine l_move rfl rfl ?_
    refine l_neq rfl rfl rfl ?_
    refine l_nil ?_
    refine g_cond rfl ?_ ?_
    · intro hbr
      have hbr := of_decide_eq_true hbr
      refine g_seq ?_
      refine g_region ?_
      refine l_move rfl rfl ?_
      refine l_assign rfl rfl ?_
      refine l_nil ?_
      refine g_ret Try.func34 rfl (.tmp rfl .nil) ?_
      (first | exact Gives.mki ⟨e1, rfl, rfl, .inl ⟨(hwd8 (by omega)).1, fun h => (hwd8 (by omega)).2 h.1⟩⟩ | exact Gives.mki ⟨1, rfl, rfl, .inl ⟨rfl, fun h => by have := h.2; omega⟩⟩ | exact Gives.mki ⟨e2, rfl, rfl, .inr (.inl ⟨(hs3 (by omega)).1, ⟨hwd9 (by omega), by omega, by omega⟩, .inl (hs3 (by omega)).2⟩)⟩ | exact Gives.mki ⟨e5, rfl, rfl, .inr (.inl ⟨(hin8 (by omega)).1, ⟨hwd9 (by omega), by omega, by omega⟩, .inr ⟨i.toNat, by omega, (hin8 (by omega)).2⟩⟩)⟩ | exact Gives.mki ⟨191, rfl, rfl, .inr (.inr (.inl ⟨rfl, ⟨⟨hwd, by omega, by omega⟩, hst, hA9⟩, .inl fun h => by have := hta.2 h; simp_all⟩))⟩ | exact Gives.mki ⟨e4, rfl, rfl, .inr (.inr (.inl ⟨(hh8 (by omega)).1, ⟨⟨hwd, by omega, by omega⟩, hst, hA9⟩, .inr ⟨i.toNat, by omega, (hh8 (by omega)).2⟩⟩))⟩ | exact Gives.mki ⟨0, rfl, rfl, .inr (.inr (.inr ⟨rfl, ⟨⟨hwd, by omega, by omega⟩, hst, hA9⟩, hta.1 (by cases ta <;> first | rfl | (simp at hb59)), fun k hk => hA k (by omega)⟩))⟩)
    intro hbr
    have hbr := of_decide_eq_false hbr
    refine g_skip ?_
    refine g_inBlock ?_
    refine g_region ?_
    first | refine l_add rfl rfl rfl (w_i64 (by omega) (by omega)) ?_ | refine l_addw rfl rfl rfl ?_
    refine l_move rfl rfl ?_
    refine l_nil ?_
    exact g_againi (ih (i + 1) ⟨by omega, by omega, fun k hk => by rcases (show (k : Int) < i ∨ k = i.toNat by omega) with h | rfl; exact hA k h; exact hin9 (by omega)⟩ (by omega)) (.cons rfl (.cons rfl (.cons rfl (.cons rfl (.cons rfl (.cons rfl (.cons rfl (.nil))))))))
  intro hbr
  have hbr := of_decide_eq_false hbr
  refine g_exit rfl ?_
  obtain rfl : i = q := by omega
  refine g_seq ?_
  refine g_seq ?_
  refine g_region ?_
  refine l_move rfl rfl ?_
  refine l_move rfl rfl ?_
  refine l_move rfl rfl ?_
  have hwd : WdOk wd := hwd9 (by omega)
  have hwd2 := hwd
  unfold WdOk at hwd2
  have hst := hs2 (by omega)
  have hst2 := hst
  unfold inR at hst2
  have hA9 : ∀ i, i < q → inR n (pAt P i) (3 + wd) := fun i hi => hA i (by omega)
  clear hs2 hs3 hwd9 hwd8
  refine l_call rfl Try.call46 rfl (apart_ok _ _ st wd (by omega) (by omega) hwd2 a q qc P hI.ex hP hq hqc (fun i hi => by have := hA9 i hi; unfold inR at this; omega)) ?_; rintro _ _ ⟨ta, rfl, rfl, hta⟩
  refine l_not rfl rfl ?_
  refine l_nil ?_
  refine g_cond rfl ?_ ?_
  · intro hbr
    have hb59 := hbr
    refine g_seq ?_
    refine g_region ?_
    refine l_assign rfl rfl ?_
    refine l_nil ?_
    refine g_ret Try.func34 rfl (.tmp rfl .nil) ?_
    (first | exact Gives.mki ⟨e1, rfl, rfl, .inl ⟨(hwd8 (by omega)).1, fun h => (hwd8 (by omega)).2 h.1⟩⟩ | exact Gives.mki ⟨1, rfl, rfl, .inl ⟨rfl, fun h => by have := h.2; omega⟩⟩ | exact Gives.mki ⟨e2, rfl, rfl, .inr (.inl ⟨(hs3 (by omega)).1, ⟨hwd9 (by omega), by omega, by omega⟩, .inl (hs3 (by omega)).2⟩)⟩ | exact Gives.mki ⟨e5, rfl, rfl, .inr (.inl ⟨(hin8 (by omega)).1, ⟨hwd9 (by omega), by omega, by omega⟩, .inr ⟨i.toNat, by omega, (hin8 (by omega)).2⟩⟩)⟩ | exact Gives.mki ⟨191, rfl, rfl, .inr (.inr (.inl ⟨rfl, ⟨⟨hwd, by omega, by omega⟩, hst, hA9⟩, .inl fun h => by have := hta.2 h; simp_all⟩))⟩ | exact Gives.mki ⟨e4, rfl, rfl, .inr (.inr (.inl ⟨(hh8 (by omega)).1, ⟨⟨hwd, by omega, by omega⟩, hst, hA9⟩, .inr ⟨i.toNat, by omega, (hh8 (by omega)).2⟩⟩))⟩ | exact Gives.mki ⟨0, rfl, rfl, .inr (.inr (.inr ⟨rfl, ⟨⟨hwd, by omega, by omega⟩, hst, hA9⟩, hta.1 (by cases ta <;> first | rfl | (simp at hb59)), fun k hk => hA k (by omega)⟩))⟩)
  intro hbr
  have hb59 := hbr
  refine g_skip ?_
  refine g_seq ?_
  refine g_seq ?_
  refine g_region ?_
  refine l_move rfl rfl ?_
  refine l_len rfl Try.underlying34 rfl ?_
  refine l_move rfl rfl ?_
  refine l_nil ?_
  refine g_block ?_
  refine g_loopc (X := Int) [(0, _), (2, _), (60, _), (61, _)] (.cons rfl (.cons rfl (.cons rfl (.cons rfl (.nil))))) (fun i => 0 ≤ i ∧ i ≤ q ∧ ∀ k : Nat, k < i → ∃ T, heldV (part W (pAt P k) (3 + wd)) 3 = some T) (fun i => (q - i).toNat) (fun i => [(62, .int .i64 i)]) (0) (⟨by omega, by omega, fun k hk => by omega⟩) (.cons rfl .nil) ?_
  rintro i ⟨i0, i1, hA⟩ ih
  dsimp only [List.cons_append, List.nil_append] at ih ⊢
  refine g_seq ?_
  refine g_region ?_
  refine l_lss rfl rfl rfl ?_
  refine l_nil ?_
  refine g_seq ?_
  refine g_cond rfl ?_ ?_
  · intro hbr
    have hbr := of_decide_eq_true hbr
    refine g_skip ?_
    refine g_seq ?_
    refine g_block ?_
    refine g_seq ?_
    refine g_region ?_
    obtain ⟨b9, o9, rfl, hr9⟩ := hI.some (i := i.toNat) (by omega)
    have hb9 := hP i.toNat
    refine l_ixs rfl Try.underlying34 Try.sizeOf3 rfl rfl (by omega) (by omega) ?_
    refine l_loadc rfl Try.isAgg3 rfl (word_any hr9 (by omega)) ?_
    refine l_assign rfl rfl ?_
    refine l_nil ?_
    refine g_seq ?_
    refine g_region ?_
    refine l_move rfl rfl ?_
    refine l_move rfl rfl ?_
    refine l_move rfl rfl ?_
    refine l_call rfl Try.call30 rfl (read_g _ _ b g n c W hW hc hn hU (P.getD i.toNat 0) (by omega) (by omega) wd hwd 3 (by omega) (by omega)) ?_; rintro _ _ ⟨ar, qr, cr, T, e4, rfl, hT, har, rfl, hRd⟩
    have hi9 := hA9 i.toNat (by omega)
    have hh9 : e4 = 0 → ∃ T, heldV (part W (pAt P i.toNat) (3 + wd)) 3 = some T := fun h => by rcases hRd with h2 | h2 | h2; omega; omega; exact ⟨_, h2.2.2⟩
    have hh8 : e4 ≠ 0 → e4 = 191 ∧ heldV (part W (pAt P i.toNat) (3 + wd)) 3 = none := fun h => by rcases hRd with h2 | h2 | h2; exact absurd hi9 h2.2.2; exact ⟨h2.1, h2.2.2.2⟩; omega
    clear hRd
    refine l_move rfl rfl ?_
    refine l_extract rfl rfl rfl ?_
    refine l_extract rfl rfl rfl ?_
    refine l_assign rfl rfl ?_
    refine l_assign rfl rfl ?_
    refine l_nil ?_
    refine g_seq ?_
    refine g_region ?_
    refine l_move rfl rfl ?_
    refine l_neq rfl rfl rfl ?_
    refine l_nil ?_
    refine g_cond rfl ?_ ?_
    · intro hbr
      have hbr := of_decide_eq_true hbr
      refine g_seq ?_
      refine g_region ?_
      refine l_move rfl rfl ?_
      refine l_assign rfl rfl ?_
      refine l_nil ?_
      refine g_ret Try.func34 rfl (.tmp rfl .nil) ?_
      (first | exact Gives.mki ⟨e1, rfl, rfl, .inl ⟨(hwd8 (by omega)).1, fun h => (hwd8 (by omega)).2 h.1⟩⟩ | exact Gives.mki ⟨1, rfl, rfl, .inl ⟨rfl, fun h => by have := h.2; omega⟩⟩ | exact Gives.mki ⟨e2, rfl, rfl, .inr (.inl ⟨(hs3 (by omega)).1, ⟨hwd9 (by omega), by omega, by omega⟩, .inl (hs3 (by omega)).2⟩)⟩ | exact Gives.mki ⟨e5, rfl, rfl, .inr (.inl ⟨(hin8 (by omega)).1, ⟨hwd9 (by omega), by omega, by omega⟩, .inr ⟨i.toNat, by omega, (hin8 (by omega)).2⟩⟩)⟩ | exact Gives.mki ⟨191, rfl, rfl, .inr (.inr (.inl ⟨rfl, ⟨⟨hwd, by omega, by omega⟩, hst, hA9⟩, .inl fun h => by have := hta.2 h; simp_all⟩))⟩ | exact Gives.mki ⟨e4, rfl, rfl, .inr (.inr (.inl ⟨(hh8 (by omega)).1, ⟨⟨hwd, by omega, by omega⟩, hst, hA9⟩, .inr ⟨i.toNat, by omega, (hh8 (by omega)).2⟩⟩))⟩ | exact Gives.mki ⟨0, rfl, rfl, .inr (.inr (.inr ⟨rfl, ⟨⟨hwd, by omega, by omega⟩, hst, hA9⟩, hta.1 (by cases ta <;> first | rfl | (simp at hb59)), fun k hk => hA k (by omega)⟩))⟩)
    intro hbr
    have hbr := of_decide_eq_false hbr
    refine g_skip ?_
    refine g_inBlock ?_
    refine g_region ?_
    first | refine l_add rfl rfl rfl (w_i64 (by omega) (by omega)) ?_ | refine l_addw rfl rfl rfl ?_
    refine l_move rfl rfl ?_
    refine l_nil ?_
    exact g_againi (ih (i + 1) ⟨by omega, by omega, fun k hk => by rcases (show (k : Int) < i ∨ k = i.toNat by omega) with h | rfl; exact hA k h; exact hh9 (by omega)⟩ (by omega)) (.cons rfl (.cons rfl (.cons rfl (.cons rfl (.cons rfl (.nil))))))
  intro hbr
  have hbr := of_decide_eq_false hbr
  refine g_exit rfl ?_
  obtain rfl : i = q := by omega
  refine g_seq ?_
  refine g_region ?_
  refine l_assign rfl rfl ?_
  refine l_nil ?_
  refine g_ret Try.func34 rfl (.tmp rfl .nil) ?_
  (first | exact Gives.mki ⟨e1, rfl, rfl, .inl ⟨(hwd8 (by omega)).1, fun h => (hwd8 (by omega)).2 h.1⟩⟩ | exact Gives.mki ⟨1, rfl, rfl, .inl ⟨rfl, fun h => by have := h.2; omega⟩⟩ | exact Gives.mki ⟨e2, rfl, rfl, .inr (.inl ⟨(hs3 (by omega)).1, ⟨hwd9 (by omega), by omega, by omega⟩, .inl (hs3 (by omega)).2⟩)⟩ | exact Gives.mki ⟨e5, rfl, rfl, .inr (.inl ⟨(hin8 (by omega)).1, ⟨hwd9 (by omega), by omega, by omega⟩, .inr ⟨i.toNat, by omega, (hin8 (by omega)).2⟩⟩)⟩ | exact Gives.mki ⟨191, rfl, rfl, .inr (.inr (.inl ⟨rfl, ⟨⟨hwd, by omega, by omega⟩, hst, hA9⟩, .inl fun h => by have := hta.2 h; simp_all⟩))⟩ | exact Gives.mki ⟨e4, rfl, rfl, .inr (.inr (.inl ⟨(hh8 (by omega)).1, ⟨⟨hwd, by omega, by omega⟩, hst, hA9⟩, .inr ⟨i.toNat, by omega, (hh8 (by omega)).2⟩⟩))⟩ | exact Gives.mki ⟨0, rfl, rfl, .inr (.inr (.inr ⟨rfl, ⟨⟨hwd, by omega, by omega⟩, hst, hA9⟩, hta.1 (by cases ta <;> first | rfl | (simp at hb59)), fun k hk => hA k (by omega)⟩))⟩)
set_option maxHeartbeats 4000000 in
theorem deliver_ok (w0 : World) (F : List Atom) (b g n c : Nat) (W : List Int) (hW : W.length = n) (hc : n ≤ c) (hn : n ≤ 1073741824) (hU : W32s W) (h16 : n % 16 = 0) (st : Int) (st0 : -9223372036854775808 ≤ st) (st1 : st ≤ 9223372036854775807) (wd : Int) (wd0 : -9223372036854775808 ≤ wd) (wd1 : wd ≤ 9223372036854775807) (a : Option Addr) (q qc : Nat) (P : List Int) (hI : IR w0 F .i64 a q P) (hP : ∀ i, -9223372036854775808 ≤ P.getD i 0 ∧ P.getD i 0 ≤ 9223372036854775807) (hq : q ≤ 9223372036854775807) (hqc : q ≤ qc) :
    CallK Try.prog 16 [.pointer (some ⟨b, 0, none⟩), .int .i64 st, .int .i64 wd, .slice a q qc] w0 (Blk b (.cells [.slice (some ⟨g, 0, none⟩) n c].toArray 63 (0, 0)) :: Own 28 1 (.slice (some ⟨g, 0, none⟩) n c) n (ints .u32 W) :: F) (Gives w0 fun v F2 => ∃ W2 e, v = .int .i64 e ∧ W2.length = n ∧ F2 = Blk b (.cells [.slice (some ⟨g, 0, none⟩) n c].toArray 63 (0, 0)) :: Own 28 1 (.slice (some ⟨g, 0, none⟩) n c) n (ints .u32 W2) :: F ∧ DelG W n st wd P q W2 e) := by
  have hl := hI.1
  refine c_enter Try.func16 rfl rfl rfl ?_
  refine g_seq ?_
  refine g_region ?_
  refine l_assign rfl rfl ?_
  refine l_nil ?_
  refine g_seq ?_
  refine g_seq ?_
  refine g_region ?_
  refine l_move rfl rfl ?_
  refine l_move rfl rfl ?_
  refine l_move rfl rfl ?_
  refine l_move rfl rfl ?_
  refine l_call rfl Try.call34 rfl (ready_ok _ _ b g n c W hW hc hn hU h16 st st0 st1 wd wd0 wd1 a q qc P hI hP hq hqc) ?_; rintro _ _ ⟨e1, rfl, rfl, hR⟩
  refine l_assign rfl rfl ?_
  refine l_nil ?_
  refine g_seq ?_
  refine g_region ?_
  refine l_move rfl rfl ?_
  refine l_neq rfl rfl rfl ?_
  refine l_nil ?_
  refine g_cond rfl ?_ ?_
  · intro hbr
    have hbr := of_decide_eq_true hbr
    refine g_seq ?_
    refine g_region ?_
    refine l_move rfl rfl ?_
    refine l_assign rfl rfl ?_
    refine l_nil ?_
    refine g_ret Try.func16 rfl (.tmp rfl .nil) ?_
    (first | exact Gives.mki ⟨W, e1, rfl, hW, rfl, .inl ⟨by omega, rfl, .inl hR⟩⟩ | (obtain rfl : e1 = 0 := (by omega); exact Gives.mki ⟨W, e4, rfl, hW, rfl, .inl ⟨by omega, rfl, .inr ⟨hR, hh8 (by omega)⟩⟩⟩) | (obtain rfl : e1 = 0 := (by omega); exact Gives.mki ⟨_, 0, rfl, hcl, rfl, .inr ⟨rfl, hR, .inl ⟨by have h5 := hh9 (by omega); rwa [List.length_eq_zero_iff.1 (show T.length = 0 by omega)] at h5, rfl⟩⟩⟩) | (obtain rfl : e1 = 0 := (by omega); exact Gives.mki ⟨_, 0, rfl, by rw [spl_length (by simp; omega)]; exact hpl, rfl, .inr ⟨rfl, hR, .inr ⟨T, hh9 (by omega), by omega, rfl⟩⟩⟩))
  intro hbr
  have hbr := of_decide_eq_false hbr
  refine g_skip ?_
  refine g_seq ?_
  refine g_region ?_
  refine l_move rfl rfl ?_
  refine l_move rfl rfl ?_
  refine l_move rfl rfl ?_
  have hrd : Rdy0 n st wd P q := hR.rdy (by omega)
  have hwd := hrd.1.1
  have hst := hrd.2.1
  have hA9 := hrd.2.2
  have hq4 := hrd.1.2
  have hwd2 := hwd
  unfold WdOk at hwd2
  have hst2 := hst
  unfold inR at hst2
  have hpr := part_len hW hst
  refine l_call rfl Try.call30 rfl (read_g _ _ b g n c W hW hc hn hU st st0 st1 wd hwd 2 (by omega) (by omega)) ?_; rintro _ _ ⟨ar, qr, cr, T, e4, rfl, hT, har, rfl, hRd⟩
  have hh9 : e4 = 0 → heldV (part W st (2 + wd)) 2 = some T := fun h => by rcases hRd with h2 | h2 | h2; omega; omega; exact h2.2.2
  have hh8 : e4 ≠ 0 → e4 = 191 ∧ heldV (part W st (2 + wd)) 2 = none := fun h => by rcases hRd with h2 | h2 | h2; exact absurd hst h2.2.2; exact ⟨h2.1, h2.2.2.2⟩; omega
  clear hRd
  refine l_move rfl rfl ?_
  refine l_extract rfl rfl rfl ?_
  refine l_extract rfl rfl rfl ?_
  refine l_assign rfl rfl ?_
  refine l_assign rfl rfl ?_
  refine l_nil ?_
  refine g_seq ?_
  refine g_seq ?_
  refine g_region ?_
  refine l_move rfl rfl ?_
  refine l_neq rfl rfl rfl ?_
  refine l_nil ?_
  refine g_cond rfl ?_ ?_
  · intro hbr
    have hbr := of_decide_eq_true hbr
    refine g_seq ?_
    refine g_region ?_
    refine l_move rfl rfl ?_
    refine l_assign rfl rfl ?_
    refine l_nil ?_
    refine g_ret Try.func16 rfl (.tmp rfl .nil) ?_
    (first | exact Gives.mki ⟨W, e1, rfl, hW, rfl, .inl ⟨by omega, rfl, .inl hR⟩⟩ | (obtain rfl : e1 = 0 := (by omega); exact Gives.mki ⟨W, e4, rfl, hW, rfl, .inl ⟨by omega, rfl, .inr ⟨hR, hh8 (by omega)⟩⟩⟩) | (obtain rfl : e1 = 0 := (by omega); exact Gives.mki ⟨_, 0, rfl, hcl, rfl, .inr ⟨rfl, hR, .inl ⟨by have h5 := hh9 (by omega); rwa [List.length_eq_zero_iff.1 (show T.length = 0 by omega)] at h5, rfl⟩⟩⟩) | (obtain rfl : e1 = 0 := (by omega); exact Gives.mki ⟨_, 0, rfl, by rw [spl_length (by simp; omega)]; exact hpl, rfl, .inr ⟨rfl, hR, .inr ⟨T, hh9 (by omega), by omega, rfl⟩⟩⟩))
  intro hbr
  have hbr := of_decide_eq_false hbr
  refine g_skip ?_
  refine g_seq ?_
  refine g_seq ?_
  refine g_region ?_
  refine l_move rfl rfl ?_
  refine l_len rfl Try.underlying29 rfl ?_
  refine l_eql rfl rfl rfl ?_
  refine l_nil ?_
  refine g_cond rfl ?_ ?_
  · intro hbr
    have hbr := of_decide_eq_true hbr
    refine g_seq ?_
    refine g_seq ?_
    refine g_region ?_
    refine l_move rfl rfl ?_
    refine l_len rfl Try.underlying34 rfl ?_
    refine l_move rfl rfl ?_
    refine l_nil ?_
    refine g_block ?_
    refine g_heap (F' := Blk b (.cells [.slice (some ⟨g, 0, none⟩) n c].toArray 63 (0, 0)) :: Own 28 1 (.slice (some ⟨g, 0, none⟩) n c) n (ints .u32 W) :: F) (fun w hw => SPI.holds hw) ?_
    refine g_loopk (X := Int) [(0, _), (1, _), (2, _), (3, _), (8, _), (10, _), (38, _), (39, _)] (.cons rfl (.cons rfl (.cons rfl (.cons rfl (.cons rfl (.cons rfl (.cons rfl (.cons rfl (.nil))))))))) (fun i => 0 ≤ i ∧ i ≤ q) (fun i => (q - i).toNat) (fun i => [(40, .int .i64 i)]) (fun i => Blk b (.cells [.slice (some ⟨g, 0, none⟩) n c].toArray 63 (0, 0)) :: Own 28 1 (.slice (some ⟨g, 0, none⟩) n c) n (ints .u32 (clearP W P i.toNat)) :: F) (0) (⟨by omega, by omega⟩) (.cons rfl .nil) ((fun w hw => hw)) ?_
    rintro i ⟨i0, i1⟩ ih
    dsimp only [List.cons_append, List.nil_append] at ih ⊢
    have hcl : (clearP W P i.toNat).length = n := by rw [clearP_len]; exact hW
    refine g_seq ?_
    refine g_region ?_
    refine l_lss rfl rfl rfl ?_
    refine l_nil ?_
    refine g_seq ?_
    refine g_cond rfl ?_ ?_
    · intro hbr
      have hbr := of_decide_eq_true hbr
      refine g_skip ?_
      refine g_seq ?_
      refine g_block ?_
      refine g_seq ?_
      refine g_region ?_
      obtain ⟨b9, o9, rfl, hr9⟩ := hI.some (i := i.toNat) (by omega)
      have hb9 := hP i.toNat
      refine l_ixs rfl Try.underlying34 Try.sizeOf3 rfl rfl (by omega) (by omega) ?_
      have hn9 := hA9 i.toNat (by omega)
      unfold inR pAt at hn9
      refine l_loadc rfl Try.isAgg3 rfl (word_any hr9 (by omega)) ?_
      refine l_assign rfl rfl ?_
      refine l_nil ?_
      refine g_region ?_
      refine l_move rfl rfl ?_
      refine l_move rfl rfl ?_
      first | refine l_add rfl rfl rfl (w_i64 (by omega) (by omega)) ?_ | refine l_addw rfl rfl rfl ?_
      refine l_call rfl Try.call10 rfl (write_ok _ _ b g n c (clearP W P i.toNat) hcl hc hn (P.getD i.toNat 0 + 1) 0 (by omega) (by unfold inR; omega)) ?_; rintro _ _ ⟨rfl, rfl⟩
      refine l_nil ?_
      refine g_inBlock ?_
      refine g_region ?_
      first | refine l_add rfl rfl rfl (w_i64 (by omega) (by omega)) ?_ | refine l_addw rfl rfl rfl ?_
      refine l_move rfl rfl ?_
      refine l_nil ?_
      rw [show (clearP W P i.toNat).set (P.getD i.toNat 0 + 1).toNat 0 = clearP W P (i + 1).toNat by rw [show (i + 1).toNat = i.toNat + 1 by omega]; rfl]
      exact g_againi (ih (i + 1) ⟨by omega, by omega⟩ (by omega)) (.cons rfl (.cons rfl (.cons rfl (.cons rfl (.cons rfl (.cons rfl (.cons rfl (.cons rfl (.cons rfl (.nil))))))))))
    intro hbr
    have hbr := of_decide_eq_false hbr
    refine g_exit rfl ?_
    obtain rfl : i = q := by omega
    rw [Int.toNat_natCast] at hcl ⊢
    refine g_seq ?_
    refine g_region ?_
    refine l_assign rfl rfl ?_
    refine l_nil ?_
    refine g_ret Try.func16 rfl (.tmp rfl .nil) ?_
    (first | exact Gives.mki ⟨W, e1, rfl, hW, rfl, .inl ⟨by omega, rfl, .inl hR⟩⟩ | (obtain rfl : e1 = 0 := (by omega); exact Gives.mki ⟨W, e4, rfl, hW, rfl, .inl ⟨by omega, rfl, .inr ⟨hR, hh8 (by omega)⟩⟩⟩) | (obtain rfl : e1 = 0 := (by omega); exact Gives.mki ⟨_, 0, rfl, hcl, rfl, .inr ⟨rfl, hR, .inl ⟨by have h5 := hh9 (by omega); rwa [List.length_eq_zero_iff.1 (show T.length = 0 by omega)] at h5, rfl⟩⟩⟩) | (obtain rfl : e1 = 0 := (by omega); exact Gives.mki ⟨_, 0, rfl, by rw [spl_length (by simp; omega)]; exact hpl, rfl, .inr ⟨rfl, hR, .inr ⟨T, hh9 (by omega), by omega, rfl⟩⟩⟩))
  intro hbr
  have hbr := of_decide_eq_false hbr
  refine g_skip ?_
  refine g_seq ?_
  refine g_region ?_
  refine l_move rfl rfl ?_
  first | refine l_add rfl rfl rfl (w_i64 (by omega) (by omega)) ?_ | refine l_addw rfl rfl rfl ?_
  have hTl : T.length + 2 ≤ (part W st (2 + wd)).length := by rcases held_len (hh9 (by omega)) with h | h; exact h; (rw [h] at hT; have h0 : (0 : Nat) = qr := hT; omega)
  refine l_makew rfl Try.underlying29 Try.type28 rfl rfl rfl rfl (by omega) (by show (4 : Int) * _ ≤ _; omega) (by omega) ?_; intro b51
  refine l_assign rfl rfl ?_
  refine l_nil ?_
  refine g_seq ?_
  refine g_region ?_
  refine l_move rfl rfl ?_
  refine l_move rfl rfl ?_
  refine l_move rfl rfl ?_
  refine l_move rfl rfl ?_
  refine l_len rfl Try.underlying29 rfl ?_
  first | refine l_conv rfl Try.underlying3 Try.underlying28 rfl (w_u32 (by omega) (by omega)) ?_ | refine l_convm (m := 4294967296) rfl wr_u32 Try.underlying3 Try.underlying28 rfl ?_
  refine l_ixs rfl Try.underlying29 Try.sizeOf28 rfl rfl (by omega) (by omega) ?_
  refine l_storew 0 Try.sizeOf28 rfl rfl rfl (by simp; omega) rfl ?_
  refine l_ixs rfl Try.underlying29 Try.sizeOf28 rfl rfl (by omega) (by omega) ?_
  refine l_storew 0 Try.sizeOf28 rfl rfl rfl (by simp; omega) rfl ?_
  refine l_ixs rfl Try.underlying29 Try.sizeOf28 rfl rfl (by omega) (by omega) ?_
  refine l_storew 0 Try.sizeOf28 rfl rfl rfl (by simp; omega) rfl ?_
  refine l_nil ?_
  refine g_seq ?_
  refine g_region ?_
  refine l_move rfl rfl ?_
  refine l_slice_lo rfl Try.underlying29 Try.sizeOf28 rfl rfl (by omega) (by omega) (by omega) ?_; intro o62 ho62
  refine l_move rfl rfl ?_
  obtain rfl : o62 = 3 := by omega
  obtain ⟨gr, rfl⟩ := har.resolve_left (by omega)
  refine l_copyw 0 (W := T) rfl Try.underlying29 Try.sizeOf28 rfl rfl rfl ⟨by rw [ints_length]; omega, .inl ⟨_, _, _, rfl, .own (mem_getO 1 rfl)⟩⟩ (by simp; omega) (by rw [show T.take (min qr ((3 + wd).toNat - (3 : Int).toNat)) = T from List.take_of_length_le (by omega)]; rfl) ?_
  rw [show spl 3 T ((((List.replicate (3 + wd).toNat (0 : Int)).set (0 : Int).toNat 1).set (1 : Int).toNat 1).set (2 : Int).toNat (qr : Int)) = portW T wd by unfold portW; rw [hT]; rfl]
  have hYl := portW_len (T := T) (wd := wd) (by omega) (by omega)
  refine l_nil ?_
  refine g_seq ?_
  refine g_seq ?_
  refine g_region ?_
  refine l_move rfl rfl ?_
  refine l_len rfl Try.underlying34 rfl ?_
  refine l_move rfl rfl ?_
  refine l_nil ?_
  refine g_block ?_
  refine g_heap (F' := Blk b (.cells [.slice (some ⟨g, 0, none⟩) n c].toArray 63 (0, 0)) :: Own 28 1 (.slice (some ⟨g, 0, none⟩) n c) n (ints .u32 W) :: Own 28 1 (.slice (some ⟨b51, 0, none⟩) (3 + wd).toNat (3 + wd).toNat) (3 + wd).toNat (ints .u32 (portW T wd)) :: F) (fun w hw => SPI.holds hw) ?_
  refine g_loopk (X := Int) [(0, _), (1, _), (2, _), (8, _), (14, _), (65, _), (66, _)] (.cons rfl (.cons rfl (.cons rfl (.cons rfl (.cons rfl (.cons rfl (.cons rfl (.nil)))))))) (fun i => 0 ≤ i ∧ i ≤ q) (fun i => (q - i).toNat) (fun i => [(67, .int .i64 i)]) (fun i => Blk b (.cells [.slice (some ⟨g, 0, none⟩) n c].toArray 63 (0, 0)) :: Own 28 1 (.slice (some ⟨g, 0, none⟩) n c) n (ints .u32 (layP W P (portW T wd) i.toNat)) :: Own 28 1 (.slice (some ⟨b51, 0, none⟩) (3 + wd).toNat (3 + wd).toNat) (3 + wd).toNat (ints .u32 (portW T wd)) :: F) (0) (⟨by omega, by omega⟩) (.cons rfl .nil) ((fun w hw => hw)) ?_
  rintro i ⟨i0, i1⟩ ih
  dsimp only [List.cons_append, List.nil_append] at ih ⊢
  have hpl : (layP W P (portW T wd) i.toNat).length = n := layP_len hW _ fun k hk => by have := hA9 k (by omega); unfold inR at this; omega
  refine g_seq ?_
  refine g_region ?_
  refine l_lss rfl rfl rfl ?_
  refine l_nil ?_
  refine g_seq ?_
  refine g_cond rfl ?_ ?_
  · intro hbr
    have hbr := of_decide_eq_true hbr
    refine g_skip ?_
    refine g_seq ?_
    refine g_block ?_
    refine g_seq ?_
    refine g_region ?_
    obtain ⟨b9, o9, rfl, hr9⟩ := hI.some (i := i.toNat) (by omega)
    have hb9 := hP i.toNat
    refine l_ixs rfl Try.underlying34 Try.sizeOf3 rfl rfl (by omega) (by omega) ?_
    have hn9 := hA9 i.toNat (by omega)
    unfold inR pAt at hn9
    refine l_loadc rfl Try.isAgg3 rfl (word_any hr9 (by omega)) ?_
    refine l_assign rfl rfl ?_
    refine l_nil ?_
    refine g_region ?_
    refine l_move rfl rfl ?_
    refine l_move rfl rfl ?_
    refine l_move rfl rfl ?_
    refine l_call rfl Try.call31 rfl (lay_ok _ _ b g n c (layP W P (portW T wd) i.toNat) hpl hc hn (P.getD i.toNat 0) (by omega) b51 0 (3 + wd).toNat (3 + wd).toNat (portW T wd) hYl (by omega) (.own (mem_getO 0 rfl)) (by unfold inR; omega)) ?_; rintro _ _ ⟨rfl, rfl⟩
    refine l_nil ?_
    refine g_inBlock ?_
    refine g_region ?_
    first | refine l_add rfl rfl rfl (w_i64 (by omega) (by omega)) ?_ | refine l_addw rfl rfl rfl ?_
    refine l_move rfl rfl ?_
    refine l_nil ?_
    rw [show spl (P.getD i.toNat 0).toNat (portW T wd) (layP W P (portW T wd) i.toNat) = layP W P (portW T wd) (i + 1).toNat by rw [show (i + 1).toNat = i.toNat + 1 by omega]; rfl]
    exact g_againi (ih (i + 1) ⟨by omega, by omega⟩ (by omega)) (.cons rfl (.cons rfl (.cons rfl (.cons rfl (.cons rfl (.cons rfl (.cons rfl (.cons rfl (.nil)))))))))
  intro hbr
  have hbr := of_decide_eq_false hbr
  refine g_exit rfl ?_
  obtain rfl : i = q := by omega
  rw [Int.toNat_natCast] at hpl ⊢
  refine g_seq ?_
  refine g_region ?_
  refine l_move rfl rfl ?_
  refine l_move rfl rfl ?_
  refine l_move rfl rfl ?_
  first | refine l_add rfl rfl rfl (w_i64 (by omega) (by omega)) ?_ | refine l_addw rfl rfl rfl ?_
  refine l_call rfl Try.call35 rfl (fill_ok _ _ b g n c (layP W P (portW T wd) q) hpl hc hn st (2 + wd) 0 (by omega) (by omega) hst) ?_; rintro _ _ ⟨rfl, rfl⟩
  refine l_assign rfl rfl ?_
  refine l_nil ?_
  refine g_ret Try.func16 rfl (.tmp rfl .nil) ?_
  (first | exact Gives.mki ⟨W, e1, rfl, hW, rfl, .inl ⟨by omega, rfl, .inl hR⟩⟩ | (obtain rfl : e1 = 0 := (by omega); exact Gives.mki ⟨W, e4, rfl, hW, rfl, .inl ⟨by omega, rfl, .inr ⟨hR, hh8 (by omega)⟩⟩⟩) | (obtain rfl : e1 = 0 := (by omega); exact Gives.mki ⟨_, 0, rfl, hcl, rfl, .inr ⟨rfl, hR, .inl ⟨by have h5 := hh9 (by omega); rwa [List.length_eq_zero_iff.1 (show T.length = 0 by omega)] at h5, rfl⟩⟩⟩) | (obtain rfl : e1 = 0 := (by omega); exact Gives.mki ⟨_, 0, rfl, by rw [spl_length (by simp; omega)]; exact hpl, rfl, .inr ⟨rfl, hR, .inr ⟨T, hh9 (by omega), by omega, rfl⟩⟩⟩))
end Go.Proofs.Ythngpcaljljlaaa.Fw
