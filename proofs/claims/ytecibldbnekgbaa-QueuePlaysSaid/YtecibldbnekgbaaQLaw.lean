import Derived.Test.YtecibldbnekgbaaQDel
namespace Go.Proofs.Ytecibldbnekgbaa.Fw
open Go Go.Proofs
set_option linter.unusedVariables false
set_option linter.unusedSimpArgs false
set_option maxRecDepth 10000

/- The plain law: what was laid is read back. -/
theorem list_getD {l T : List Int} (h : l.length = T.length) (g : ∀ j, j < l.length → l.getD j 0 = T.getD j 0) : l = T := by
  apply List.ext_getElem h
  intro j h1 h2
  have := g j h1
  simpa [List.getD_eq_getElem?_getD, h1, h2] using this
theorem getD_over {l : List Int} {j : Nat} (h : l.length ≤ j) : l.getD j 0 = 0 := by simp [List.getD_eq_getElem?_getD, h]
/-- The words of a place that holds T. -/
def plG (T : List Int) : Nat → Int
  | 0 => (T.length : Int)
  | j + 1 => T.getD j 0
theorem plG_nil (j : Nat) : plG [] j = 0 := by cases j <;> rfl
theorem plV_plG {l T : List Int} {wd : Nat} (hl : l.length = 1 + wd) (hT : T.length ≤ wd) (h : ∀ j, j < 1 + wd → l.getD j 0 = plG T j) : plV l = some T := by
  have h0 : l.getD 0 0 = (T.length : Int) := h 0 (by omega)
  rw [plV_some (by rw [h0, hl]; omega) (fun i h1 h2 => ?_), h0]
  · refine congrArg some (list_getD (by rw [List.length_take, List.length_drop, Int.toNat_natCast]; omega) fun j hj => ?_)
    rw [getD_part]
    rw [List.length_take, Int.toNat_natCast] at hj
    rw [Int.toNat_natCast, if_pos (by omega), Nat.add_comm 1 j, h (j + 1) (by omega)]
    rfl
  · rw [h0, Int.toNat_natCast] at h1
    obtain ⟨j, rfl⟩ : ∃ j, i = j + 1 := ⟨i - 1, by omega⟩
    rw [h (j + 1) (by omega)]
    exact getD_over (by omega)
theorem kp_sep {wd dp k1 k2 : Nat} (h : k1 ≠ k2) (j : Nat) (hj : j < 1 + wd) : k2 * (1 + wd) + j < k1 * (1 + wd) ∨ k1 * (1 + wd) + 1 + wd ≤ k2 * (1 + wd) + j := by
  rcases Nat.lt_or_gt_of_ne h with h | h
  · have := Nat.mul_le_mul_right (1 + wd) (show k1 + 1 ≤ k2 from h)
    rw [Nat.add_mul] at this; omega
  · have := Nat.mul_le_mul_right (1 + wd) (show k2 + 1 ≤ k1 from h)
    rw [Nat.add_mul] at this; omega
theorem mod_sep {first dp i k : Nat} (hi : i < dp) (hk : k < dp) (h : i ≠ k) : (first + i) % dp ≠ (first + k) % dp := by
  intro e
  have key : ∀ a b : Nat, a < b → b < dp → (first + a) % dp = (first + b) % dp → False := fun a b h1 h2 h3 => by
    have h4 : (first + b - (first + a)) % dp = 0 := Nat.sub_mod_eq_zero_of_mod_eq h3.symm
    rw [show first + b - (first + a) = b - a by omega, Nat.mod_eq_of_lt (by omega)] at h4
    omega
  rcases Nat.lt_or_gt_of_ne h with h | h
  · exact key i k h hk e
  · exact key k i h hi e.symm
theorem set_getE {l : List Int} {o j : Nat} {x : Int} (h : o < l.length) : (l.set o x).getD j 0 = if j = o then x else l.getD j 0 := by
  simp only [List.getD_eq_getElem?_getD, List.getElem?_set]
  by_cases e : o = j
  · subst e; simp [h]
  · simp [e, Ne.symm e]
theorem layN_read {wd dp : Nat} {Hd : List Int} {first : Nat} {Ts : List (List Int)} (hd : 0 < dp) : ∀ k, k ≤ dp → (∀ j, j < k → (tat Ts j).length ≤ wd) → (∀ j, j < Hd.length → (layN wd dp Hd first Ts k).getD j 0 = Hd.getD j 0) ∧ ∀ i, i < dp → ∀ j, j < 1 + wd → (layN wd dp Hd first Ts k).getD (Hd.length + (first + i) % dp * (1 + wd) + j) 0 = plG (if i < k then tat Ts i else []) j
  | 0, _, _ => by
    have hz : ∀ (m i : Nat), (List.replicate m (0 : Int)).getD i 0 = 0 := fun m i => by
      simp only [List.getD_eq_getElem?_getD, List.getElem?_replicate]; split <;> rfl
    simp only [layN]
    refine ⟨fun j hj => ?_, fun i hi j hj => ?_⟩
    · rw [spl_getD (by rw [List.length_replicate]; omega), if_pos (by omega), Nat.sub_zero]
    · rw [spl_getD (by rw [List.length_replicate]; omega), if_neg (by omega), if_neg (by omega), plG_nil, hz]
  | k + 1, hk, h => by
    obtain ⟨ih1, ih2⟩ := layN_read (first := first) (Hd := Hd) (Ts := Ts) hd k (by omega) fun j hj => h j (by omega)
    have hl := layN_len (first := first) (Hd := Hd) (wd := wd) (Ts := Ts) hd k fun j hj => h j (by omega)
    have hT := h k (by omega)
    have hb := kp_bd (wd := wd) (Nat.mod_lt (first + k) hd)
    simp only [layN]
    refine ⟨fun j hj => ?_, fun i hi j hj => ?_⟩
    · rw [spl_getD (by rw [List.length_set, hl]; omega), if_neg (by omega), set_getE (by rw [hl]; omega), if_neg (by omega), ih1 j hj]
    · rw [spl_getD (by rw [List.length_set, hl]; omega), set_getE (by rw [hl]; omega), ih2 i hi j hj]
      by_cases e : i = k
      · subst e
        rw [if_neg (show ¬ i < i by omega), if_pos (show i < i + 1 by omega), plG_nil]
        cases j with
        | zero => rw [if_neg (by omega), if_pos (by omega)]; rfl
        | succ j =>
          rw [if_neg (show ¬ Hd.length + (first + i) % dp * (1 + wd) + (j + 1) = Hd.length + (first + i) % dp * (1 + wd) by omega)]
          show _ = (tat Ts i).getD j 0
          by_cases hj2 : j < (tat Ts i).length
          · rw [if_pos (by omega)]
            exact congrArg (fun x => (tat Ts i).getD x 0) (by omega)
          · rw [if_neg (by omega), getD_over (by omega)]
      · have hs := kp_sep (dp := dp) (mod_sep (first := first) hi (show k < dp by omega) e).symm j hj
        rw [if_neg (by omega), if_neg (by omega)]
        have e2 : (i < k) = (i < k + 1) := propext (by omega)
        simp only [e2]
theorem rowT_eq {L : List Int} {wd dp first : Nat} {Ts : List (List Int)} (h : ∀ j, j < Ts.length → pieceV L wd dp first j = some (tat Ts j)) : Ts = rowT L wd dp first Ts.length := by
  apply List.ext_getElem (by rw [rowT_len])
  intro j h1 h2
  have h3 := rowT_at (L := L) (wd := wd) (dp := dp) (first := first) h1
  rw [h j h1] at h3
  simpa [tat, List.getD_eq_getElem?_getD, h1, h2] using h3.symm
theorem RowR.mk {L : List Int} {wd dp first : Nat} {Ts : List (List Int)} (hL : L.length = dp * (1 + wd)) (hf : first < dp) (hm : Ts.length ≤ dp) (hb : ∀ j, j < Ts.length → 1 ≤ (tat Ts j).length ∧ (tat Ts j).length ≤ wd) (h : ∀ i, i < dp → ∀ j, j < 1 + wd → L.getD ((first + i) % dp * (1 + wd) + j) 0 = plG (if i < Ts.length then tat Ts i else []) j) : RowR L wd dp first Ts.length Ts true := by
  have hv : ∀ i, i < dp → pieceV L wd dp first i = some (if i < Ts.length then tat Ts i else []) := fun i hi => by
    refine plV_plG (wd := wd) (piece_len hL (Nat.mod_lt _ (by omega))) ?_ fun j hj => ?_
    · split
      · rename_i h9; exact (hb i h9).2
      · exact Nat.zero_le _
    · unfold pieceW
      rw [getD_part, if_pos hj, h i hi j hj]
  refine .inl ⟨rfl, hm, hf, fun i hi => ⟨_, hv i hi, ?_⟩, rowT_eq fun j hj => by rw [hv j (by omega), if_pos hj]⟩
  split
  · rename_i h9; exact ⟨fun _ => h9, fun _ => by have := (hb i h9).1; omega⟩
  · rename_i h9; exact ⟨fun h => by simp at h, fun h => absurd h h9⟩
theorem layN_row {wd dp first : Nat} {Hd : List Int} {Ts : List (List Int)} (hf : first < dp) (hm : Ts.length ≤ dp) (hb : ∀ j, j < Ts.length → 1 ≤ (tat Ts j).length ∧ (tat Ts j).length ≤ wd) : RowR ((layN wd dp Hd first Ts Ts.length).drop Hd.length) wd dp first Ts.length Ts true := by
  have hd : 0 < dp := by omega
  have hl := layN_len (first := first) (Hd := Hd) (wd := wd) (Ts := Ts) hd Ts.length fun j hj => (hb j hj).2
  have hr := (layN_read (first := first) (Hd := Hd) (Ts := Ts) (wd := wd) hd Ts.length hm fun j hj => (hb j hj).2).2
  refine RowR.mk (by rw [List.length_drop, hl]; omega) hf hm hb fun i hi j hj => ?_
  rw [← hr i hi j hj, List.getD_eq_getElem?_getD, List.getD_eq_getElem?_getD, List.getElem?_drop]
  exact congrArg (fun x => (layN wd dp Hd first Ts Ts.length)[x]?.getD 0) (by omega)
theorem stL_spl {W L : List Int} {at_ : Int} {k : Nat} (hk : L.length = k) (h : at_.toNat + k ≤ W.length) : stL (spl at_.toNat L W) at_ k = L := by
  subst hk
  refine list_getD (by unfold stL; rw [List.length_take, List.length_drop, spl_length h]; omega) fun j hj => ?_
  have hj2 : j < L.length := by unfold stL at hj; rw [List.length_take] at hj; omega
  rw [stL_getD hj2, spl_getD h, if_pos (by omega)]
  exact congrArg (fun x => L.getD x 0) (by omega)
theorem stL_far {W L : List Int} {at_ : Int} {o k : Nat} (ho : o + L.length ≤ W.length) (h : at_.toNat + k ≤ o ∨ o + L.length ≤ at_.toNat) : stL (spl o L W) at_ k = stL W at_ k := by
  refine list_getD (by unfold stL; rw [List.length_take, List.length_drop, List.length_take, List.length_drop, spl_length ho]) fun j hj => ?_
  have hj2 : j < k := by unfold stL at hj; rw [List.length_take] at hj; omega
  rw [stL_getD hj2, stL_getD hj2, spl_getD ho, if_neg (by omega)]
theorem spl_at {W L : List Int} {o j : Nat} (ho : o + L.length ≤ W.length) (hj : j < L.length) : (spl o L W).getD (o + j) 0 = L.getD j 0 := by
  rw [spl_getD ho, if_pos (by omega)]
  exact congrArg (fun x => L.getD x 0) (by omega)
theorem spl_far {W L : List Int} {o j : Nat} (ho : o + L.length ≤ W.length) (hj : j < o ∨ o + L.length ≤ j) : (spl o L W).getD j 0 = W.getD j 0 := by
  rw [spl_getD ho, if_neg (by omega)]
/-- A stage that was laid. -/
theorem StgR.laid {W : List Int} {at_ : Int} {wd dp : Nat} {Ts : List (List Int)} (hd : 0 < dp) (hW : at_.toNat + (1 + dp * (1 + wd)) ≤ W.length) (hm : Ts.length ≤ dp) (hb : ∀ j, j < Ts.length → 1 ≤ (tat Ts j).length ∧ (tat Ts j).length ≤ wd) : StgR (spl at_.toNat (layN wd dp [(Ts.length : Int)] 0 Ts Ts.length) W) at_ wd dp Ts true := by
  have hl : (layN wd dp [(Ts.length : Int)] 0 Ts Ts.length).length = 1 + dp * (1 + wd) := layN_len hd _ fun j hj => (hb j hj).2
  have hr := (layN_read (wd := wd) (Hd := [(Ts.length : Int)]) (first := 0) (Ts := Ts) hd Ts.length hm fun j hj => (hb j hj).2).1 0 Nat.zero_lt_one
  have r0 : (spl at_.toNat (layN wd dp [(Ts.length : Int)] 0 Ts Ts.length) W).getD at_.toNat 0 = (Ts.length : Int) := (spl_at (j := 0) (by rw [hl]; exact hW) (by rw [hl]; omega)).trans hr
  unfold StgR
  rw [stL_spl hl hW, r0]
  exact layN_row (Hd := [(Ts.length : Int)]) hd hm hb
theorem PrtR.laid {W : List Int} {at_ : Int} {wd dp first : Nat} {ls : Int} {Ts : List (List Int)} (hf : first < dp) (hW : at_.toNat + (3 + dp * (1 + wd)) ≤ W.length) (hm : Ts.length ≤ dp) (hb : ∀ j, j < Ts.length → 1 ≤ (tat Ts j).length ∧ (tat Ts j).length ≤ wd) : PrtR (spl at_.toNat (portL wd dp first ls Ts Ts.length) W) at_ wd dp Ts true ∧ (spl at_.toNat (portL wd dp first ls Ts Ts.length) W).getD (at_.toNat + 2) 0 = ls ∧ (spl at_.toNat (portL wd dp first ls Ts Ts.length) W).getD at_.toNat 0 = (frst Ts.length first : Int) := by
  have hd : 0 < dp := by omega
  have hf2 : frst Ts.length first < dp := by unfold frst; split <;> omega
  have hl : (portL wd dp first ls Ts Ts.length).length = 3 + dp * (1 + wd) := portL_len hd fun j hj => (hb j hj).2
  have hr := (layN_read (wd := wd) (Hd := [(frst Ts.length first : Int), (Ts.length : Int), ls]) (first := frst Ts.length first) (Ts := Ts) hd Ts.length hm fun j hj => (hb j hj).2).1
  have r0 : (spl at_.toNat (portL wd dp first ls Ts Ts.length) W).getD at_.toNat 0 = (frst Ts.length first : Int) := (spl_at (j := 0) (by rw [hl]; exact hW) (by rw [hl]; omega)).trans (hr 0 (by decide : 0 < 3))
  have r1 : (spl at_.toNat (portL wd dp first ls Ts Ts.length) W).getD (at_.toNat + 1) 0 = (Ts.length : Int) := (spl_at (j := 1) (by rw [hl]; exact hW) (by rw [hl]; omega)).trans (hr 1 (by decide : 1 < 3))
  have r2 : (spl at_.toNat (portL wd dp first ls Ts Ts.length) W).getD (at_.toNat + 2) 0 = ls := (spl_at (j := 2) (by rw [hl]; exact hW) (by rw [hl]; omega)).trans (hr 2 (by decide : 2 < 3))
  refine ⟨⟨true, ?_, fun _ => ⟨rfl, ?_⟩, fun _ => rfl⟩, r2, r0⟩
  · rw [stL_spl hl hW, r0, r1]
    exact layN_row (Hd := [(frst Ts.length first : Int), (Ts.length : Int), ls]) hf2 hm hb
  · rw [r0, r1]
    unfold frst
    split
    · exact .inr rfl
    · rename_i h; exact .inl (by omega)
theorem StgR.far {W L : List Int} {at_ : Int} {wd dp o : Nat} {Ts : List (List Int)} {ok : Bool} (H : StgR W at_ wd dp Ts ok) (ho : o + L.length ≤ W.length) (h : at_.toNat + (1 + dp * (1 + wd)) ≤ o ∨ o + L.length ≤ at_.toNat) : StgR (spl o L W) at_ wd dp Ts ok := by
  unfold StgR
  rw [stL_far ho h, spl_far ho (by omega)]
  exact H
theorem PrtR.far {W L : List Int} {at_ : Int} {wd dp o : Nat} {Ts : List (List Int)} {ok : Bool} (H : PrtR W at_ wd dp Ts ok) (ho : o + L.length ≤ W.length) (h : at_.toNat + (3 + dp * (1 + wd)) ≤ o ∨ o + L.length ≤ at_.toNat) : PrtR (spl o L W) at_ wd dp Ts ok := by
  unfold PrtR
  rw [stL_far ho h, spl_far ho (by omega), spl_far ho (by omega)]
  exact H
theorem stL_zero (N : Nat) (at_ : Int) (k : Nat) (j : Nat) : (stL (List.replicate N (0 : Int)) at_ k).getD j 0 = 0 := by
  unfold stL
  rw [getD_part]
  split
  · simp only [List.getD_eq_getElem?_getD, List.getElem?_replicate]; split <;> rfl
  · rfl
theorem rep_getD (N j : Nat) : (List.replicate N (0 : Int)).getD j 0 = 0 := by simp only [List.getD_eq_getElem?_getD, List.getElem?_replicate]; split <;> rfl
theorem row_zero {N : Nat} {at_ : Int} {wd dp h : Nat} (hd : 0 < dp) (hN : at_.toNat + (h + dp * (1 + wd)) ≤ N) : RowR ((stL (List.replicate N (0 : Int)) at_ (h + dp * (1 + wd))).drop h) wd dp 0 0 [] true := by
  refine RowR.mk (Ts := []) (by unfold stL; rw [List.length_drop, List.length_take, List.length_drop, List.length_replicate]; omega) hd (Nat.zero_le _) (fun j hj => by simp at hj) fun i hi j hj => ?_
  rw [if_neg (by simp), plG_nil, List.getD_eq_getElem?_getD, List.getElem?_drop, ← List.getD_eq_getElem?_getD, stL_zero]
theorem StgR.zero {N : Nat} {at_ : Int} {wd dp : Nat} (hd : 0 < dp) (hN : at_.toNat + (1 + dp * (1 + wd)) ≤ N) : StgR (List.replicate N (0 : Int)) at_ wd dp [] true := by
  unfold StgR
  rw [rep_getD]
  exact row_zero hd hN
theorem PrtR.zero {N : Nat} {at_ : Int} {wd dp : Nat} (hd : 0 < dp) (hN : at_.toNat + (3 + dp * (1 + wd)) ≤ N) : PrtR (List.replicate N (0 : Int)) at_ wd dp [] true := by
  refine ⟨true, ?_, fun _ => ⟨rfl, ?_⟩, fun _ => rfl⟩
  · rw [rep_getD, rep_getD]
    exact row_zero hd hN
  · rw [rep_getD, rep_getD]; exact .inr rfl

theorem layN_u32 {wd dp : Nat} {Hd : List Int} {first : Nat} {Ts : List (List Int)} (hd : 0 < dp) (hw : wd ≤ 4294967295) (hH : W32s Hd) : ∀ k, (∀ j, j < k → (tat Ts j).length ≤ wd ∧ W32s (tat Ts j)) → W32s (layN wd dp Hd first Ts k)
  | 0, _ => by
    simp only [layN]
    exact spl_u32 (by rw [List.length_replicate]; omega) hH fun i => by rw [rep_getD]; decide
  | k + 1, h => by
    have ih := layN_u32 (first := first) (Hd := Hd) (Ts := Ts) hd hw hH k fun j hj => h j (by omega)
    have hl := layN_len (first := first) (Hd := Hd) (wd := wd) (Ts := Ts) hd k fun j hj => (h j (by omega)).1
    have hT := h k (by omega)
    have hb := kp_bd (wd := wd) (Nat.mod_lt (first + k) hd)
    simp only [layN]
    exact spl_u32 (by rw [List.length_set, hl]; omega) hT.2 (set_u32 ih (by omega) (by omega))
def MsgOk (wd : Nat) (Ts : List (List Int)) : Prop := ∀ j, j < Ts.length → (1 ≤ (tat Ts j).length ∧ (tat Ts j).length ≤ wd) ∧ W32s (tat Ts j)
theorem MsgOk.snoc {wd : Nat} {Ts : List (List Int)} {M : List Int} (H : MsgOk wd Ts) (h : (1 ≤ M.length ∧ M.length ≤ wd) ∧ W32s M) : MsgOk wd (Ts ++ [M]) := fun j hj => by
  rw [List.length_append, List.length_singleton] at hj
  by_cases h9 : j < Ts.length
  · rw [tat_init h9]; exact H j h9
  · rw [tat_at (show j = Ts.length by omega)]; exact h
theorem MsgOk.drop {wd : Nat} {Ts : List (List Int)} (H : MsgOk wd Ts) : MsgOk wd (Ts.drop 1) := fun j hj => by
  rw [List.length_drop] at hj
  rw [tat_drop]
  exact H (j + 1) (by omega)
theorem MsgOk.nil (wd : Nat) : MsgOk wd [] := fun j hj => by simp at hj
theorem delN_ok {wd dp : Nat} {Ps Ss : List (List Int)} {ls : Int} (hP : MsgOk wd Ps) (hl : Ps.length ≤ dp) (hS : MsgOk wd Ss) (h0 : 0 ≤ ls) (h1 : ls ≤ 4294967295) : ∀ k, k ≤ Ss.length → MsgOk wd (delN dp Ps ls Ss k).1 ∧ (delN dp Ps ls Ss k).1.length ≤ dp ∧ 0 ≤ (delN dp Ps ls Ss k).2 ∧ (delN dp Ps ls Ss k).2 ≤ 4294967295
  | 0, _ => ⟨hP, hl, h0, h1⟩
  | k + 1, hk => by
    obtain ⟨i1, i2, i3, i4⟩ := delN_ok hP hl hS h0 h1 k (by omega)
    simp only [delN]
    split
    · refine ⟨i1.snoc (hS k (by omega)), ?_, i3, i4⟩
      rw [List.length_append, List.length_singleton]; omega
    · refine ⟨i1, i2, ?_, ?_⟩
      · simp only; split <;> omega
      · simp only; split <;> omega
/-- A memory with a stage and a port behind it. -/
structure QSt (N wd dp : Nat) (st pt : Int) (W : List Int) (Ss Ps : List (List Int)) (ls : Int) : Prop where
  u : W32s W
  len : W.length = N
  stg : StgR W st wd dp Ss true
  prt : PrtR W pt wd dp Ps true
  lost : W.getD (pt.toNat + 2) 0 = ls
theorem QSt.ss {N wd dp : Nat} {st pt : Int} {W : List Int} {Ss Ps : List (List Int)} {ls : Int} (H : QSt N wd dp st pt W Ss Ps ls) (hd : 0 < dp) : Ss.length ≤ dp ∧ MsgOk wd Ss := by
  have h1 := RowR.bd H.stg hd
  have h2 := RowR.u H.stg ((H.u.part _ _).drop 1)
  exact ⟨by omega, fun j hj => ⟨h1.2.2.2 j hj, h2 j hj⟩⟩
theorem QSt.ps {N wd dp : Nat} {st pt : Int} {W : List Int} {Ss Ps : List (List Int)} {ls : Int} (H : QSt N wd dp st pt W Ss Ps ls) (hd : 0 < dp) : Ps.length ≤ dp ∧ MsgOk wd Ps ∧ (W.getD pt.toNat 0).toNat < dp := by
  have h1 := RowR.bd H.prt.row hd
  have h2 := RowR.u H.prt.row ((H.u.part _ _).drop 3)
  exact ⟨by omega, fun j hj => ⟨h1.2.2.2 j hj, h2 j hj⟩, h1.2.2.1⟩
theorem QSt.zero {N wd dp : Nat} {st pt : Int} (hd : 0 < dp) (h1 : st.toNat + (1 + dp * (1 + wd)) ≤ pt.toNat) (h2 : pt.toNat + (3 + dp * (1 + wd)) ≤ N) : QSt N wd dp st pt (List.replicate N 0) [] [] 0 :=
  ⟨fun i => by rw [rep_getD]; decide, List.length_replicate .., StgR.zero hd (by omega), PrtR.zero hd h2, rep_getD ..⟩
/-- The stage is laid anew. -/
theorem QSt.stage {N wd dp : Nat} {st pt : Int} {W : List Int} {Ss Ps Ts : List (List Int)} {ls : Int} (H : QSt N wd dp st pt W Ss Ps ls) (hd : 0 < dp) (hw : wd ≤ 16) (hd2 : dp ≤ 8) (h1 : st.toNat + (1 + dp * (1 + wd)) ≤ pt.toNat) (h2 : pt.toNat + (3 + dp * (1 + wd)) ≤ N) (hT : MsgOk wd Ts) (hl : Ts.length ≤ dp) : QSt N wd dp st pt (spl st.toNat (layN wd dp [(Ts.length : Int)] 0 Ts Ts.length) W) Ts Ps ls := by
  have hll : (layN wd dp [(Ts.length : Int)] 0 Ts Ts.length).length = 1 + dp * (1 + wd) := layN_len hd _ fun j hj => (hT j hj).1.2
  have hr : st.toNat + (layN wd dp [(Ts.length : Int)] 0 Ts Ts.length).length ≤ W.length := by rw [hll, H.len]; omega
  refine ⟨spl_u32 hr (layN_u32 hd (by omega) (fun i => ?_) _ fun j hj => ⟨(hT j hj).1.2, (hT j hj).2⟩) H.u, by rw [spl_length hr, H.len], StgR.laid hd (by rw [H.len]; omega) hl fun j hj => (hT j hj).1, H.prt.far hr (.inr (by rw [hll]; omega)), by rw [spl_far hr (.inr (by rw [hll]; omega))]; exact H.lost⟩
  cases i with
  | zero => show 0 ≤ (Ts.length : Int) ∧ (Ts.length : Int) ≤ _; omega
  | succ i => rw [getD_over (by simp)]; decide
/-- The port is laid anew. -/
theorem QSt.port {N wd dp first : Nat} {st pt : Int} {W : List Int} {Ss Ps Ts : List (List Int)} {ls l2 : Int} (H : QSt N wd dp st pt W Ss Ps ls) (hd : 0 < dp) (hw : wd ≤ 16) (hd2 : dp ≤ 8) (h1 : st.toNat + (1 + dp * (1 + wd)) ≤ pt.toNat) (h2 : pt.toNat + (3 + dp * (1 + wd)) ≤ N) (hf : first < dp) (hT : MsgOk wd Ts) (hl : Ts.length ≤ dp) (hl0 : 0 ≤ l2) (hl1 : l2 ≤ 4294967295) : QSt N wd dp st pt (spl pt.toNat (portL wd dp first l2 Ts Ts.length) W) Ss Ts l2 := by
  have hll : (portL wd dp first l2 Ts Ts.length).length = 3 + dp * (1 + wd) := portL_len hd fun j hj => (hT j hj).1.2
  have hr : pt.toNat + (portL wd dp first l2 Ts Ts.length).length ≤ W.length := by rw [hll, H.len]; omega
  have hp := PrtR.laid (at_ := pt) (W := W) (ls := l2) hf (by rw [H.len]; omega) hl fun j hj => (hT j hj).1
  have hf2 : frst Ts.length first < dp := by unfold frst; split <;> omega
  refine ⟨spl_u32 hr (layN_u32 hd (by omega) (fun i => ?_) _ fun j hj => ⟨(hT j hj).1.2, (hT j hj).2⟩) H.u, by rw [spl_length hr, H.len], H.stg.far hr (.inl (by omega)), hp.1, hp.2.1⟩
  match i with
  | 0 => show 0 ≤ (frst Ts.length first : Int) ∧ (frst Ts.length first : Int) ≤ _; omega
  | 1 => show 0 ≤ (Ts.length : Int) ∧ (Ts.length : Int) ≤ _; omega
  | 2 => exact ⟨hl0, hl1⟩
  | i + 3 => rw [getD_over (by simp)]; decide
theorem QSt.put {N wd dp : Nat} {st pt : Int} {W W2 M : List Int} {Ss Ps : List (List Int)} {ls e : Int} {ok : Bool} (H : QSt N wd dp st pt W Ss Ps ls) (hd : 0 < dp) (hw : wd ≤ 16) (hd2 : dp ≤ 8) (h1 : st.toNat + (1 + dp * (1 + wd)) ≤ pt.toNat) (h2 : pt.toNat + (3 + dp * (1 + wd)) ≤ N) (hM : (1 ≤ M.length ∧ M.length ≤ wd) ∧ W32s M) (hQ : PutQ W st wd dp M ok e W2) : e = 0 ∧ ((ok = true ∧ Ss.length < dp ∧ QSt N wd dp st pt W2 (Ss ++ [M]) Ps ls) ∨ (ok = false ∧ Ss.length = dp ∧ QSt N wd dp st pt W2 Ss Ps ls)) := by
  rcases hQ with ⟨h3, rfl, ⟨_, h4⟩ | ⟨h4, Ts, h5, h6⟩⟩ | ⟨h3, h4, Ts, h5, h6, rfl⟩
  · exact absurd (RowR.same H.stg h4).2 (by decide)
  · obtain ⟨rfl, _⟩ := RowR.same H.stg h5
    exact ⟨h4, .inr ⟨h3, h6, H⟩⟩
  · obtain ⟨rfl, _⟩ := RowR.same H.stg h5
    refine ⟨h4, .inl ⟨h3, h6, ?_⟩⟩
    have := H.stage (Ts := Ts ++ [M]) hd hw hd2 h1 h2 ((H.ss hd).2.snoc hM) (by rw [List.length_append, List.length_singleton]; omega)
    rw [List.length_append, List.length_singleton] at this
    exact this
theorem QSt.take {N wd dp : Nat} {st pt : Int} {W W2 : List Int} {Ss Ps : List (List Int)} {ls e : Int} {ok : Bool} (H : QSt N wd dp st pt W Ss Ps ls) (hd : 0 < dp) (hw : wd ≤ 16) (hd2 : dp ≤ 8) (h1 : st.toNat + (1 + dp * (1 + wd)) ≤ pt.toNat) (h2 : pt.toNat + (3 + dp * (1 + wd)) ≤ N) (hQ : TakQ W pt wd dp ok e W2) : e = 0 ∧ ((ok = true ∧ 0 < Ps.length ∧ QSt N wd dp st pt W2 Ss (Ps.drop 1) ls) ∨ (ok = false ∧ Ps = [] ∧ QSt N wd dp st pt W2 Ss Ps ls)) := by
  rcases hQ with ⟨h3, rfl, ⟨_, Ts, h4⟩ | ⟨h4, h5⟩⟩ | ⟨h3, h4, Ts, h5, h6, rfl⟩
  · exact absurd (PrtR.same H.prt h4).2 (by decide)
  · obtain ⟨rfl, _⟩ := PrtR.same H.prt h5
    exact ⟨h4, .inr ⟨h3, rfl, H⟩⟩
  · obtain ⟨rfl, _⟩ := PrtR.same H.prt h5
    refine ⟨h4, .inl ⟨h3, h6, ?_⟩⟩
    have hp := H.ps hd
    have := H.port (Ts := Ts.drop 1) (first := ((W.getD pt.toNat 0).toNat + 1) % dp) (l2 := W.getD (pt.toNat + 2) 0) hd hw hd2 h1 h2 (Nat.mod_lt _ hd) hp.2.1.drop (by rw [List.length_drop]; omega) (H.u _).1 (H.u _).2
    rw [List.length_drop] at this
    rw [← H.lost]
    exact this
theorem QSt.look {N wd dp : Nat} {st pt : Int} {W T : List Int} {Ss Ps : List (List Int)} {ls e : Int} {th : Bool} (H : QSt N wd dp st pt W Ss Ps ls) (hQ : LookQ W pt wd dp T th e) : e = 0 ∧ ((th = true ∧ 0 < Ps.length ∧ T = tat Ps 0) ∨ (th = false ∧ Ps = [] ∧ T = [])) := by
  rcases hQ with ⟨h3, h6, ⟨_, Ts, h4⟩ | ⟨h4, h5⟩⟩ | ⟨h3, h4, Ts, h5, h6, h7⟩
  · exact absurd (PrtR.same H.prt h4).2 (by decide)
  · obtain ⟨rfl, _⟩ := PrtR.same H.prt h5
    exact ⟨h4, .inr ⟨h3, rfl, h6⟩⟩
  · obtain ⟨rfl, _⟩ := PrtR.same H.prt h5
    exact ⟨h4, .inl ⟨h3, h6, h7⟩⟩
theorem QSt.count {N wd dp : Nat} {st pt : Int} {W : List Int} {Ss Ps : List (List Int)} {ls k l2 e : Int} (H : QSt N wd dp st pt W Ss Ps ls) (hQ : CntQ W pt wd dp k l2 e) : e = 0 ∧ k = Ps.length ∧ l2 = ls := by
  rcases hQ with ⟨_, _, _, Ts, h4⟩ | ⟨h4, Ts, h5, h6, h7⟩
  · exact absurd (PrtR.same H.prt h4).2 (by decide)
  · obtain ⟨rfl, _⟩ := PrtR.same H.prt h5
    exact ⟨h4, h6, h7.trans H.lost⟩
theorem QSt.staged {N wd dp : Nat} {st pt : Int} {W : List Int} {Ss Ps : List (List Int)} {ls k e : Int} (H : QSt N wd dp st pt W Ss Ps ls) (hQ : StgdQ W st wd dp k e) : e = 0 ∧ k = Ss.length := by
  rcases hQ with ⟨_, _, h4⟩ | ⟨h4, Ts, h5, h6⟩
  · exact absurd (RowR.same H.stg h4).2 (by decide)
  · obtain ⟨rfl, _⟩ := RowR.same H.stg h5
    exact ⟨h4, h6⟩
theorem QSt.del {N wd dp : Nat} {st pt : Int} {W : List Int} {Ss Ps R : List (List Int)} {ls l2 : Int} (H : QSt N wd dp st pt W Ss Ps ls) (hd : 0 < dp) (hw : wd ≤ 16) (hd2 : dp ≤ 8) (h1 : st.toNat + (1 + dp * (1 + wd)) ≤ pt.toNat) (h2 : pt.toNat + (3 + dp * (1 + wd)) ≤ N) (hR : delN dp Ps (W.getD (pt.toNat + 2) 0) Ss Ss.length = (R, l2)) : QSt N wd dp st pt (delW W st pt wd dp (W.getD pt.toNat 0).toNat R l2) [] R l2 := by
  have hp := H.ps hd
  have hk := delN_ok hp.2.1 hp.1 (H.ss hd).2 (H.u (pt.toNat + 2)).1 (H.u (pt.toNat + 2)).2 Ss.length (Nat.le_refl _)
  rw [hR] at hk
  exact (H.port hd hw hd2 h1 h2 hp.2.2 hk.1 hk.2.1 hk.2.2.1 hk.2.2.2).stage (Ts := []) hd hw hd2 h1 h2 (MsgOk.nil wd) (Nat.zero_le _)

end Go.Proofs.Ytecibldbnekgbaa.Fw
