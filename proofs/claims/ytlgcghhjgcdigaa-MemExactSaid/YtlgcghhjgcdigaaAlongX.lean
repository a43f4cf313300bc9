import Derived.Test.YtlgcghhjgcdigaaIterX
namespace Go.Proofs.Ytlgcghhjgcdigaa.Fw
open Go Go.Proofs
set_option linter.unusedVariables false
set_option linter.unusedSimpArgs false
set_option maxRecDepth 10000

/-- The places below k at which two memories differ. -/
def difs (A B : List Int) : Nat → List Int
  | 0 => []
  | k + 1 => if Unl A B k then difs A B k ++ [(k : Int)] else difs A B k
theorem difs_ne {A B : List Int} {k : Int} (k0 : 0 ≤ k) (h : Unl A B k.toNat) : difs A B (k + 1).toNat = difs A B k.toNat ++ [k] := by
  rw [show (k + 1).toNat = k.toNat + 1 by omega]
  simp only [difs]
  rw [if_pos h, Int.toNat_of_nonneg k0]
theorem difs_eq {A B : List Int} {k : Int} (k0 : 0 ≤ k) (h : ¬ Unl A B k.toNat) : difs A B (k + 1).toNat = difs A B k.toNat := by
  rw [show (k + 1).toNat = k.toNat + 1 by omega]
  simp only [difs]
  rw [if_neg h]
theorem difs_len (A B : List Int) : ∀ k, (difs A B k).length ≤ k
  | 0 => Nat.le_refl _
  | k + 1 => by
    have := difs_len A B k
    simp only [difs]
    split
    · rw [List.length_append, List.length_singleton]; omega
    · omega
theorem difs_pre (A B : List Int) {k : Nat} : ∀ n, k ≤ n → ∃ t, difs A B n = difs A B k ++ t
  | 0, h => ⟨[], by rw [show k = 0 by omega]; simp⟩
  | n + 1, h => by
    by_cases hk : k = n + 1
    · exact ⟨[], by rw [hk]; simp⟩
    · obtain ⟨t, ht⟩ := difs_pre A B (k := k) n (by omega)
      simp only [difs]
      split
      · exact ⟨t ++ [(n : Int)], by rw [ht, List.append_assoc]⟩
      · exact ⟨t, ht⟩
theorem difs_take {A B : List Int} {k n m : Nat} (h : k ≤ n) (hl : (difs A B k).length = m) : difs A B k = (difs A B n).take m := by
  obtain ⟨t, ht⟩ := difs_pre A B n h
  rw [ht, ← hl, List.take_left]
theorem difs_mono {A B : List Int} {k n : Nat} (h : k ≤ n) : (difs A B k).length ≤ (difs A B n).length := by
  obtain ⟨t, ht⟩ := difs_pre A B n h
  rw [ht, List.length_append]; omega
theorem differ_c (w0 : World) (F : List Atom) (p1 p2 : Option Addr) :
    CallK Try.prog 11 [.pointer p1, .pointer p2] w0 (F) (Gives w0 fun v F2 => ∃ bm bo, v = .func (.func 30) #[] [.pointer (some ⟨bm, 0, none⟩), .pointer (some ⟨bo, 0, none⟩)].toArray ∧ F2 = Blk bm (.cells [Value.pointer p1].toArray 25 (0, 0)) :: Blk bo (.cells [Value.pointer p2].toArray 25 (0, 0)) :: F) := by
  refine c_enter Try.func11 rfl rfl rfl ?_
  refine g_seq ?_
  refine g_region ?_
  refine l_box rfl rfl rfl ?_; intro b2
  refine l_box rfl rfl rfl ?_; intro b3
  refine l_assign rfl rfl ?_
  refine l_nil ?_
  refine g_seq ?_
  refine g_region ?_
  refine l_makeFunc rfl rfl ?_
  refine l_assign rfl rfl ?_
  refine l_nil ?_
  refine g_ret Try.func11 rfl (.tmp rfl .nil) ?_
  exact Gives.mki ⟨b2, b3, rfl, rfl⟩
set_option maxHeartbeats 4000000 in
theorem along_x (w0 : World) (F : List Atom) (b1 g1 n1 c1 b2 g2 n2 c2 n : Nat) (hn1 : n1 ≤ n) (hn2 : n2 ≤ n) (hnn : n = n1 ∨ n = n2) (hn : n ≤ 1073741824) (W W2 : List Int) (hM : MemRd w0 F b1 g1 n1 c1 W) (hW : W.length = n1) (hM2 : MemRd w0 F b2 g2 n2 c2 W2) (hW2 : W2.length = n2) (bm bo : Nat) (hm : CellAt w0 F bm 0 (.pointer (some ⟨b1, 0, none⟩))) (ho : CellAt w0 F bo 0 (.pointer (some ⟨b2, 0, none⟩))) (most : Int) (m1 : 1 ≤ most) (m2 : most ≤ 9223372036854775807) :
    CallK Try.prog 13 [.func (.func 30) #[] [.pointer (some ⟨bm, 0, none⟩), .pointer (some ⟨bo, 0, none⟩)].toArray, .int .i64 most] w0 (F) (Gives w0 fun v F2 => ∃ a c T, v = .slice a T.length c ∧ T = (difs W W2 n).take most.toNat ∧ (T.length = 0 ∨ ∃ g, a = some ⟨g, 0, none⟩) ∧ F2 = Own 3 1 (.slice a T.length c) T.length (ints .i64 T) :: F) := by
  refine c_enter Try.func13 rfl rfl rfl ?_
  refine g_seq ?_
  refine g_region ?_
  refine l_box rfl rfl rfl ?_; intro b3
  refine l_assign rfl rfl ?_
  refine l_nil ?_
  refine g_seq ?_
  refine g_region ?_
  refine l_alloc rfl Try.zeroValue36 rfl ?_; intro b5
  refine l_nil ?_
  refine g_seq ?_
  refine g_seq ?_
  refine g_region ?_
  refine l_move rfl rfl ?_
  refine l_eqfn rfl Try.underlying31 rfl rfl ?_
  refine l_nil ?_
  first | refine g_cond_f rfl ?_ | refine g_cond_f (congrArg (fun b => some (Value.bool b)) (decide_eq_false hbr)) ?_
  refine g_skip ?_
  refine g_seq ?_
  refine g_seq ?_
  refine g_region ?_
  first | refine l_ld rfl Try.isAgg3 rfl rfl ?_ | refine l_ldw rfl Try.isAgg3 rfl (by omega) ?_
  refine l_lss rfl rfl rfl ?_
  refine l_nil ?_
  refine g_cond rfl ?_ ?_
  · intro hbr
    have hbr := of_decide_eq_true hbr
    (exfalso; omega)
  intro hbr
  have hbr := of_decide_eq_false hbr
  refine g_skip ?_
  refine g_seq ?_
  refine g_seq ?_
  refine g_region ?_
  refine l_own_nil 3 1 ?_
  refine l_move rfl rfl ?_
  refine l_nil ?_
  refine g_block ?_
  refine g_rangeR rfl Try.call30 rfl ?_
  rintro r0 l0 RC0 hRC0
  refine CallK.heap (F2 := RC0 .ready none :: Own 3 1 (.slice none ([] : List Int).length 0) ([] : List Int).length (ints .i64 ([] : List Int)) :: Blk b5 (.cells [Value.slice none ([] : List Int).length 0].toArray 36 (0, 0)) :: Blk b3 (.cells [Value.int .i64 most].toArray 3 (0, 0)) :: Dfr r0 :: F) (CallK.mono (seq_x w0 [] (fun x : Option Addr × Nat × List Int => RC0 .ready none :: Own 3 1 (.slice x.1 x.2.2.length x.2.1) x.2.2.length (ints .i64 x.2.2) :: Blk b5 (.cells [Value.slice x.1 x.2.2.length x.2.1].toArray 36 (0, 0)) :: Blk b3 (.cells [Value.int .i64 most].toArray 3 (0, 0)) :: Dfr r0 :: F) (fun k x => 0 ≤ k ∧ x.2.2 = difs W W2 k.toNat ∧ x.2.2.length < most ∧ (x.2.2.length = 0 ∨ ∃ g, x.1 = some ⟨g, 0, none⟩)) W W2 (fun F2 => ∃ a c T, T = (difs W W2 n).take most.toNat ∧ (T.length = 0 ∨ ∃ g, a = some ⟨g, 0, none⟩) ∧ F2 = RC0 .done (some (.exit 0)) :: Own 3 1 (.slice a T.length c) T.length (ints .i64 T) :: Blk b5 (.cells [Value.slice a T.length c].toArray 36 (0, 0)) :: Blk b3 (.cells [Value.int .i64 most].toArray 3 (0, 0)) :: Dfr r0 :: F) l0 bm bo b1 g1 n1 c1 b2 g2 n2 c2 n hn1 hn2 hnn hn (fun x => hM.to (fun w hw => SPI.holds hw)) hW (fun x => hM2.to (fun w hw => SPI.holds hw)) hW2 (fun x => ⟨CellAt.to hm (fun w hw => SPI.holds hw), CellAt.to ho (fun w hw => SPI.holds hw)⟩) (fun k x k0 k1 hI he => ⟨by omega, by rw [difs_eq k0 he]; exact hI.2.1, hI.2.2⟩) (fun k x k0 k1 hI hne => ?_) (none, 0, []) ⟨Int.le_refl _, rfl, by simp only [List.length_nil]; omega, .inl rfl⟩) (fun en F2 hG => ?_)) (fun w hw => (SPI.holds hw : Holds w0 (RC0 .ready none :: Own 3 1 (.slice none 0 0) 0 [] :: Blk b5 (.cells [Value.slice none 0 0].toArray 36 (0, 0)) :: Blk b3 (.cells [Value.int .i64 most].toArray 3 (0, 0)) :: Dfr r0 :: F) w))
  · obtain ⟨a, c, T⟩ := x
    obtain ⟨_, hT, hlt, _⟩ := hI
    simp only at hT hlt hne
    have hTl := difs_len W W2 k.toNat
    rw [← hT] at hTl
    have hdn := difs_ne k0 hne
    rw [← hT] at hdn
    dsimp only
    refine c_roundR hRC0 rfl rfl ?_
    dsimp only [putL]
    refine g_region ?_
    refine l_assign rfl rfl ?_
    refine l_nil ?_
    refine g_beginR hRC0 ?_
    refine g_block ?_
    refine g_seq ?_
    refine g_region ?_
    refine l_ld rfl Try.isAgg36 rfl rfl ?_
    refine l_move rfl rfl ?_
    refine l_frontv (.slice a T.length c) ?_
    refine l_buildSlice rfl Try.underlying36 Try.sizeOf3 Try.zeroValue3 rfl rfl rfl rfl rfl rfl ?_; intro b17
    refine l_does rfl (does_apps 1 (by_ := 8) (kd := .i64) (V := T) (W := [k]) (m := T.length) (m2 := 1) (m3 := (T ++ [k]).length) (V3 := (T ++ [k])) Try.underlying36 Try.type3 rfl rfl rfl rfl rfl rfl rfl ⟨rfl, .inl ⟨_, _, _, rfl, .own (mem_getO 0 rfl)⟩⟩ (by omega) (by simp only [maxLen]; omega) (by simp) rfl (fun _ _ => rfl)) ?_
    rintro _ _ ⟨a18, c18, ha18, hn18, rfl, rfl⟩
    refine l_st Try.sizeOf36 rfl rfl rfl rfl ?_
    refine l_nil ?_
    refine g_seq ?_
    refine g_region ?_
    refine l_ld rfl Try.isAgg36 rfl rfl ?_
    refine l_len rfl Try.underlying36 rfl ?_
    first | refine l_ld rfl Try.isAgg3 rfl rfl ?_ | refine l_ldw rfl Try.isAgg3 rfl (by omega) ?_
    refine l_eql rfl rfl rfl ?_
    refine l_nil ?_
    refine g_cond rfl ?_ ?_
    · intro hbr
      have hbr := of_decide_eq_true hbr
      refine g_roundX (p := none) (F := Own 3 1 (.slice a18 (T ++ [k]).length c18) (T ++ [k]).length (ints .i64 (T ++ [k])) :: Blk b5 (.cells [Value.slice a18 (T ++ [k]).length c18].toArray 36 (0, 0)) :: Blk b3 (.cells [Value.int .i64 most].toArray 3 (0, 0)) :: Dfr r0 :: F) hRC0 rfl (fun w hw => SPI.holds hw) ?_
      exact ⟨_, rfl, false, rfl, fun h => (by cases h), fun _ => ⟨a18, c18, (T ++ [k]), by rw [← hdn]; exact difs_take (by omega) (by rw [hdn]; simp only [List.length_append, List.length_singleton] at hbr ⊢; omega), ha18, rfl⟩⟩
    intro hbr
    have hbr := of_decide_eq_false hbr
    refine g_skip ?_
    refine g_inBlock ?_
    refine g_roundE (p := none) (F := Own 3 1 (.slice a18 (T ++ [k]).length c18) (T ++ [k]).length (ints .i64 (T ++ [k])) :: Blk b5 (.cells [Value.slice a18 (T ++ [k]).length c18].toArray 36 (0, 0)) :: Blk b3 (.cells [Value.int .i64 most].toArray 3 (0, 0)) :: Dfr r0 :: F) hRC0 (fun w hw => SPI.holds hw) ?_
    exact ⟨_, rfl, true, rfl, fun _ => ⟨(a18, c18, (T ++ [k])), ⟨by omega, hdn.symm, by simp only [List.length_append, List.length_singleton] at hbr ⊢; omega, ha18⟩, fun w hw => hw⟩, fun h => (by cases h)⟩
  · obtain ⟨v9, F9, rfl, hR9, hF9⟩ := hG
    refine ⟨⟨_, rfl⟩, ?_⟩
    rcases hR9 with ⟨⟨a, c, T⟩, ⟨_, hT, hlt, haT⟩, rfl⟩ | ⟨a, c, T, hT2, haT, rfl⟩
    · simp only [Int.toNat_natCast] at hT hlt haT
      have hT2 : T = (difs W W2 n).take most.toNat := by rw [List.take_of_length_le (by rw [← hT]; omega)]; exact hT
      refine ⟨.ready, none, Own 3 1 (.slice a T.length c) T.length (ints .i64 T) :: Blk b5 (.cells [Value.slice a T.length c].toArray 36 (0, 0)) :: Blk b3 (.cells [Value.int .i64 most].toArray 3 (0, 0)) :: Dfr r0 :: F, (by intro h; cases h), fun w hw => SPI.holds (hF9 w hw), ?_⟩
      dsimp only [jumpK]
      refine g_inBlock ?_
      refine g_seq ?_
      refine g_region ?_
      refine l_ld rfl Try.isAgg36 rfl rfl ?_
      refine l_assign rfl rfl ?_
      refine l_nil ?_
      refine g_heap (F' := Dfr r0 :: Own 3 1 (.slice a T.length c) T.length (ints .i64 T) :: Blk b5 (.cells [Value.slice a T.length c].toArray 36 (0, 0)) :: Blk b3 (.cells [Value.int .i64 most].toArray 3 (0, 0)) :: F) (fun w hw => SPI.holds hw) ?_
      refine g_ret_m (F := Own 3 1 (.slice a T.length c) T.length (ints .i64 T) :: Blk b5 (.cells [Value.slice a T.length c].toArray 36 (0, 0)) :: Blk b3 (.cells [Value.int .i64 most].toArray 3 (0, 0)) :: F) [r0] rfl Try.func13 (fun w hw => hw) rfl (.tmp rfl .nil) ?_
      exact Gives.mki ⟨a, c, T, rfl, hT2, haT, rfl⟩
    · refine ⟨.done, (some (.exit 0)), Own 3 1 (.slice a T.length c) T.length (ints .i64 T) :: Blk b5 (.cells [Value.slice a T.length c].toArray 36 (0, 0)) :: Blk b3 (.cells [Value.int .i64 most].toArray 3 (0, 0)) :: Dfr r0 :: F, (by intro h; cases h), fun w hw => SPI.holds (hF9 w hw), ?_⟩
      dsimp only [jumpK]
      refine g_exit rfl ?_
      refine g_seq ?_
      refine g_region ?_
      refine l_ld rfl Try.isAgg36 rfl rfl ?_
      refine l_assign rfl rfl ?_
      refine l_nil ?_
      refine g_heap (F' := Dfr r0 :: Own 3 1 (.slice a T.length c) T.length (ints .i64 T) :: Blk b5 (.cells [Value.slice a T.length c].toArray 36 (0, 0)) :: Blk b3 (.cells [Value.int .i64 most].toArray 3 (0, 0)) :: F) (fun w hw => SPI.holds hw) ?_
      refine g_ret_m (F := Own 3 1 (.slice a T.length c) T.length (ints .i64 T) :: Blk b5 (.cells [Value.slice a T.length c].toArray 36 (0, 0)) :: Blk b3 (.cells [Value.int .i64 most].toArray 3 (0, 0)) :: F) [r0] rfl Try.func13 (fun w hw => hw) rfl (.tmp rfl .nil) ?_
      exact Gives.mki ⟨a, c, T, rfl, hT2, haT, rfl⟩
theorem along_0 (w0 : World) (F : List Atom) (bm bo : Nat) (most : Int) (m1 : most < 1) :
    CallK Try.prog 13 [.func (.func 30) #[] [.pointer (some ⟨bm, 0, none⟩), .pointer (some ⟨bo, 0, none⟩)].toArray, .int .i64 most] w0 (F) (Gives w0 fun v F2 => v = .slice none 0 0 ∧ F2 = F) := by
  refine c_enter Try.func13 rfl rfl rfl ?_
  refine g_seq ?_
  refine g_region ?_
  refine l_box rfl rfl rfl ?_; intro b3
  refine l_assign rfl rfl ?_
  refine l_nil ?_
  refine g_seq ?_
  refine g_region ?_
  refine l_alloc rfl Try.zeroValue36 rfl ?_; intro b5
  refine l_nil ?_
  refine g_seq ?_
  refine g_seq ?_
  refine g_region ?_
  refine l_move rfl rfl ?_
  refine l_eqfn rfl Try.underlying31 rfl rfl ?_
  refine l_nil ?_
  first | refine g_cond_f rfl ?_ | refine g_cond_f (congrArg (fun b => some (Value.bool b)) (decide_eq_false hbr)) ?_
  refine g_skip ?_
  refine g_seq ?_
  refine g_seq ?_
  refine g_region ?_
  first | refine l_ld rfl Try.isAgg3 rfl rfl ?_ | refine l_ldw rfl Try.isAgg3 rfl (by omega) ?_
  refine l_lss rfl rfl rfl ?_
  refine l_nil ?_
  refine g_cond rfl ?_ ?_
  · intro hbr
    have hbr := of_decide_eq_true hbr
    refine g_seq ?_
    refine g_region ?_
    refine l_ld rfl Try.isAgg36 rfl rfl ?_
    refine l_assign rfl rfl ?_
    refine l_nil ?_
    refine g_ret Try.func13 rfl (.tmp rfl .nil) ?_
    exact Gives.mki ⟨rfl, rfl⟩
  · intro hbr
    have hbr := of_decide_eq_false hbr
    (exfalso; omega)
theorem along_n1 (w0 : World) (F : List Atom) (bm bo : Nat) (hm : CellAt w0 F bm 0 (.pointer none)) (most : Int) (m1 : 1 ≤ most) :
    CallK Try.prog 13 [.func (.func 30) #[] [.pointer (some ⟨bm, 0, none⟩), .pointer (some ⟨bo, 0, none⟩)].toArray, .int .i64 most] w0 (F) (Gives w0 fun v F2 => v = .slice none 0 0 ∧ F2 = F) := by
  refine c_enter Try.func13 rfl rfl rfl ?_
  refine g_seq ?_
  refine g_region ?_
  refine l_box rfl rfl rfl ?_; intro b3
  refine l_assign rfl rfl ?_
  refine l_nil ?_
  refine g_seq ?_
  refine g_region ?_
  refine l_alloc rfl Try.zeroValue36 rfl ?_; intro b5
  refine l_nil ?_
  refine g_seq ?_
  refine g_seq ?_
  refine g_region ?_
  refine l_move rfl rfl ?_
  refine l_eqfn rfl Try.underlying31 rfl rfl ?_
  refine l_nil ?_
  first | refine g_cond_f rfl ?_ | refine g_cond_f (congrArg (fun b => some (Value.bool b)) (decide_eq_false hbr)) ?_
  refine g_skip ?_
  refine g_seq ?_
  refine g_seq ?_
  refine g_region ?_
  first | refine l_ld rfl Try.isAgg3 rfl rfl ?_ | refine l_ldw rfl Try.isAgg3 rfl (by omega) ?_
  refine l_lss rfl rfl rfl ?_
  refine l_nil ?_
  refine g_cond rfl ?_ ?_
  · intro hbr
    have hbr := of_decide_eq_true hbr
    (exfalso; omega)
  intro hbr
  have hbr := of_decide_eq_false hbr
  refine g_skip ?_
  refine g_seq ?_
  refine g_seq ?_
  refine g_region ?_
  refine l_move rfl rfl ?_
  refine l_nil ?_
  refine g_block ?_
  refine g_rangeR rfl Try.call30 rfl ?_
  rintro r0 l0 RC0 hRC0
  have hrd : True := trivial
  refine CallK.heap (F2 := RC0 .ready none :: Blk b5 (.cells [Value.slice none 0 0].toArray 36 (0, 0)) :: Blk b3 (.cells [Value.int .i64 most].toArray 3 (0, 0)) :: Dfr r0 :: F) (CallK.mono (seq_n1 w0 (RC0 .ready none :: Blk b5 (.cells [Value.slice none 0 0].toArray 36 (0, 0)) :: Blk b3 (.cells [Value.int .i64 most].toArray 3 (0, 0)) :: Dfr r0 :: F) l0 bm bo (CellAt.to hm (fun w hw => SPI.holds hw))) (fun en F2 hG => ?_)) (fun w hw => SPI.holds hw)
  obtain ⟨v9, F9, rfl, hR9, hF9⟩ := hG
  refine ⟨⟨_, rfl⟩, ?_⟩
  subst hR9
  refine ⟨.ready, none, Blk b5 (.cells [Value.slice none 0 0].toArray 36 (0, 0)) :: Blk b3 (.cells [Value.int .i64 most].toArray 3 (0, 0)) :: Dfr r0 :: F, (by intro h; cases h), fun w hw => SPI.holds (hF9 w hw), ?_⟩
  dsimp only [jumpK]
  refine g_inBlock ?_
  refine g_seq ?_
  refine g_region ?_
  refine l_ld rfl Try.isAgg36 rfl rfl ?_
  refine l_assign rfl rfl ?_
  refine l_nil ?_
  refine g_heap (F' := Dfr r0 :: Blk b5 (.cells [Value.slice none 0 0].toArray 36 (0, 0)) :: Blk b3 (.cells [Value.int .i64 most].toArray 3 (0, 0)) :: F) (fun w hw => SPI.holds hw) ?_
  refine g_ret_m (F := Blk b5 (.cells [Value.slice none 0 0].toArray 36 (0, 0)) :: Blk b3 (.cells [Value.int .i64 most].toArray 3 (0, 0)) :: F) [r0] rfl Try.func13 (fun w hw => hw) rfl (.tmp rfl .nil) ?_
  exact Gives.mki ⟨rfl, rfl⟩
theorem along_n2 (w0 : World) (F : List Atom) (bm bo : Nat) (a : Addr) (hm : CellAt w0 F bm 0 (.pointer (some a))) (ho : CellAt w0 F bo 0 (.pointer none)) (most : Int) (m1 : 1 ≤ most) :
    CallK Try.prog 13 [.func (.func 30) #[] [.pointer (some ⟨bm, 0, none⟩), .pointer (some ⟨bo, 0, none⟩)].toArray, .int .i64 most] w0 (F) (Gives w0 fun v F2 => v = .slice none 0 0 ∧ F2 = F) := by
  refine c_enter Try.func13 rfl rfl rfl ?_
  refine g_seq ?_
  refine g_region ?_
  refine l_box rfl rfl rfl ?_; intro b3
  refine l_assign rfl rfl ?_
  refine l_nil ?_
  refine g_seq ?_
  refine g_region ?_
  refine l_alloc rfl Try.zeroValue36 rfl ?_; intro b5
  refine l_nil ?_
  refine g_seq ?_
  refine g_seq ?_
  refine g_region ?_
  refine l_move rfl rfl ?_
  refine l_eqfn rfl Try.underlying31 rfl rfl ?_
  refine l_nil ?_
  first | refine g_cond_f rfl ?_ | refine g_cond_f (congrArg (fun b => some (Value.bool b)) (decide_eq_false hbr)) ?_
  refine g_skip ?_
  refine g_seq ?_
  refine g_seq ?_
  refine g_region ?_
  first | refine l_ld rfl Try.isAgg3 rfl rfl ?_ | refine l_ldw rfl Try.isAgg3 rfl (by omega) ?_
  refine l_lss rfl rfl rfl ?_
  refine l_nil ?_
  refine g_cond rfl ?_ ?_
  · intro hbr
    have hbr := of_decide_eq_true hbr
    (exfalso; omega)
  intro hbr
  have hbr := of_decide_eq_false hbr
  refine g_skip ?_
  refine g_seq ?_
  refine g_seq ?_
  refine g_region ?_
  refine l_move rfl rfl ?_
  refine l_nil ?_
  refine g_block ?_
  refine g_rangeR rfl Try.call30 rfl ?_
  rintro r0 l0 RC0 hRC0
  have hrd : True := trivial
  refine CallK.heap (F2 := RC0 .ready none :: Blk b5 (.cells [Value.slice none 0 0].toArray 36 (0, 0)) :: Blk b3 (.cells [Value.int .i64 most].toArray 3 (0, 0)) :: Dfr r0 :: F) (CallK.mono (seq_n2 w0 (RC0 .ready none :: Blk b5 (.cells [Value.slice none 0 0].toArray 36 (0, 0)) :: Blk b3 (.cells [Value.int .i64 most].toArray 3 (0, 0)) :: Dfr r0 :: F) l0 bm bo a (CellAt.to hm (fun w hw => SPI.holds hw)) (CellAt.to ho (fun w hw => SPI.holds hw))) (fun en F2 hG => ?_)) (fun w hw => SPI.holds hw)
  obtain ⟨v9, F9, rfl, hR9, hF9⟩ := hG
  refine ⟨⟨_, rfl⟩, ?_⟩
  subst hR9
  refine ⟨.ready, none, Blk b5 (.cells [Value.slice none 0 0].toArray 36 (0, 0)) :: Blk b3 (.cells [Value.int .i64 most].toArray 3 (0, 0)) :: Dfr r0 :: F, (by intro h; cases h), fun w hw => SPI.holds (hF9 w hw), ?_⟩
  dsimp only [jumpK]
  refine g_inBlock ?_
  refine g_seq ?_
  refine g_region ?_
  refine l_ld rfl Try.isAgg36 rfl rfl ?_
  refine l_assign rfl rfl ?_
  refine l_nil ?_
  refine g_heap (F' := Dfr r0 :: Blk b5 (.cells [Value.slice none 0 0].toArray 36 (0, 0)) :: Blk b3 (.cells [Value.int .i64 most].toArray 3 (0, 0)) :: F) (fun w hw => SPI.holds hw) ?_
  refine g_ret_m (F := Blk b5 (.cells [Value.slice none 0 0].toArray 36 (0, 0)) :: Blk b3 (.cells [Value.int .i64 most].toArray 3 (0, 0)) :: F) [r0] rfl Try.func13 (fun w hw => hw) rfl (.tmp rfl .nil) ?_
  exact Gives.mki ⟨rfl, rfl⟩
end Go.Proofs.Ytlgcghhjgcdigaa.Fw
