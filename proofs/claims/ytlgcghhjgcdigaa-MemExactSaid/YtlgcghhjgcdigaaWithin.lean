import Derived.Test.YtlgcghhjgcdigaaAlongX
import Derived.Test.YtlgcghhjgcdigaaFw29
namespace Go.Proofs.Ytlgcghhjgcdigaa.Fw
open Go Go.Proofs
set_option linter.unusedVariables false
set_option linter.unusedSimpArgs false
set_option maxRecDepth 10000

set_option maxHeartbeats 8000000 in
theorem within_x (w0 : World) (F : List Atom) (p1 g1 n1 c1 p2 g2 n2 c2 n : Nat) (hn1 : n1 ≤ n) (hn2 : n2 ≤ n) (hnn : n = n1 ∨ n = n2) (hn : n ≤ 1073741824) (W W2 : List Int) (hM : MemRd w0 F p1 g1 n1 c1 W) (hW : W.length = n1) (hM2 : MemRd w0 F p2 g2 n2 c2 W2) (hW2 : W2.length = n2) (bm bo : Nat) (hm : CellAt w0 F bm 0 (.pointer (some ⟨p1, 0, none⟩))) (ho : CellAt w0 F bo 0 (.pointer (some ⟨p2, 0, none⟩))) (D : Int) (hD : ((difs W W2 n).length : Int) = D) :
    CallK Try.prog 46 [.func (.func 30) #[] [.pointer (some ⟨bm, 0, none⟩), .pointer (some ⟨bo, 0, none⟩)].toArray, .int .i64 (D + 1)] w0 (F) (Gives w0 fun v F2 => v = .int .i64 (D * D) ∧ F2 = F) := by
  have hDn := difs_len W W2 n
  have hDD : 0 ≤ D * D ∧ D * D ≤ 1152921504606846976 := ⟨Int.mul_nonneg (by omega) (by omega), Int.le_trans (Int.mul_le_mul (show D ≤ 1073741824 by omega) (show D ≤ 1073741824 by omega) (by omega) (by decide)) (by decide)⟩
  refine c_enter Try.func46 rfl rfl rfl ?_
  refine g_seq ?_
  refine g_region ?_
  refine l_box rfl rfl rfl ?_; intro b2
  refine l_box rfl rfl rfl ?_; intro b3
  refine l_alloc rfl Try.zeroValue3 rfl ?_; intro b4
  refine l_nil ?_
  refine g_seq ?_
  refine g_region ?_
  refine l_alloc rfl Try.zeroValue3 rfl ?_; intro b5
  first | refine l_st Try.sizeOf3 rfl rfl rfl rfl ?_ | refine l_stw Try.sizeOf3 rfl rfl (by omega) ?_
  refine l_nil ?_
  refine g_seq ?_
  refine g_region ?_
  refine l_alloc rfl Try.zeroValue3 rfl ?_; intro b6
  first | refine l_st Try.sizeOf3 rfl rfl rfl rfl ?_ | refine l_stw Try.sizeOf3 rfl rfl (by omega) ?_
  refine l_nil ?_
  refine g_seq ?_
  refine g_seq ?_
  refine g_region ?_
  refine l_ld rfl Try.isAgg31 rfl rfl ?_
  refine l_eqfn rfl Try.underlying31 rfl rfl ?_
  refine l_nil ?_
  first | refine g_cond_f rfl ?_ | refine g_cond_f (congrArg (fun b => some (Value.bool b)) (decide_eq_false hbr)) ?_
  refine g_skip ?_
  refine g_seq ?_
  refine g_seq ?_
  refine g_region ?_
  refine l_ld rfl Try.isAgg31 rfl rfl ?_
  refine l_nil ?_
  refine g_block ?_
  refine g_rangeR rfl Try.call30 rfl ?_
  rintro r0 l0 RC0 hRC0
  refine CallK.heap (F2 := RC0 .ready none :: Blk b2 (.cells [Value.func (.func 30) #[] [.pointer (some ⟨bm, 0, none⟩), .pointer (some ⟨bo, 0, none⟩)].toArray].toArray 31 (0, 0)) :: Blk b3 (.cells [Value.int .i64 (D + 1)].toArray 3 (0, 0)) :: Blk b4 (.cells [Value.int .i64 0].toArray 3 (0, 0)) :: Blk b5 (.cells [Value.int .i64 (0 * D)].toArray 3 (0, 0)) :: Blk b6 (.cells [Value.int .i64 0].toArray 3 (0, 0)) :: Dfr r0 :: F) (CallK.mono (seq_x w0 [] (fun x : Int => RC0 .ready none :: Blk b2 (.cells [Value.func (.func 30) #[] [.pointer (some ⟨bm, 0, none⟩), .pointer (some ⟨bo, 0, none⟩)].toArray].toArray 31 (0, 0)) :: Blk b3 (.cells [Value.int .i64 (D + 1)].toArray 3 (0, 0)) :: Blk b4 (.cells [Value.int .i64 0].toArray 3 (0, 0)) :: Blk b5 (.cells [Value.int .i64 (x * D)].toArray 3 (0, 0)) :: Blk b6 (.cells [Value.int .i64 x].toArray 3 (0, 0)) :: Dfr r0 :: F) (fun k x => 0 ≤ k ∧ x = ((difs W W2 k.toNat).length : Int)) W W2 (fun F2 => F2 = RC0 .done (some .ret) :: Blk b4 (.cells [Value.int .i64 (D * D)].toArray 3 (0, 0)) :: Dfr r0 :: F) l0 bm bo p1 g1 n1 c1 p2 g2 n2 c2 n hn1 hn2 hnn hn (fun x => hM.to (fun w hw => SPI.holds hw)) hW (fun x => hM2.to (fun w hw => SPI.holds hw)) hW2 (fun x => ⟨CellAt.to hm (fun w hw => SPI.holds hw), CellAt.to ho (fun w hw => SPI.holds hw)⟩) (fun k x k0 k1 hI he => ⟨by omega, by rw [difs_eq k0 he]; exact hI.2⟩) (fun k x k0 k1 hI hne => ?_) 0 ⟨Int.le_refl _, rfl⟩) (fun en F2 hG => ?_)) (fun w hw => by rw [Int.zero_mul]; exact (SPI.holds (show Holds w0 (RC0 .ready none :: Dfr r0 :: Blk b6 (.cells [Value.int .i64 0].toArray 3 (0, 0)) :: Blk b5 (.cells [Value.int .i64 0].toArray 3 (0, 0)) :: Blk b4 (.cells [Value.int .i64 0].toArray 3 (0, 0)) :: Blk b3 (.cells [Value.int .i64 (D + 1)].toArray 3 (0, 0)) :: Blk b2 (.cells [Value.func (.func 30) #[] [.pointer (some ⟨bm, 0, none⟩), .pointer (some ⟨bo, 0, none⟩)].toArray].toArray 31 (0, 0)) :: F) w from hw) : Holds w0 (RC0 .ready none :: Blk b2 (.cells [Value.func (.func 30) #[] [.pointer (some ⟨bm, 0, none⟩), .pointer (some ⟨bo, 0, none⟩)].toArray].toArray 31 (0, 0)) :: Blk b3 (.cells [Value.int .i64 (D + 1)].toArray 3 (0, 0)) :: Blk b4 (.cells [Value.int .i64 0].toArray 3 (0, 0)) :: Blk b5 (.cells [Value.int .i64 0].toArray 3 (0, 0)) :: Blk b6 (.cells [Value.int .i64 0].toArray 3 (0, 0)) :: Dfr r0 :: F) w))
  · obtain ⟨_, hx⟩ := hI
    have hdn := congrArg List.length (difs_ne k0 hne)
    rw [List.length_append, List.length_singleton] at hdn
    have hmn := difs_mono (A := W) (B := W2) (k := (k + 1).toNat) (n := n) (by omega)
    have hx1 : x + 1 ≤ D := by omega
    have hx0 : 0 ≤ x := by omega
    have hxD : 0 ≤ x * D ∧ x * D ≤ 1152921504606846976 := ⟨Int.mul_nonneg hx0 (by omega), Int.le_trans (Int.mul_le_mul (show x ≤ 1073741824 by omega) (show D ≤ 1073741824 by omega) (by omega) (by decide)) (by decide)⟩
    have hxD2 : 0 ≤ (x + 1) * D ∧ (x + 1) * D ≤ 1152921504606846976 := ⟨Int.mul_nonneg (by omega) (by omega), Int.le_trans (Int.mul_le_mul (show x + 1 ≤ 1073741824 by omega) (show D ≤ 1073741824 by omega) (by omega) (by decide)) (by decide)⟩
    refine c_roundR hRC0 rfl rfl ?_
    dsimp only [putL]
    refine g_skip ?_
    refine g_beginR hRC0 ?_
    refine g_block ?_
    refine g_seq ?_
    refine g_region ?_
    first | refine l_ld rfl Try.isAgg3 rfl rfl ?_ | refine l_ldw rfl Try.isAgg3 rfl (by omega) ?_
    first | refine l_add rfl rfl rfl (w_i64 (by omega) (by omega)) ?_ | refine l_addw rfl rfl rfl ?_
    first | refine l_st Try.sizeOf3 rfl rfl rfl rfl ?_ | refine l_stw Try.sizeOf3 rfl rfl (by omega) ?_
    refine l_nil ?_
    refine g_seq ?_
    refine g_region ?_
    refine l_alloc rfl Try.zeroValue3 rfl ?_; intro b7
    first | refine l_st Try.sizeOf3 rfl rfl rfl rfl ?_ | refine l_stw Try.sizeOf3 rfl rfl (by omega) ?_
    refine l_nil ?_
    refine g_seq ?_
    refine g_seq ?_
    refine g_region ?_
    refine l_ld rfl Try.isAgg31 rfl rfl ?_
    refine l_nil ?_
    refine g_block ?_
    refine g_rangeN (st0 := .busy) (p0 := none) hRC0 rfl (by first | exact mem_getO 0 rfl | exact mem_getO 1 rfl | exact mem_getO 2 rfl | exact mem_getO 3 rfl | exact mem_getO 4 rfl | exact mem_getO 5 rfl | exact mem_getO 6 rfl | exact mem_getO 7 rfl | exact mem_getO 8 rfl | exact mem_getO 9 rfl | exact mem_getO 10 rfl | exact mem_getO 11 rfl | exact mem_getO 12 rfl | exact mem_getO 13 rfl | exact mem_getO 14 rfl | exact mem_getO 15 rfl) Try.call30 rfl ?_
    rintro l1 RC1 hRC1
    refine CallK.heap (F2 := RC1 .ready none :: Blk b7 (.cells [Value.int .i64 0].toArray 3 (0, 0)) :: RC0 .busy none :: Blk b2 (.cells [Value.func (.func 30) #[] [.pointer (some ⟨bm, 0, none⟩), .pointer (some ⟨bo, 0, none⟩)].toArray].toArray 31 (0, 0)) :: Blk b3 (.cells [Value.int .i64 (D + 1)].toArray 3 (0, 0)) :: Blk b4 (.cells [Value.int .i64 0].toArray 3 (0, 0)) :: Blk b5 (.cells [Value.int .i64 (x * D)].toArray 3 (0, 0)) :: Blk b6 (.cells [Value.int .i64 (x + 1)].toArray 3 (0, 0)) :: Dfr r0 :: F) (CallK.mono (seq_x w0 [] (fun y : Int => RC1 .ready none :: Blk b7 (.cells [Value.int .i64 y].toArray 3 (0, 0)) :: RC0 .busy none :: Blk b2 (.cells [Value.func (.func 30) #[] [.pointer (some ⟨bm, 0, none⟩), .pointer (some ⟨bo, 0, none⟩)].toArray].toArray 31 (0, 0)) :: Blk b3 (.cells [Value.int .i64 (D + 1)].toArray 3 (0, 0)) :: Blk b4 (.cells [Value.int .i64 0].toArray 3 (0, 0)) :: Blk b5 (.cells [Value.int .i64 (x * D)].toArray 3 (0, 0)) :: Blk b6 (.cells [Value.int .i64 (x + 1)].toArray 3 (0, 0)) :: Dfr r0 :: F) (fun k x => 0 ≤ k ∧ x = ((difs W W2 k.toNat).length : Int)) W W2 (fun _ => False) l1 bm bo p1 g1 n1 c1 p2 g2 n2 c2 n hn1 hn2 hnn hn (fun x => hM.to (fun w hw => SPI.holds hw)) hW (fun x => hM2.to (fun w hw => SPI.holds hw)) hW2 (fun x => ⟨CellAt.to hm (fun w hw => SPI.holds hw), CellAt.to ho (fun w hw => SPI.holds hw)⟩) (fun k x k0 k1 hI he => ⟨by omega, by rw [difs_eq k0 he]; exact hI.2⟩) (fun k2 y q0 q1 hI2 hne2 => ?_) 0 ⟨Int.le_refl _, rfl⟩) (fun en F2 hG => ?_)) (fun w hw => SPI.holds hw)
    · obtain ⟨_, hy⟩ := hI2
      have hdn2 := congrArg List.length (difs_ne q0 hne2)
      rw [List.length_append, List.length_singleton] at hdn2
      have hmn2 := difs_mono (A := W) (B := W2) (k := (k2 + 1).toNat) (n := n) (by omega)
      have hy1 : y + 1 ≤ D := by omega
      have hy0 : 0 ≤ y := by omega
      refine c_roundR hRC1 rfl rfl ?_
      dsimp only [putL]
      refine g_skip ?_
      refine g_beginR hRC1 ?_
      refine g_block ?_
      refine g_seq ?_
      refine g_region ?_
      first | refine l_ld rfl Try.isAgg3 rfl rfl ?_ | refine l_ldw rfl Try.isAgg3 rfl (by omega) ?_
      first | refine l_add rfl rfl rfl (w_i64 (by omega) (by omega)) ?_ | refine l_addw rfl rfl rfl ?_
      first | refine l_st Try.sizeOf3 rfl rfl rfl rfl ?_ | refine l_stw Try.sizeOf3 rfl rfl (by omega) ?_
      refine l_nil ?_
      refine g_seq ?_
      refine g_region ?_
      first | refine l_ld rfl Try.isAgg3 rfl rfl ?_ | refine l_ldw rfl Try.isAgg3 rfl (by omega) ?_
      first | refine l_ld rfl Try.isAgg3 rfl rfl ?_ | refine l_ldw rfl Try.isAgg3 rfl (by omega) ?_
      refine l_gtr rfl rfl rfl ?_
      refine l_nil ?_
      refine g_cond rfl ?_ ?_
      · intro hbr
        have hbr := of_decide_eq_true hbr
        (exfalso; first | omega | (simp at hbr; done))
      intro hbr
      have hbr := of_decide_eq_false hbr
      refine g_skip ?_
      refine g_inBlock ?_
      refine g_roundE (p := none) (F := Blk b7 (.cells [Value.int .i64 (y + 1)].toArray 3 (0, 0)) :: RC0 .busy none :: Blk b2 (.cells [Value.func (.func 30) #[] [.pointer (some ⟨bm, 0, none⟩), .pointer (some ⟨bo, 0, none⟩)].toArray].toArray 31 (0, 0)) :: Blk b3 (.cells [Value.int .i64 (D + 1)].toArray 3 (0, 0)) :: Blk b4 (.cells [Value.int .i64 0].toArray 3 (0, 0)) :: Blk b5 (.cells [Value.int .i64 (x * D)].toArray 3 (0, 0)) :: Blk b6 (.cells [Value.int .i64 (x + 1)].toArray 3 (0, 0)) :: Dfr r0 :: F) hRC1 (fun w hw => SPI.holds hw) ?_
      exact ⟨_, rfl, true, rfl, fun _ => ⟨y + 1, ⟨by omega, by omega⟩, fun w hw => hw⟩, fun h => (by cases h)⟩
    obtain ⟨v9, F9, rfl, hR9, hF9⟩ := hG
    refine ⟨⟨_, rfl⟩, ?_⟩
    obtain ⟨y, ⟨_, hy⟩, rfl⟩ := hR9.resolve_right id
    rw [Int.toNat_natCast, hD] at hy
    subst y
    refine ⟨.ready, none, Blk b7 (.cells [Value.int .i64 D].toArray 3 (0, 0)) :: RC0 .busy none :: Blk b2 (.cells [Value.func (.func 30) #[] [.pointer (some ⟨bm, 0, none⟩), .pointer (some ⟨bo, 0, none⟩)].toArray].toArray 31 (0, 0)) :: Blk b3 (.cells [Value.int .i64 (D + 1)].toArray 3 (0, 0)) :: Blk b4 (.cells [Value.int .i64 0].toArray 3 (0, 0)) :: Blk b5 (.cells [Value.int .i64 (x * D)].toArray 3 (0, 0)) :: Blk b6 (.cells [Value.int .i64 (x + 1)].toArray 3 (0, 0)) :: Dfr r0 :: F, (by intro h; cases h), fun w hw => SPI.holds (hF9 w hw), ?_⟩
    dsimp only [jumpK]
    refine g_inBlock ?_
    refine g_seq ?_
    refine g_region ?_
    first | refine l_ld rfl Try.isAgg3 rfl rfl ?_ | refine l_ldw rfl Try.isAgg3 rfl (by omega) ?_
    first | refine l_ld rfl Try.isAgg3 rfl rfl ?_ | refine l_ldw rfl Try.isAgg3 rfl (by omega) ?_
    refine l_add rfl rfl rfl (w_i64 (by omega) (by omega)) ?_
    rw [show x * D + D = (x + 1) * D by rw [Int.add_mul, Int.one_mul]]
    first | refine l_st Try.sizeOf3 rfl rfl rfl rfl ?_ | refine l_stw Try.sizeOf3 rfl rfl (by omega) ?_
    refine l_nil ?_
    refine g_seq ?_
    refine g_region ?_
    first | refine l_ld rfl Try.isAgg3 rfl rfl ?_ | refine l_ldw rfl Try.isAgg3 rfl (by omega) ?_
    first | refine l_ld rfl Try.isAgg3 rfl rfl ?_ | refine l_ldw rfl Try.isAgg3 rfl (by omega) ?_
    refine l_gtr rfl rfl rfl ?_
    refine l_move rfl rfl ?_
    refine l_split 27 rfl ?_ ?_
    · intro hbr
      have hbr := of_decide_eq_true hbr
      (exfalso; first | omega | (simp at hbr; done))
    intro hbr
    have hbr := of_decide_eq_false hbr
    refine l_guard_yes rfl rfl ?_
    first | refine l_ld rfl Try.isAgg3 rfl rfl ?_ | refine l_ldw rfl Try.isAgg3 rfl (by omega) ?_
    refine l_guard_yes rfl rfl ?_
    refine l_gtr rfl rfl rfl ?_
    refine l_guard_yes rfl rfl ?_
    refine l_move rfl rfl ?_
    refine l_split 30 rfl ?_ ?_
    · intro hbr
      have hbr := of_decide_eq_true hbr
      refine l_guard_yes rfl rfl ?_
      first | refine l_ld rfl Try.isAgg3 rfl rfl ?_ | refine l_ldw rfl Try.isAgg3 rfl (by omega) ?_
      refine l_guard_yes rfl rfl ?_
      first | refine l_ld rfl Try.isAgg3 rfl rfl ?_ | refine l_ldw rfl Try.isAgg3 rfl (by omega) ?_
      refine l_guard_yes rfl rfl ?_
      first | refine l_ld rfl Try.isAgg3 rfl rfl ?_ | refine l_ldw rfl Try.isAgg3 rfl (by omega) ?_
      refine l_guard_yes rfl rfl ?_
      first | refine l_mul rfl rfl rfl (w_i64 (by omega) (by omega)) ?_ | refine l_mulw rfl rfl rfl ?_
      refine l_guard_yes rfl rfl ?_
      refine l_eql rfl rfl rfl ?_
      refine l_guard_yes rfl rfl ?_
      refine l_pick_t rfl rfl rfl ?_
      refine l_guard_yes rfl rfl ?_
      refine l_move rfl rfl ?_
      refine l_split 37 rfl ?_ ?_
      · intro hbr
        have hbr := of_decide_eq_true hbr
        refine l_guard_yes rfl rfl ?_
        first | refine l_ld rfl Try.isAgg3 rfl rfl ?_ | refine l_ldw rfl Try.isAgg3 rfl (by omega) ?_
        refine l_guard_yes rfl rfl ?_
        refine l_gtr rfl rfl rfl ?_
        refine l_guard_yes rfl rfl ?_
        refine l_pick_t rfl rfl rfl ?_
        refine l_pick_f rfl rfl rfl ?_
        refine l_nil ?_
        refine g_cond rfl ?_ ?_
        · intro hbr
          have hbr := of_decide_eq_true hbr
          refine g_seq ?_
          refine g_region ?_
          first | refine l_ld rfl Try.isAgg3 rfl rfl ?_ | refine l_ldw rfl Try.isAgg3 rfl (by omega) ?_
          first | refine l_ld rfl Try.isAgg3 rfl rfl ?_ | refine l_ldw rfl Try.isAgg3 rfl (by omega) ?_
          first | refine l_mul rfl rfl rfl (w_i64 (by omega) (by omega)) ?_ | refine l_mulw rfl rfl rfl ?_
          first | refine l_st Try.sizeOf3 rfl rfl rfl rfl ?_ | refine l_stw Try.sizeOf3 rfl rfl (by omega) ?_
          refine l_nil ?_
          refine g_roundR (p := none) (F := Blk b4 (.cells [Value.int .i64 (D * D)].toArray 3 (0, 0)) :: Dfr r0 :: F) hRC0 (fun w hw => SPI.holds hw) ?_
          exact ⟨_, rfl, false, rfl, fun h => (by cases h), fun _ => rfl⟩
        intro hbr
        have hbr := of_decide_eq_false hbr
        refine g_skip ?_
        refine g_inBlock ?_
        refine g_roundE (p := none) (F := Blk b2 (.cells [Value.func (.func 30) #[] [.pointer (some ⟨bm, 0, none⟩), .pointer (some ⟨bo, 0, none⟩)].toArray].toArray 31 (0, 0)) :: Blk b3 (.cells [Value.int .i64 (D + 1)].toArray 3 (0, 0)) :: Blk b4 (.cells [Value.int .i64 0].toArray 3 (0, 0)) :: Blk b5 (.cells [Value.int .i64 ((x + 1) * D)].toArray 3 (0, 0)) :: Blk b6 (.cells [Value.int .i64 (x + 1)].toArray 3 (0, 0)) :: Dfr r0 :: F) hRC0 (fun w hw => SPI.holds hw) ?_
        exact ⟨_, rfl, true, rfl, fun _ => ⟨x + 1, ⟨by omega, by omega⟩, fun w hw => hw⟩, fun h => (by cases h)⟩
      · intro hbr
        have hbr := of_decide_eq_false hbr
        (exfalso; first | omega | (simp at hbr; done))
    intro hbr
    have hbr := of_decide_eq_false hbr
    refine l_guard_no rfl rfl rfl ?_
    refine l_guard_no rfl rfl rfl ?_
    refine l_guard_no rfl rfl rfl ?_
    refine l_guard_no rfl rfl rfl ?_
    refine l_guard_no rfl rfl rfl ?_
    refine l_guard_yes rfl rfl ?_
    refine l_pick_f rfl rfl rfl ?_
    refine l_guard_yes rfl rfl ?_
    refine l_move rfl rfl ?_
    refine l_guard_no rfl rfl rfl ?_
    refine l_guard_no rfl rfl rfl ?_
    refine l_guard_yes rfl rfl ?_
    refine l_pick_f rfl rfl rfl ?_
    refine l_pick_f rfl rfl rfl ?_
    refine l_nil ?_
    first | refine g_cond_f rfl ?_ | refine g_cond_f (congrArg (fun b => some (Value.bool b)) (decide_eq_false hbr)) ?_
    refine g_skip ?_
    refine g_inBlock ?_
    refine g_roundE (p := none) (F := Blk b2 (.cells [Value.func (.func 30) #[] [.pointer (some ⟨bm, 0, none⟩), .pointer (some ⟨bo, 0, none⟩)].toArray].toArray 31 (0, 0)) :: Blk b3 (.cells [Value.int .i64 (D + 1)].toArray 3 (0, 0)) :: Blk b4 (.cells [Value.int .i64 0].toArray 3 (0, 0)) :: Blk b5 (.cells [Value.int .i64 ((x + 1) * D)].toArray 3 (0, 0)) :: Blk b6 (.cells [Value.int .i64 (x + 1)].toArray 3 (0, 0)) :: Dfr r0 :: F) hRC0 (fun w hw => SPI.holds hw) ?_
    exact ⟨_, rfl, true, rfl, fun _ => ⟨x + 1, ⟨by omega, by omega⟩, fun w hw => hw⟩, fun h => (by cases h)⟩
  · obtain ⟨v9, F9, rfl, hR9, hF9⟩ := hG
    refine ⟨⟨_, rfl⟩, ?_⟩
    rcases hR9 with ⟨x, ⟨_, hx⟩, rfl⟩ | rfl
    · rw [Int.toNat_natCast, hD] at hx
      subst x
      refine ⟨.ready, none, Blk b2 (.cells [Value.func (.func 30) #[] [.pointer (some ⟨bm, 0, none⟩), .pointer (some ⟨bo, 0, none⟩)].toArray].toArray 31 (0, 0)) :: Blk b3 (.cells [Value.int .i64 (D + 1)].toArray 3 (0, 0)) :: Blk b4 (.cells [Value.int .i64 0].toArray 3 (0, 0)) :: Blk b5 (.cells [Value.int .i64 (D * D)].toArray 3 (0, 0)) :: Blk b6 (.cells [Value.int .i64 D].toArray 3 (0, 0)) :: Dfr r0 :: F, (by intro h; cases h), fun w hw => SPI.holds (hF9 w hw), ?_⟩
      dsimp only [jumpK]
      refine g_inBlock ?_
      refine g_seq ?_
      refine g_region ?_
      first | refine l_ld rfl Try.isAgg3 rfl rfl ?_ | refine l_ldw rfl Try.isAgg3 rfl (by omega) ?_
      first | refine l_st Try.sizeOf3 rfl rfl rfl rfl ?_ | refine l_stw Try.sizeOf3 rfl rfl (by omega) ?_
      refine l_nil ?_
      refine g_heap (F' := Dfr r0 :: Blk b4 (.cells [Value.int .i64 (D * D)].toArray 3 (0, 0)) :: F) (fun w hw => SPI.holds hw) ?_
      refine g_ret_m (F := Blk b4 (.cells [Value.int .i64 (D * D)].toArray 3 (0, 0)) :: F) [r0] rfl Try.func46 (fun w hw => hw) rfl (.ci rfl Try.isAgg3 rfl .nil) ?_
      exact Gives.mki ⟨rfl, rfl⟩
    · refine ⟨.done, (some .ret), Blk b4 (.cells [Value.int .i64 (D * D)].toArray 3 (0, 0)) :: Dfr r0 :: F, (by intro h; cases h), fun w hw => SPI.holds (hF9 w hw), ?_⟩
      dsimp only [jumpK]
      refine g_heap (F' := Dfr r0 :: Blk b4 (.cells [Value.int .i64 (D * D)].toArray 3 (0, 0)) :: F) (fun w hw => SPI.holds hw) ?_
      refine g_ret_m (F := Blk b4 (.cells [Value.int .i64 (D * D)].toArray 3 (0, 0)) :: F) [r0] rfl Try.func46 (fun w hw => hw) rfl (.ci rfl Try.isAgg3 rfl .nil) ?_
      exact Gives.mki ⟨rfl, rfl⟩
end Go.Proofs.Ytlgcghhjgcdigaa.Fw
