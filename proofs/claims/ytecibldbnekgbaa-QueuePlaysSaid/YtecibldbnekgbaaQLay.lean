import Derived.Test.YtecibldbnekgbaaQRows
namespace Go.Proofs.Ytecibldbnekgbaa.Fw
open Go Go.Proofs
set_option linter.unusedVariables false
set_option linter.unusedSimpArgs false
set_option maxRecDepth 10000
theorem fa_64_0 (a : Addr) (w : World) : (Instr.fieldAt 64 (.pointer (some a)) 0).run Try.prog w = .ok (.pointer (some (a.add 0))) w := by
  simp [Instr.fieldAt, Try.runUnderlying64, Instr.sureAddr, fieldPlace, Try.sizeOf33, Sem.run_bind, Sem.run_pure]
set_option maxHeartbeats 4000000 in
theorem lay_row (w0 : World) (F : List Atom) (wd dp : Nat) (w1 : 1 ≤ wd) (w2 : wd ≤ 16) (d1 : 1 ≤ dp) (d2 : dp ≤ 8) (b g n c : Nat) (W : List Int) (hW : W.length = n) (hc : n ≤ c) (hn : n ≤ 1073741824) (at_ : Int) (hn_ hc_ gh oh : Nat) (Hd : List Int) (hHl : Hd.length = hn_) (hh1 : 1 ≤ hn_) (hh3 : hn_ ≤ 3) (hcc : hn_ ≤ hc_) (hrH : RowAt w0 F gh oh (ints .u32 Hd)) (hi : inR n at_ ((hn_ + dp * (1 + wd) : Nat) : Int)) (first : Nat) (hf : first < dp) (ls : Int) (ao : Option Addr) (m co : Nat) (ms : List LV) (Ts : List (List Int)) (hml : ms.length = m) (hm : m ≤ dp) (hrow : m = 0 ∨ ∃ g o, ao = some ⟨g, o, none⟩ ∧ RowAt w0 F g o (ms.map lvV)) (hms : MsRd w0 F wd ms Ts) :
    CallK Try.prog 25 [.agg #[.int .i64 (wd : Int), .int .i64 (dp : Int)], .pointer (some ⟨b, 0, none⟩), .int .i64 at_, .agg #[.int .u32 (first : Int), .int .u32 ls, .slice ao m co], .slice (some ⟨gh, oh, none⟩) hn_ hc_] w0 (Blk b (.cells [Value.slice (some ⟨g, 0, none⟩) n c].toArray 76 (0, 0)) :: Own 33 1 (.slice (some ⟨g, 0, none⟩) n c) n (ints .u32 W) :: F) (Gives w0 fun v F2 => F2 = Blk b (.cells [Value.slice (some ⟨g, 0, none⟩) n c].toArray 76 (0, 0)) :: Own 33 1 (.slice (some ⟨g, 0, none⟩) n c) n (ints .u32 (spl at_.toNat (layN wd dp Hd first Ts m) W)) :: F) := by
  have hpw := pw_bd w1 w2 d1 d2
  have hi2 := hi
  unfold inR at hi2
  refine c_enter Try.func25 rfl rfl rfl ?_
  refine g_seq ?_
  refine g_region ?_
  refine l_boxs rfl rfl ?_; intro b5
  refine l_boxs rfl rfl ?_; intro b8
  refine l_nil ?_
  refine g_seq ?_
  refine g_region ?_
  refine l_lds rfl Try.isAgg61 Try.sizeOf61 rfl rfl ?_
  refine l_move rfl rfl ?_
  refine l_len rfl Try.underlying29 rfl ?_
  refine l_call rfl Try.call46 rfl (all_ok _ _ wd dp hn_ (by omega) (by omega) (by omega) (by omega) (by omega) (by omega)) ?_; rintro _ F9 ⟨rfl, hF9⟩; rw [hF9]; clear hF9 F9
  rw [show (hn_ : Int) + (dp : Int) * (1 + (wd : Int)) = ((hn_ + dp * (1 + wd) : Nat) : Int) from all_nat hn_ wd dp]
  refine l_makew rfl Try.underlying29 Try.type33 rfl rfl rfl rfl (by omega) (by show (4 : Int) * _ ≤ _; omega) (by omega) ?_; intro b18; rw [Int.toNat_natCast]
  refine l_assign rfl rfl ?_
  refine l_nil ?_
  refine g_seq ?_
  refine g_region ?_
  refine l_move rfl rfl ?_
  refine l_move rfl rfl ?_
  refine l_copyw 0 (W := Hd) rfl Try.underlying29 Try.sizeOf33 rfl rfl rfl ⟨by rw [ints_length]; omega, .inl ⟨_, _, _, rfl, hrH.ex⟩⟩ (by first | (simp; done) | (simp; omega)) (by rw [show Hd.take (min hn_ (hn_ + dp * (1 + wd))) = Hd from List.take_of_length_le (by omega)]; rfl) ?_
  rw [show spl 0 Hd (List.replicate (hn_ + dp * (1 + wd)) 0) = (layN wd dp Hd first Ts 0) by simp only [layN]; rw [hHl]]
  refine l_nil ?_
  refine g_seq ?_
  refine g_seq ?_
  refine g_region ?_
  refine l_fieldAddr rfl fa_64_2 rfl ?_
  refine l_ld rfl Try.isAgg40 rfl rfl ?_
  refine l_len rfl Try.underlying40 rfl ?_
  refine l_move rfl rfl ?_
  refine l_nil ?_
  refine g_block ?_
  refine g_loopk (X := Int) [(1, _), (2, _), (4, _), (5, _), (8, _), (10, _), (23, _), (24, _)] (.cons rfl (.cons rfl (.cons rfl (.cons rfl (.cons rfl (.cons rfl (.cons rfl (.cons rfl (.nil))))))))) (fun i => 0 ≤ i ∧ i ≤ m) (fun i => (m - i).toNat) (fun i => [(25, .int .i64 i)]) (fun i => Own 33 1 (.slice (some ⟨b18, 0, none⟩) (hn_ + dp * (1 + wd)) (hn_ + dp * (1 + wd))) (hn_ + dp * (1 + wd)) (ints .u32 (layN wd dp Hd first Ts i.toNat)) :: Blk b8 (.cells [Value.int .u32 (first : Int), .int .u32 ls, .slice ao m co].toArray 64 (0, 0)) :: Blk b5 (.cells [Value.int .i64 (wd : Int), .int .i64 (dp : Int)].toArray 61 (0, 0)) :: Blk b (.cells [Value.slice (some ⟨g, 0, none⟩) n c].toArray 76 (0, 0)) :: Own 33 1 (.slice (some ⟨g, 0, none⟩) n c) n (ints .u32 W) :: F) (0) (⟨by omega, by omega⟩) (.cons rfl .nil) ((fun w hw => hw)) ?_
  rintro i ⟨i0, i1⟩ ih
  dsimp only [List.cons_append, List.nil_append] at ih ⊢
  refine g_seq ?_
  refine g_region ?_
  refine l_lss rfl rfl rfl ?_
  refine l_nil ?_
  refine g_seq ?_
  refine g_cond rfl ?_ ?_
  · intro hbr
    have hbr := of_decide_eq_true hbr
    refine g_skip ?_
    refine g_seq ?_
    refine g_block ?_
    refine g_seq ?_
    refine g_region ?_
    refine l_move rfl rfl ?_
    obtain ⟨gr, orr, rfl, hrr⟩ := hrow.resolve_left (show ¬ m = 0 by omega)
    obtain ⟨⟨aj, nj, cj⟩, hj⟩ : ∃ x, lat ms i.toNat = x := ⟨_, rfl⟩
    obtain ⟨hIj, hj1, hjw⟩ := hms i.toNat (by omega)
    rw [hj] at hIj hj1 hjw
    simp only at hIj hj1 hjw
    obtain ⟨bj, oj, rfl, hrj⟩ := hIj.some (i := 0) (by omega)
    have hTl := hIj.1
    refine l_ixs rfl Try.underlying40 Try.sizeOf29 rfl rfl (by omega) (by omega) ?_
    refine l_loadc rfl Try.isAgg29 rfl (lv_cell hrr hj (by omega)) ?_
    refine l_assign rfl rfl ?_
    refine l_assign rfl rfl ?_
    refine l_nil ?_
    refine g_seq ?_
    refine gp_start mo (by kernel_rfl) (by kernel_rfl) ?_
    have hmn := mod_nat (first := first) (dp := dp) i0 (by omega)
    obtain ⟨kk, hke⟩ : ∃ kk, (first + i.toNat) % dp = kk := ⟨_, rfl⟩
    rw [hke] at hmn
    obtain ⟨hre, hkd⟩ := hmn
    obtain ⟨p0, p1, p2, p3, p4⟩ := piece_bd w1 w2 d2 hkd
    have hkb := kp_bd (wd := wd) hkd
    refine gp_quiet 0 rfl rfl rfl rfl rfl rfl (q_move rfl) ?_
    refine gp_quiet 1 rfl rfl rfl rfl rfl rfl (q_len Try.underlying29 rfl) ?_
    refine gp_quiet 2 rfl rfl rfl rfl rfl rfl (q_fieldAddr fa_64_0 rfl) ?_
    first | refine gp_quiet 3 rfl rfl rfl rfl rfl rfl (q_ld Try.isAgg33 rfl rfl) ?_ | refine gp_quiet 3 rfl rfl rfl rfl rfl rfl (q_ldw Try.isAgg33 rfl (by omega)) ?_
    first | refine gp_quiet 4 rfl rfl rfl rfl rfl rfl (q_conv Try.underlying33 Try.underlying3 rfl (w_i64 (by omega) (by omega))) ?_ | refine gp_quiet 4 rfl rfl rfl rfl rfl rfl (q_convw Try.underlying33 Try.underlying3 rfl) ?_
    refine gp_quiet 5 rfl rfl rfl rfl rfl rfl (q_move rfl) ?_
    first | refine gp_quiet 6 rfl rfl rfl rfl rfl rfl (q_add rfl rfl (w_i64 (by omega) (by omega))) ?_ | refine gp_quiet 6 rfl rfl rfl rfl rfl rfl (q_addw rfl rfl) ?_
    refine gp_quiet 7 rfl rfl rfl rfl rfl rfl (q_fieldAddr fa_61_1 rfl) ?_
    first | refine gp_quiet 8 rfl rfl rfl rfl rfl rfl (q_ld Try.isAgg3 rfl rfl) ?_ | refine gp_quiet 8 rfl rfl rfl rfl rfl rfl (q_ldw Try.isAgg3 rfl (by omega)) ?_
    refine gp_quiet 9 rfl rfl rfl rfl rfl rfl (q_rem rfl rfl (by omega) (by omega) (by rw [hre]; exact w_i64 (by omega) (by omega))) ?_
    refine gp_quiet 10 rfl rfl rfl rfl rfl rfl (q_lds Try.isAgg61 Try.sizeOf61 rfl rfl) ?_
    refine gp_effa 11 [10] [9, 8, 7, 6, 5, 4, 3, 2, 1, 0] rfl rfl rfl rfl rfl rfl rfl (does_call Try.call47 rfl (place_ok _ _ wd dp (by omega) (by omega))) ?_
    rintro _ F9 ⟨rfl, hF9⟩; rw [hF9]; clear hF9 F9
    refine ⟨?_, ?_⟩
    · refine .cons rfl rfl rfl rfl rfl (q_rem rfl rfl (by omega) (by omega) (by rw [hre]; exact w_i64 (by omega) (by omega))) ?_
      first | refine .cons rfl rfl rfl rfl rfl (q_ld Try.isAgg3 rfl rfl) ?_ | refine .cons rfl rfl rfl rfl rfl (q_ldw Try.isAgg3 rfl (by omega)) ?_
      refine .cons rfl rfl rfl rfl rfl (q_fieldAddr fa_61_1 rfl) ?_
      first | refine .cons rfl rfl rfl rfl rfl (q_add rfl rfl (w_i64 (by omega) (by omega))) ?_ | refine .cons rfl rfl rfl rfl rfl (q_addw rfl rfl) ?_
      refine .cons rfl rfl rfl rfl rfl (q_move rfl) ?_
      first | refine .cons rfl rfl rfl rfl rfl (q_conv Try.underlying33 Try.underlying3 rfl (w_i64 (by omega) (by omega))) ?_ | refine .cons rfl rfl rfl rfl rfl (q_convw Try.underlying33 Try.underlying3 rfl) ?_
      first | refine .cons rfl rfl rfl rfl rfl (q_ld Try.isAgg33 rfl rfl) ?_ | refine .cons rfl rfl rfl rfl rfl (q_ldw Try.isAgg33 rfl (by omega)) ?_
      refine .cons rfl rfl rfl rfl rfl (q_fieldAddr fa_64_0 rfl) ?_
      refine .cons rfl rfl rfl rfl rfl (q_len Try.underlying29 rfl) ?_
      refine .cons rfl rfl rfl rfl rfl (q_move rfl) ?_
      exact .nil
    refine gp_quiet 12 rfl rfl rfl rfl rfl rfl (q_mul rfl rfl (by rw [hre]; exact w_i64 (by omega) (by omega))) ?_
    refine gp_quiet 13 rfl rfl rfl rfl rfl rfl (q_add rfl rfl (by rw [hre]; exact w_i64 (by omega) (by omega))) ?_
    refine gp_quiet 14 rfl rfl rfl rfl rfl rfl (q_assign rfl) ?_
    refine gp_end rfl rfl ?_
    refine g_seq ?_
    refine g_region ?_
    rw [hre, show (hn_ : Int) + (kk : Int) * (1 + (wd : Int)) = ((hn_ + kk * (1 + wd) : Nat) : Int) from all_nat hn_ wd kk]
    obtain ⟨kp, hkp⟩ : ∃ kp, hn_ + kk * (1 + wd) = kp := ⟨_, rfl⟩
    rw [hkp]
    have hXl := layN_len (first := first) (Hd := Hd) (Ts := Ts) (wd := wd) (dp := dp) (by omega) i.toNat (fun j hj => by have h9 := hms j (by omega); rw [h9.1.1]; exact h9.2.2)
    rw [hHl] at hXl
    refine l_fronto b18 ?_
    refine l_move rfl rfl ?_
    refine l_move rfl rfl ?_
    refine l_move rfl rfl ?_
    refine l_len rfl Try.underlying29 rfl ?_
    refine l_conv rfl Try.underlying3 Try.underlying33 rfl (w_u32 (by omega) (by omega)) ?_
    refine l_ixs rfl Try.underlying29 Try.sizeOf33 rfl rfl (by omega) (by omega) ?_
    rw [Int.toNat_natCast]
    refine l_storew 0 Try.sizeOf33 rfl rfl rfl (by omega) rfl ?_
    rw [← hTl]
    refine l_nil ?_
    refine g_region ?_
    refine l_move rfl rfl ?_
    refine l_move rfl rfl ?_
    first | refine l_add rfl rfl rfl (w_i64 (by omega) (by omega)) ?_ | refine l_addw rfl rfl rfl ?_
    refine l_slice_lo rfl Try.underlying29 Try.sizeOf33 rfl rfl (by omega) (by omega) (by omega) ?_; intro o53 ho53
    refine l_move rfl rfl ?_
    obtain rfl : o53 = kp + 1 := by omega
    refine l_copyw 0 (W := tat Ts i.toNat) rfl Try.underlying29 Try.sizeOf33 rfl rfl rfl ⟨by rw [ints_length]; omega, .inl ⟨_, _, _, rfl, hrj.ex⟩⟩ (by rw [List.length_set]; omega) (by rw [show (tat Ts i.toNat).take (min (tat Ts i.toNat).length ((hn_ + dp * (1 + wd)) - ((kp : Int) + 1).toNat)) = tat Ts i.toNat from List.take_of_length_le (by omega)]; rfl) ?_
    refine l_nil ?_
    refine g_inBlock ?_
    refine g_region ?_
    first | refine l_add rfl rfl rfl (w_i64 (by omega) (by omega)) ?_ | refine l_addw rfl rfl rfl ?_
    refine l_move rfl rfl ?_
    refine l_nil ?_
    have e9 : (layN wd dp Hd first Ts (i + 1).toNat) = (spl (kp + 1) (tat Ts i.toNat) ((layN wd dp Hd first Ts i.toNat).set kp ((tat Ts i.toNat).length : Int))) := by rw [show (i + 1).toNat = i.toNat + 1 by omega]; simp only [layN]; rw [hHl, hke, hkp]
    rw [← e9]
    exact g_againi (ih (i + 1) ⟨by omega, by omega⟩ (by omega)) (.cons rfl (.cons rfl (.cons rfl (.cons rfl (.cons rfl (.cons rfl (.cons rfl (.cons rfl (.cons rfl (.nil))))))))))
  intro hbr
  have hbr := of_decide_eq_false hbr
  refine g_exit rfl ?_
  obtain rfl : i = m := by omega
  rw [Int.toNat_natCast]
  refine g_region ?_
  refine l_move rfl rfl ?_
  refine l_move rfl rfl ?_
  refine l_move rfl rfl ?_
  have hXl := layN_len (first := first) (Hd := Hd) (Ts := Ts) (wd := wd) (dp := dp) (by omega) m (fun j hj => by have h9 := hms j (by omega); rw [h9.1.1]; exact h9.2.2)
  rw [hHl] at hXl
  refine l_fronto g ?_
  refine l_frontb b ?_
  refine l_call rfl Try.call48 rfl (lay_ok _ _ b g n c W hW hc hn at_ (by omega) b18 0 (hn_ + dp * (1 + wd)) (hn_ + dp * (1 + wd)) (layN wd dp Hd first Ts m) hXl (by omega) (.own (by first | exact mem_getO 0 rfl | exact mem_getO 1 rfl | exact mem_getO 2 rfl | exact mem_getO 3 rfl | exact mem_getO 4 rfl)) hi) ?_; rintro _ _ ⟨rfl, rfl⟩
  refine l_nil ?_
  refine g_end Try.func25 rfl .nil ?_
  exact Gives.mki rfl
end Go.Proofs.Ytecibldbnekgbaa.Fw
