import Derived.Test.YtecibldbnekgbaaQRead
import Derived.Test.YtecibldbnekgbaaMem
namespace Go.Proofs.Ytecibldbnekgbaa.Fw
open Go Go.Proofs
set_option linter.unusedVariables false
set_option linter.unusedSimpArgs false
set_option maxRecDepth 10000
theorem bd_64_2 (a2_0 : Option Addr) (n2_0 c2_0 : Nat) (w : World) : (Instr.build 64 #[(2, .slice a2_0 n2_0 c2_0)]).run Try.prog w = .ok (.agg #[.int .u32 0, .int .u32 0, .slice a2_0 n2_0 c2_0]) w := by kernel_rfl
/- Rows as they lie in a memory. -/
theorem all_nat (h wd dp : Nat) : (h : Int) + (dp : Int) * (1 + (wd : Int)) = ((h + dp * (1 + wd) : Nat) : Int) := by
  rw [Int.natCast_add, Int.natCast_mul, Int.natCast_add]; rfl
theorem pw_bd {wd dp : Nat} (h1 : 1 ≤ wd) (h2 : wd ≤ 16) (h3 : 1 ≤ dp) (h4 : dp ≤ 8) : 2 ≤ dp * (1 + wd) ∧ dp * (1 + wd) ≤ 136 := ⟨Nat.le_trans (by omega : 2 ≤ 1 * (1 + wd)) (Nat.mul_le_mul_right _ h3), Nat.le_trans (Nat.mul_le_mul h4 (by omega : 1 + wd ≤ 17)) (by decide)⟩
theorem kp_bd {wd dp kk : Nat} (h : kk < dp) : kk * (1 + wd) + 1 + wd ≤ dp * (1 + wd) := by
  have := Nat.mul_le_mul_right (1 + wd) (show kk + 1 ≤ dp from h)
  rw [Nat.add_mul] at this
  omega
def stL (W : List Int) (at_ : Int) (k : Nat) : List Int := (W.drop at_.toNat).take k
theorem stL_len {W : List Int} {n k : Nat} {at_ : Int} (hW : W.length = n) (h : inR n at_ (k : Int)) : (stL W at_ k).length = k := by
  unfold inR at h
  unfold stL
  rw [List.length_take, List.length_drop]; omega
theorem stL_getD {W : List Int} {at_ : Int} {k j : Nat} (h : j < k) : (stL W at_ k).getD j 0 = W.getD (at_.toNat + j) 0 := by unfold stL; rw [getD_part, if_pos h]
/-- What lies on a stage, in a port. -/
def StgR (W : List Int) (at_ : Int) (wd dp : Nat) (Ts : List (List Int)) (ok : Bool) : Prop := RowR ((stL W at_ (1 + dp * (1 + wd))).drop 1) wd dp 0 (W.getD at_.toNat 0).toNat Ts ok
def PrtR (W : List Int) (at_ : Int) (wd dp : Nat) (Ts : List (List Int)) (ok : Bool) : Prop := ∃ r, RowR ((stL W at_ (3 + dp * (1 + wd))).drop 3) wd dp (W.getD at_.toNat 0).toNat (W.getD (at_.toNat + 1) 0).toNat Ts r ∧ (ok = true ↔ r = true ∧ (0 < W.getD (at_.toNat + 1) 0 ∨ W.getD at_.toNat 0 = 0))
/-- What lay lays. -/
def layN (wd dp : Nat) (Hd : List Int) (first : Nat) (Ts : List (List Int)) : Nat → List Int
  | 0 => spl 0 Hd (List.replicate (Hd.length + dp * (1 + wd)) 0)
  | i + 1 => spl (Hd.length + (first + i) % dp * (1 + wd) + 1) (tat Ts i) ((layN wd dp Hd first Ts i).set (Hd.length + (first + i) % dp * (1 + wd)) ((tat Ts i).length : Int))
theorem layN_len {wd dp : Nat} {Hd : List Int} {first : Nat} {Ts : List (List Int)} (hd : 0 < dp) : ∀ i, (∀ j, j < i → (tat Ts j).length ≤ wd) → (layN wd dp Hd first Ts i).length = Hd.length + dp * (1 + wd)
  | 0, _ => by simp only [layN]; rw [spl_length (by rw [List.length_replicate]; omega), List.length_replicate]
  | i + 1, h => by
    have ih := layN_len (first := first) (Hd := Hd) hd i fun j hj => h j (by omega)
    have h1 := h i (by omega)
    have h2 := kp_bd (wd := wd) (Nat.mod_lt (first + i) hd)
    simp only [layN]
    rw [spl_length (by rw [List.length_set, ih]; omega), List.length_set, ih]
theorem spl_u32 {o : Nat} {Y W : List Int} (ho : o + Y.length ≤ W.length) (h1 : W32s Y) (h2 : W32s W) : W32s (spl o Y W) := fun i => by
  rw [spl_getD ho]
  split
  · exact h1 _
  · exact h2 _
theorem set_u32 {W : List Int} {i : Nat} {x : Int} (hU : W32s W) (h0 : 0 ≤ x) (h1 : x ≤ 4294967295) : W32s (W.set i x) := by
  intro j
  by_cases h : i < W.length
  · simp only [List.getD_eq_getElem?_getD, List.getElem?_set]
    by_cases e : i = j
    · subst e; simp [h]; omega
    · simp [e]; exact hU j
  · rw [List.set_eq_of_length_le (by omega)]; exact hU j
def MsRd (w0 : World) (F : List Atom) (wd : Nat) (ms : List LV) (Ts : List (List Int)) : Prop := ∀ j, j < ms.length → IR w0 F .u32 (lat ms j).a (lat ms j).n (tat Ts j) ∧ 1 ≤ (lat ms j).n ∧ (lat ms j).n ≤ wd
theorem tk_row {w0 : World} {F : List Atom} {q o h k E cap m : Nat} {L : List Int} (hm : Own E 1 (.slice (some ⟨q, 0, none⟩) m cap) m (ints .u32 L) ∈ F) (hL : L.length = k) (ho : o = sloff (h : Int) cap 0 1) (hk : L.length ≤ cap) : RowAt w0 F q o (ints .u32 (L.drop h)) := by
  have := row_sub (RowAt.own (w0 := w0) hm) (sloff_spec (i := (h : Int)) (cap := cap) (o := 0) (sz := 1)) hk
  rw [Int.toNat_natCast] at this
  rw [ho]; exact this

theorem RowAt.subl {w0 : World} {F F1 : List Atom} {b o : Nat} {l : List Value} (h : RowAt w0 F b o l) (hs : F.Sublist F1) : RowAt w0 F1 b o l := fun w hw => h w (hw.sub hs)
theorem there_in (w0 : World) (F : List Atom) (wd dp : Nat) (w1 : 1 ≤ wd) (w2 : wd ≤ 16) (d1 : 1 ≤ dp) (d2 : dp ≤ 8) (b g n c : Nat) (W : List Int) (hW : W.length = n) (hc : n ≤ c) (hn : n ≤ 1073741824) (hU : W32s W) (at_ : Int) (h : Nat) (h1 : h = 1 ∨ h = 3) (hi : inR n at_ ((h + dp * (1 + wd) : Nat) : Int)) :
    CallK Try.prog 26 [.agg #[.int .i64 (wd : Int), .int .i64 (dp : Int)], .pointer (some ⟨b, 0, none⟩), .int .i64 at_, .int .i64 (h : Int)] w0 (Blk b (.cells [Value.slice (some ⟨g, 0, none⟩) n c].toArray 76 (0, 0)) :: Own 33 1 (.slice (some ⟨g, 0, none⟩) n c) n (ints .u32 W) :: F) (Gives w0 fun v F2 => v = .bool true ∧ F2 = Blk b (.cells [Value.slice (some ⟨g, 0, none⟩) n c].toArray 76 (0, 0)) :: Own 33 1 (.slice (some ⟨g, 0, none⟩) n c) n (ints .u32 W) :: F) := by
  have hpw := pw_bd w1 w2 d1 d2
  have hi2 := hi
  unfold inR at hi2
  refine c_enter Try.func26 rfl rfl rfl ?_
  refine g_seq ?_
  refine g_region ?_
  refine l_boxs rfl rfl ?_; intro b4
  refine l_assign rfl rfl ?_
  refine l_nil ?_
  refine g_seq ?_
  refine g_region ?_
  refine l_move rfl rfl ?_
  refine l_move rfl rfl ?_
  refine l_lds rfl Try.isAgg61 Try.sizeOf61 rfl rfl ?_
  refine l_move rfl rfl ?_
  refine l_call rfl Try.call46 rfl (all_ok _ _ wd dp h (by omega) (by omega) (by omega) (by omega) (by omega) (by omega)) ?_; rintro _ F9 ⟨rfl, hF9⟩; rw [hF9]; clear hF9 F9
  rw [show (h : Int) + (dp : Int) * (1 + (wd : Int)) = ((h + dp * (1 + wd) : Nat) : Int) from all_nat h wd dp]
  refine l_fronto g ?_
  refine l_frontb b ?_
  refine l_call rfl Try.call49 rfl (take_ok _ _ b g n c W hW hc hn at_ ((h + dp * (1 + wd) : Nat) : Int) (by omega) (by omega) hi) ?_; rintro _ _ ⟨gk, rfl, rfl⟩
  rw [Int.toNat_natCast, show (W.drop at_.toNat).take (h + dp * (1 + wd)) = stL W at_ (h + dp * (1 + wd)) from rfl]
  have hsl := stL_len hW hi
  have hsU : W32s (stL W at_ (h + dp * (1 + wd))) := hU.part _ _
  refine l_move rfl rfl ?_
  refine l_extract rfl rfl rfl ?_
  refine l_extract rfl rfl rfl ?_
  refine l_assign rfl rfl ?_
  refine l_assign rfl rfl ?_
  refine l_nil ?_
  refine g_seq ?_
  refine g_region ?_
  refine l_move rfl rfl ?_
  refine l_eql rfl rfl rfl ?_
  refine l_assign rfl rfl ?_
  refine l_nil ?_
  refine g_ret Try.func26 rfl (.tmp rfl .nil) ?_
  exact Gives.mki ⟨rfl, rfl⟩
theorem there_out (w0 : World) (F : List Atom) (wd dp : Nat) (w1 : 1 ≤ wd) (w2 : wd ≤ 16) (d1 : 1 ≤ dp) (d2 : dp ≤ 8) (b g n c : Nat) (W : List Int) (hW : W.length = n) (hc : n ≤ c) (hn : n ≤ 1073741824) (at_ : Int) (at_0 : -9223372036854775808 ≤ at_) (at_1 : at_ ≤ 9223372036854775807) (h : Nat) (h1 : h = 1 ∨ h = 3) (hi : ¬ inR n at_ ((h + dp * (1 + wd) : Nat) : Int)) :
    CallK Try.prog 26 [.agg #[.int .i64 (wd : Int), .int .i64 (dp : Int)], .pointer (some ⟨b, 0, none⟩), .int .i64 at_, .int .i64 (h : Int)] w0 (Blk b (.cells [Value.slice (some ⟨g, 0, none⟩) n c].toArray 76 (0, 0)) :: Own 33 1 (.slice (some ⟨g, 0, none⟩) n c) n (ints .u32 W) :: F) (Gives w0 fun v F2 => v = .bool false ∧ F2 = Blk b (.cells [Value.slice (some ⟨g, 0, none⟩) n c].toArray 76 (0, 0)) :: Own 33 1 (.slice (some ⟨g, 0, none⟩) n c) n (ints .u32 W) :: F) := by
  have hpw := pw_bd w1 w2 d1 d2
  refine c_enter Try.func26 rfl rfl rfl ?_
  refine g_seq ?_
  refine g_region ?_
  refine l_boxs rfl rfl ?_; intro b4
  refine l_assign rfl rfl ?_
  refine l_nil ?_
  refine g_seq ?_
  refine g_region ?_
  refine l_move rfl rfl ?_
  refine l_move rfl rfl ?_
  refine l_lds rfl Try.isAgg61 Try.sizeOf61 rfl rfl ?_
  refine l_move rfl rfl ?_
  refine l_call rfl Try.call46 rfl (all_ok _ _ wd dp h (by omega) (by omega) (by omega) (by omega) (by omega) (by omega)) ?_; rintro _ F9 ⟨rfl, hF9⟩; rw [hF9]; clear hF9 F9
  rw [show (h : Int) + (dp : Int) * (1 + (wd : Int)) = ((h + dp * (1 + wd) : Nat) : Int) from all_nat h wd dp]
  refine l_fronto g ?_
  refine l_frontb b ?_
  refine l_call rfl Try.call49 rfl (take_bad _ _ b g n c W hW hc hn at_ ((h + dp * (1 + wd) : Nat) : Int) at_0 at_1 (by omega) (by omega) hi) ?_; rintro _ _ ⟨rfl, rfl⟩
  refine l_move rfl rfl ?_
  refine l_extract rfl rfl rfl ?_
  refine l_extract rfl rfl rfl ?_
  refine l_assign rfl rfl ?_
  refine l_assign rfl rfl ?_
  refine l_nil ?_
  refine g_seq ?_
  refine g_region ?_
  refine l_move rfl rfl ?_
  refine l_eql rfl rfl rfl ?_
  refine l_assign rfl rfl ?_
  refine l_nil ?_
  refine g_ret Try.func26 rfl (.tmp rfl .nil) ?_
  exact Gives.mki ⟨rfl, rfl⟩
set_option maxHeartbeats 1000000 in
theorem stage_ok (w0 : World) (F : List Atom) (wd dp : Nat) (w1 : 1 ≤ wd) (w2 : wd ≤ 16) (d1 : 1 ≤ dp) (d2 : dp ≤ 8) (b g n c : Nat) (W : List Int) (hW : W.length = n) (hc : n ≤ c) (hn : n ≤ 1073741824) (hU : W32s W) (at_ : Int) (hi : inR n at_ ((1 + dp * (1 + wd) : Nat) : Int)) :
    CallK Try.prog 27 [.agg #[.int .i64 (wd : Int), .int .i64 (dp : Int)], .pointer (some ⟨b, 0, none⟩), .int .i64 at_] w0 (Blk b (.cells [Value.slice (some ⟨g, 0, none⟩) n c].toArray 76 (0, 0)) :: Own 33 1 (.slice (some ⟨g, 0, none⟩) n c) n (ints .u32 W) :: F) (Gives w0 fun v F2 => ∃ ao co ms Ts ok, v = .tuple #[.agg #[.int .u32 0, .int .u32 0, .slice ao ms.length co], .bool ok] ∧ F2 = Own 29 1 (.slice ao ms.length co) ms.length (ms.map lvV) :: BigF ms.length (fun j => Own 33 1 (.slice (lat ms j).a (lat ms j).n (lat ms j).c) (lat ms j).n (ints .u32 (tat Ts j))) :: Blk b (.cells [Value.slice (some ⟨g, 0, none⟩) n c].toArray 76 (0, 0)) :: Own 33 1 (.slice (some ⟨g, 0, none⟩) n c) n (ints .u32 W) :: F ∧ MsOk ms Ts ∧ (ms.length = 0 ∨ ∃ g, ao = some ⟨g, 0, none⟩) ∧ StgR W at_ wd dp Ts ok) := by
  have hpw := pw_bd w1 w2 d1 d2
  have hi2 := hi
  unfold inR at hi2
  obtain ⟨mn, hmn⟩ := Int.eq_ofNat_of_zero_le (hU at_.toNat).1
  have hmb := (hU at_.toNat).2
  rw [hmn] at hmb
  have hm0 : (stL W at_ (1 + dp * (1 + wd))).getD 0 0 = (mn : Int) := by rw [stL_getD (by omega)]; exact hmn
  refine c_enter Try.func27 rfl rfl rfl ?_
  refine g_seq ?_
  refine g_region ?_
  refine l_boxs rfl rfl ?_; intro b3
  refine l_allocs rfl Try.zeroValue64 ?_; intro b6
  refine l_assign rfl rfl ?_
  refine l_nil ?_
  refine g_seq ?_
  refine g_region ?_
  refine l_move rfl rfl ?_
  refine l_move rfl rfl ?_
  refine l_lds rfl Try.isAgg61 Try.sizeOf61 rfl rfl ?_
  refine l_call rfl Try.call46 rfl (all_ok _ _ wd dp 1 (by omega) (by omega) (by omega) (by omega) (by omega) (by omega)) ?_; rintro _ F9 ⟨rfl, hF9⟩; rw [hF9]; clear hF9 F9
  rw [show (1 : Int) + (dp : Int) * (1 + (wd : Int)) = ((1 + dp * (1 + wd) : Nat) : Int) from all_nat 1 wd dp]
  refine l_fronto g ?_
  refine l_frontb b ?_
  refine l_call rfl Try.call49 rfl (take_ok _ _ b g n c W hW hc hn at_ ((1 + dp * (1 + wd) : Nat) : Int) (by omega) (by omega) hi) ?_; rintro _ _ ⟨gk, rfl, rfl⟩
  rw [Int.toNat_natCast, show (W.drop at_.toNat).take (1 + dp * (1 + wd)) = stL W at_ (1 + dp * (1 + wd)) from rfl]
  have hsl := stL_len hW hi
  have hsU : W32s (stL W at_ (1 + dp * (1 + wd))) := hU.part _ _
  refine l_move rfl rfl ?_
  refine l_extract rfl rfl rfl ?_
  refine l_extract rfl rfl rfl ?_
  refine l_assign rfl rfl ?_
  refine l_assign rfl rfl ?_
  refine l_nil ?_
  refine g_seq ?_
  refine gp_start mo (by kernel_rfl) (by kernel_rfl) ?_
  refine gp_quiet 0 rfl rfl rfl rfl rfl rfl (q_lds Try.isAgg61 Try.sizeOf61 rfl rfl) ?_
  refine gp_quiet 1 rfl rfl rfl rfl rfl rfl (q_move rfl) ?_
  refine gp_quiet 2 rfl rfl rfl rfl rfl rfl (q_slice_lo Try.underlying29 Try.sizeOf33 rfl rfl (by omega) (by omega) (by omega)) ?_
  refine gp_quiet 3 rfl rfl rfl rfl rfl rfl (q_move rfl) ?_
  refine gp_quiet 4 rfl rfl rfl rfl rfl rfl (q_ixs Try.underlying29 Try.sizeOf33 rfl rfl (by omega) (by omega)) ?_
  refine gp_quiet 5 rfl rfl rfl rfl rfl rfl (q_loadc (v := .int .u32 ((mn : Nat) : Int)) Try.isAgg33 rfl (by rw [← show (stL W at_ (1 + dp * (1 + wd))).getD 0 0 = ((mn : Nat) : Int) from hm0]; exact word_at (mem_getO 0 rfl) (by rw [hsl]; omega))) ?_
  refine gp_fronto gk ?_
  have h9 := tk_row (w0 := w0) (F := [Own 33 1 (.slice (some ⟨gk, 0, none⟩) (1 + dp * (1 + wd)) (1 + dp * (1 + wd))) (1 + dp * (1 + wd)) (ints .u32 (stL W at_ (1 + dp * (1 + wd))))]) (h := 1) (o := sloff ((1 : Nat) : Int) (1 + dp * (1 + wd)) 0 1) (List.mem_cons_self ..) hsl rfl (by omega)
  refine gp_effa 6 [0, 2, 5] [4, 3, 1] rfl rfl rfl rfl rfl rfl rfl (does_call Try.call50 rfl (read_ok _ _ wd dp w1 w2 d1 d2 gk (sloff ((1 : Nat) : Int) (1 + dp * (1 + wd)) 0 1) _ _ ((stL W at_ (1 + dp * (1 + wd))).drop 1) (by rw [List.length_drop, hsl]; rfl) (by show (1 + dp * (1 + wd)) - 1 = _; omega) (by omega) (h9.subl (List.Sublist.cons_cons _ (List.nil_sublist _))) (hsU.drop _) 0 mn (by omega) (by omega))) ?_
  rintro _ _ ⟨ao, co, ms, Ts, ok, rfl, rfl, hMs, hao, hRow⟩
  refine ⟨?_, ?_⟩
  · refine .cons rfl rfl rfl rfl rfl (q_ixs Try.underlying29 Try.sizeOf33 rfl rfl (by omega) (by omega)) ?_
    refine .cons rfl rfl rfl rfl rfl (q_move rfl) ?_
    refine .cons rfl rfl rfl rfl rfl (q_move rfl) ?_
    exact .nil
  refine gp_quiet 7 rfl rfl rfl rfl rfl rfl (q_move rfl) ?_
  refine gp_quiet 8 rfl rfl rfl rfl rfl rfl (q_extract rfl rfl) ?_
  refine gp_quiet 9 rfl rfl rfl rfl rfl rfl (q_extract rfl rfl) ?_
  refine gp_quiet 10 rfl rfl rfl rfl rfl rfl (q_assign rfl) ?_
  refine gp_quiet 11 rfl rfl rfl rfl rfl rfl (q_assign rfl) ?_
  refine gp_end rfl rfl ?_
  refine g_seq ?_
  refine g_region ?_
  refine l_move rfl rfl ?_
  refine l_build rfl rfl (fun w => bd_64_2 _ _ _ w) ?_
  refine l_move rfl rfl ?_
  refine l_sts Try.sizeOf64 rfl rfl rfl rfl rfl ?_
  refine l_assign rfl rfl ?_
  refine l_nil ?_
  refine g_ret Try.func27 rfl (.cis rfl Try.isAgg64 Try.sizeOf64 rfl (.tmp rfl .nil)) ?_
  exact Gives.mki ⟨ao, co, ms, Ts, ok, rfl, rfl, hMs, hao, by unfold StgR; rw [hmn]; exact hRow⟩
end Go.Proofs.Ytecibldbnekgbaa.Fw
