import Derived.Test.YtoflbmjdpngdiaaOne
namespace Go.Proofs.Ytoflbmjdpngdiaa.Fw
open Go Go.Proofs
set_option linter.unusedVariables false
set_option linter.unusedSimpArgs false
set_option maxRecDepth 10000

theorem one_any (w0 : World) (F : List Atom) (b g n c b2 g2 c2 : Nat) (W : List Int) (hW : W.length = n) (hc : n ≤ c) (hc2 : n ≤ c2) (hn : n ≤ 1073741824) (hU : U32s W) (kd at_ kk x : Int) (a0 : -9223372036854775808 ≤ at_) (a1 : at_ ≤ 9223372036854775807) (k0 : -9223372036854775808 ≤ kk) (k1 : kk ≤ 9223372036854775807) (x0 : 0 ≤ x) (x1 : x ≤ 4294967295) : CallK Try.prog 10 [.pointer (some ⟨b, 0, none⟩), .pointer (some ⟨b2, 0, none⟩), .agg [Value.int .i64 kd, .int .i64 at_, .int .i64 kk, .int .u32 x].toArray] w0 (Blk b (.cells [.slice (some ⟨g, 0, none⟩) n c].toArray 56 (0, 0)) :: Own 23 1 (.slice (some ⟨g, 0, none⟩) n c) n (ints .u32 W) :: Blk b2 (.cells [.slice (some ⟨g2, 0, none⟩) n c2].toArray 58 (0, 0)) :: Own 23 1 (.slice (some ⟨g2, 0, none⟩) n c2) n (ints .u32 W) :: F) (Gives w0 fun v F2 => v = .bool true ∧ ∃ W2, W2.length = n ∧ U32s W2 ∧ F2 = Blk b (.cells [.slice (some ⟨g, 0, none⟩) n c].toArray 56 (0, 0)) :: Own 23 1 (.slice (some ⟨g, 0, none⟩) n c) n (ints .u32 W2) :: Blk b2 (.cells [.slice (some ⟨g2, 0, none⟩) n c2].toArray 58 (0, 0)) :: Own 23 1 (.slice (some ⟨g2, 0, none⟩) n c2) n (ints .u32 W2) :: F) := by
  by_cases h0 : kd = 0
  · by_cases h : inR n at_ 2
    · exact one_look_ok w0 F b g n c b2 g2 c2 W hW hc hc2 hn hU kd at_ kk x a0 a1 k0 k1 x0 x1 h0 h
    · exact one_look_out w0 F b g n c b2 g2 c2 W hW hc hc2 hn hU kd at_ kk x a0 a1 k0 k1 x0 x1 h0 h
  by_cases h1 : kd = 1
  · by_cases h : inR n at_ 2
    · by_cases hq : 1 ≤ kk ∧ kk ≤ 4
      · by_cases hf : kk ≤ W.getD at_.toNat 0
        · exact one_come_full w0 F b g n c b2 g2 c2 W hW hc hc2 hn hU kd at_ kk x a0 a1 k0 k1 x0 x1 h1 h hq hf
        · exact one_come_ok w0 F b g n c b2 g2 c2 W hW hc hc2 hn hU kd at_ kk x a0 a1 k0 k1 x0 x1 h1 h hq hf
      · exact one_come_bad w0 F b g n c b2 g2 c2 W hW hc hc2 hn hU kd at_ kk x a0 a1 k0 k1 x0 x1 h1 h hq
    · exact one_come_out w0 F b g n c b2 g2 c2 W hW hc hc2 hn hU kd at_ kk x a0 a1 k0 k1 x0 x1 h1 h
  by_cases h2 : kd = 2
  · by_cases h : inR n at_ 2
    · by_cases hq : 1 ≤ kk ∧ kk ≤ 4
      · by_cases hf : W.getD at_.toNat 0 < kk
        · exact one_open_short w0 F b g n c b2 g2 c2 W hW hc hc2 hn hU kd at_ kk x a0 a1 k0 k1 x0 x1 h2 h hq hf
        · by_cases hf2 : kk < W.getD at_.toNat 0
          · exact one_open_full w0 F b g n c b2 g2 c2 W hW hc hc2 hn hU kd at_ kk x a0 a1 k0 k1 x0 x1 h2 h hq hf2
          · exact one_open_ok w0 F b g n c b2 g2 c2 W hW hc hc2 hn hU kd at_ kk x a0 a1 k0 k1 x0 x1 h2 h hq (by omega)
      · exact one_open_bad w0 F b g n c b2 g2 c2 W hW hc hc2 hn hU kd at_ kk x a0 a1 k0 k1 x0 x1 h2 h hq
    · exact one_open_out w0 F b g n c b2 g2 c2 W hW hc hc2 hn hU kd at_ kk x a0 a1 k0 k1 x0 x1 h2 h
  by_cases h3 : kd = 3
  · by_cases hm : at_ < 9223372036854775807
    · by_cases h4 : inR n at_ 1 <;> by_cases h5 : inR n (at_ + 1) 1
      · exact one_both_11 w0 F b g n c b2 g2 c2 W hW hc hc2 hn hU kd at_ kk x a0 a1 k0 k1 x0 x1 h3 hm h4 h5
      · exact one_both_10 w0 F b g n c b2 g2 c2 W hW hc hc2 hn hU kd at_ kk x a0 a1 k0 k1 x0 x1 h3 hm h4 h5
      · exact one_both_01 w0 F b g n c b2 g2 c2 W hW hc hc2 hn hU kd at_ kk x a0 a1 k0 k1 x0 x1 h3 hm h4 h5
      · exact one_both_00 w0 F b g n c b2 g2 c2 W hW hc hc2 hn hU kd at_ kk x a0 a1 k0 k1 x0 x1 h3 hm h4 h5
    · exact one_both_over w0 F b g n c b2 g2 c2 W hW hc hc2 hn hU kd at_ kk x a0 a1 k0 k1 x0 x1 h3 (by omega) (by unfold inR; omega)
  · exact one_nil w0 F b g n c b2 g2 c2 W hW hc hc2 hn hU kd at_ kk x a0 a1 k0 k1 x0 x1 ⟨h0, h1, h2, h3⟩
def opRow (o : Int × Int × Int × Int) : List Value := [.int .i64 o.1, .int .i64 o.2.1, .int .i64 o.2.2.1, .int .u32 o.2.2.2]
def OpOk (o : Int × Int × Int × Int) : Prop := (-9223372036854775808 ≤ o.2.1 ∧ o.2.1 ≤ 9223372036854775807) ∧ (-9223372036854775808 ≤ o.2.2.1 ∧ o.2.2.1 ≤ 9223372036854775807) ∧ 0 ≤ o.2.2.2 ∧ o.2.2.2 ≤ 4294967295
theorem opRow_len (l : List (Int × Int × Int × Int)) : ∀ r ∈ l.map opRow, r.length = 4 := by
  intro r hr
  obtain ⟨o, _, rfl⟩ := List.mem_map.1 hr
  rfl
theorem opRow_at {l : List (Int × Int × Int × Int)} {i : Nat} (h : i < l.length) : (l.map opRow)[i]? = some (opRow (l.getD i (0, 0, 0, 0))) := by simp [h]
theorem op_mem {l : List (Int × Int × Int × Int)} (h : ∀ o ∈ l, OpOk o) {i : Nat} (hi : i < l.length) : OpOk (l.getD i (0, 0, 0, 0)) := by
  have : l.getD i (0, 0, 0, 0) = l[i] := by simp [hi]
  rw [this]; exact h _ (List.getElem_mem _)
set_option maxHeartbeats 4000000 in
theorem plays_some (w0 : World) (F : List Atom) (bw ow n cw : Nat) (W : List Int) (hW : W.length = n) (hcw : n ≤ cw) (hr : RowAt w0 F bw ow (ints .u32 W)) (hU : U32s W) (h1 : n ≤ 16384) (h2 : 0 < n) (h3 : n % 16 = 0) (bs os_ ns cs : Nat) (L : List (Int × Int × Int × Int)) (hLn : L.length = ns) (hns : ns ≤ 9223372036854775807) (hL : ∀ o ∈ L, OpOk o) (hs : RowAt w0 F bs os_ (L.map opRow).flatten) :
    CallK Try.prog 5 [.slice (some ⟨bw, ow, none⟩) n cw, .slice (some ⟨bs, os_, none⟩) ns cs] w0 (F) (Gives w0 fun v F2 => v = .bool true ∧ F2 = F) := by
  refine c_enter Try.func5 rfl rfl rfl ?_
  refine g_seq ?_
  refine g_region ?_
  refine l_assign rfl rfl ?_
  refine l_nil ?_
  refine g_seq ?_
  refine g_region ?_
  refine l_move rfl rfl ?_
  refine l_call rfl Try.call8 rfl (of_ok _ _ bw ow n cw W hW hcw hr h1 h2 h3) ?_; rintro _ _ ⟨b, g, c, rfl, hc, rfl⟩
  refine l_move rfl rfl ?_
  refine l_extract rfl rfl rfl ?_
  refine l_extract rfl rfl rfl ?_
  refine l_assign rfl rfl ?_
  refine l_assign rfl rfl ?_
  refine l_nil ?_
  refine g_seq ?_
  refine g_region ?_
  refine l_move rfl rfl ?_
  refine l_call rfl Try.call9 rfl (rof_ok _ _ bw ow n cw W hW hcw hr.there.there h1 h2 h3) ?_; rintro _ _ ⟨b2, g2, c2, rfl, hc2, rfl⟩
  refine l_fronto g2 ?_
  refine l_frontb b2 ?_
  refine l_fronto g ?_
  refine l_frontb b ?_
  refine l_move rfl rfl ?_
  refine l_extract rfl rfl rfl ?_
  refine l_extract rfl rfl rfl ?_
  refine l_assign rfl rfl ?_
  refine l_assign rfl rfl ?_
  refine l_nil ?_
  refine g_seq ?_
  refine g_seq ?_
  refine g_region ?_
  refine l_move rfl rfl ?_
  refine l_move rfl rfl ?_
  refine l_neq rfl rfl rfl ?_
  refine l_move rfl rfl ?_
  refine l_split 23 rfl ?_ ?_
  · intro hbr
    have hbr := of_decide_eq_true hbr
    (exfalso; omega)
  intro hbr
  have hbr := of_decide_eq_false hbr
  refine l_guard_yes rfl rfl ?_
  refine l_move rfl rfl ?_
  refine l_guard_yes rfl rfl ?_
  refine l_eqpn rfl Try.underlying28 rfl rfl ?_
  refine l_guard_yes rfl rfl ?_
  refine l_move rfl rfl ?_
  refine l_guard_yes rfl rfl ?_
  refine l_eqpn rfl Try.underlying32 rfl rfl ?_
  refine l_guard_yes rfl rfl ?_
  refine l_neqb rfl Try.underlying4 rfl rfl ?_
  refine l_pick_f rfl rfl rfl ?_
  refine l_nil ?_
  refine g_cond rfl ?_ ?_
  · intro hbr
    first | (exfalso; simp at hbr; done) | (exfalso; simp at hbr; omega)
  intro hbr
  refine g_skip ?_
  refine g_seq ?_
  refine g_seq ?_
  refine g_region ?_
  refine l_move rfl rfl ?_
  refine l_eqpn rfl Try.underlying28 rfl rfl ?_
  refine l_nil ?_
  refine g_cond_f rfl ?_
  refine g_skip ?_
  refine g_seq ?_
  refine g_seq ?_
  refine g_region ?_
  refine l_assign rfl rfl ?_
  refine l_nil ?_
  refine g_block ?_
  refine g_loop (X := Int × List Int) (fun x => 0 ≤ x.1 ∧ x.1 ≤ ns ∧ x.2.length = n ∧ U32s x.2) (fun x => (ns - x.1).toNat) (fun x => [(1, .slice (some ⟨bs, os_, none⟩) ns cs), (5, .pointer (some ⟨b, 0, none⟩)), (7, .pointer (some ⟨b2, 0, none⟩)), (9, .int .i64 x.1)]) (fun x => Blk b (.cells [.slice (some ⟨g, 0, none⟩) n c].toArray 56 (0, 0)) :: Own 23 1 (.slice (some ⟨g, 0, none⟩) n c) n (ints .u32 x.2) :: Blk b2 (.cells [.slice (some ⟨g2, 0, none⟩) n c2].toArray 58 (0, 0)) :: Own 23 1 (.slice (some ⟨g2, 0, none⟩) n c2) n (ints .u32 x.2) :: F) (0, W) ⟨by omega, by omega, hW, hU⟩ (.cons rfl (.cons rfl (.cons rfl (.cons rfl .nil)))) (fun w hw => hw) ?_
  clear hr hW hU
  rintro ⟨i, W⟩ ⟨i0, i1, hW, hU⟩ ih
  simp only at i0 i1 hW hU
  refine g_seq ?_
  refine g_seq ?_
  refine g_region ?_
  refine l_move rfl rfl ?_
  refine l_move rfl rfl ?_
  refine l_len rfl Try.underlying27 rfl ?_
  refine l_lss rfl rfl rfl ?_
  refine l_nil ?_
  refine g_cond rfl ?_ ?_
  · intro hbr
    have hbr := of_decide_eq_true hbr
    refine g_skip ?_
    refine g_seq ?_
    refine g_block ?_
    refine g_seq ?_
    refine g_seq ?_
    refine g_region ?_
    refine l_move rfl rfl ?_
    refine l_move rfl rfl ?_
    refine l_move rfl rfl ?_
    refine l_move rfl rfl ?_
    refine l_ixs rfl Try.underlying27 Try.sizeOf37 rfl rfl (by omega) (by omega) ?_
    refine l_loadr (l := opRow (L.getD i.toNat (0, 0, 0, 0))) rfl Try.isAgg37 Try.sizeOf37 rfl rfl (row_elem hs.there.there.there.there (opRow_len L) (opRow_at (by omega))) ?_
    obtain ⟨⟨o0, o1⟩, ⟨o2, o3⟩, o4, o5⟩ := op_mem hL (show i.toNat < L.length by omega)
    refine l_call rfl Try.call10 rfl (one_any _ _ b g n c b2 g2 c2 W hW hc hc2 (by omega) hU (L.getD i.toNat (0, 0, 0, 0)).1 (L.getD i.toNat (0, 0, 0, 0)).2.1 (L.getD i.toNat (0, 0, 0, 0)).2.2.1 (L.getD i.toNat (0, 0, 0, 0)).2.2.2 (by omega) (by omega) (by omega) (by omega) (by omega) (by omega)) ?_; rintro _ _ ⟨rfl, W, hW, hU, rfl⟩
    refine l_not rfl rfl ?_
    refine l_nil ?_
    refine g_cond_f rfl ?_
    refine g_skip ?_
    refine g_seq ?_
    refine g_region ?_
    refine l_move rfl rfl ?_
    refine l_move rfl rfl ?_
    refine l_call rfl Try.call11 rfl (same_eq _ _ b g n c b2 g2 c2 W hW hc hc2 (by omega)) ?_; rintro _ _ ⟨rfl, rfl⟩
    refine l_not rfl rfl ?_
    refine l_nil ?_
    refine g_cond_f rfl ?_
    refine g_skip ?_
    refine g_inBlock ?_
    refine g_region ?_
    refine l_move rfl rfl ?_
    first | refine l_add rfl rfl rfl (w_i64 (by omega) (by omega)) ?_ | refine l_addw rfl rfl rfl ?_
    refine l_assign rfl rfl ?_
    refine l_nil ?_
    exact g_again (ih (i + 1, W) ⟨by simp only; omega, by simp only; omega, hW, hU⟩ (by simp only; omega)) (.cons rfl (.cons rfl (.cons rfl (.cons rfl .nil)))) .refl
  intro hbr
  have hbr := of_decide_eq_false hbr
  refine g_exit rfl ?_
  refine g_seq ?_
  refine g_region ?_
  refine l_call rfl Try.call7 rfl (meets_ok _ _ _ _ _ (by omega) (by omega) (by omega)) ?_; rintro _ _ ⟨rfl, rfl⟩
  refine l_assign rfl rfl ?_
  refine l_nil ?_
  refine g_ret Try.func5 rfl (.tmp rfl .nil) ?_
  exact Gives.mki ⟨rfl, rfl⟩
set_option maxHeartbeats 4000000 in
theorem plays_none (w0 : World) (F : List Atom) (bw ow n cw : Nat) (W : List Int) (hW : W.length = n) (hcw : n ≤ cw) (hr : RowAt w0 F bw ow (ints .u32 W)) (hU : U32s W) (h1 : n ≤ 16384) (h2 : 0 < n) (h3 : n % 16 = 0) (sa : Option Addr) (ns cs : Nat) (hns : ns = 0) :
    CallK Try.prog 5 [.slice (some ⟨bw, ow, none⟩) n cw, .slice sa ns cs] w0 (F) (Gives w0 fun v F2 => v = .bool true ∧ F2 = F) := by
  refine c_enter Try.func5 rfl rfl rfl ?_
  refine g_seq ?_
  refine g_region ?_
  refine l_assign rfl rfl ?_
  refine l_nil ?_
  refine g_seq ?_
  refine g_region ?_
  refine l_move rfl rfl ?_
  refine l_call rfl Try.call8 rfl (of_ok _ _ bw ow n cw W hW hcw hr h1 h2 h3) ?_; rintro _ _ ⟨b, g, c, rfl, hc, rfl⟩
  refine l_move rfl rfl ?_
  refine l_extract rfl rfl rfl ?_
  refine l_extract rfl rfl rfl ?_
  refine l_assign rfl rfl ?_
  refine l_assign rfl rfl ?_
  refine l_nil ?_
  refine g_seq ?_
  refine g_region ?_
  refine l_move rfl rfl ?_
  refine l_call rfl Try.call9 rfl (rof_ok _ _ bw ow n cw W hW hcw hr.there.there h1 h2 h3) ?_; rintro _ _ ⟨b2, g2, c2, rfl, hc2, rfl⟩
  refine l_fronto g2 ?_
  refine l_frontb b2 ?_
  refine l_fronto g ?_
  refine l_frontb b ?_
  refine l_move rfl rfl ?_
  refine l_extract rfl rfl rfl ?_
  refine l_extract rfl rfl rfl ?_
  refine l_assign rfl rfl ?_
  refine l_assign rfl rfl ?_
  refine l_nil ?_
  refine g_seq ?_
  refine g_seq ?_
  refine g_region ?_
  refine l_move rfl rfl ?_
  refine l_move rfl rfl ?_
  refine l_neq rfl rfl rfl ?_
  refine l_move rfl rfl ?_
  refine l_split 23 rfl ?_ ?_
  · intro hbr
    have hbr := of_decide_eq_true hbr
    (exfalso; omega)
  intro hbr
  have hbr := of_decide_eq_false hbr
  refine l_guard_yes rfl rfl ?_
  refine l_move rfl rfl ?_
  refine l_guard_yes rfl rfl ?_
  refine l_eqpn rfl Try.underlying28 rfl rfl ?_
  refine l_guard_yes rfl rfl ?_
  refine l_move rfl rfl ?_
  refine l_guard_yes rfl rfl ?_
  refine l_eqpn rfl Try.underlying32 rfl rfl ?_
  refine l_guard_yes rfl rfl ?_
  refine l_neqb rfl Try.underlying4 rfl rfl ?_
  refine l_pick_f rfl rfl rfl ?_
  refine l_nil ?_
  refine g_cond rfl ?_ ?_
  · intro hbr
    first | (exfalso; simp at hbr; done) | (exfalso; simp at hbr; omega)
  intro hbr
  refine g_skip ?_
  refine g_seq ?_
  refine g_seq ?_
  refine g_region ?_
  refine l_move rfl rfl ?_
  refine l_eqpn rfl Try.underlying28 rfl rfl ?_
  refine l_nil ?_
  refine g_cond_f rfl ?_
  refine g_skip ?_
  refine g_seq ?_
  refine g_seq ?_
  refine g_region ?_
  refine l_assign rfl rfl ?_
  refine l_nil ?_
  refine g_block ?_
  refine g_loop (X := Int × List Int) (fun x => 0 ≤ x.1 ∧ x.1 ≤ ns ∧ x.2.length = n ∧ U32s x.2) (fun x => (ns - x.1).toNat) (fun x => [(1, .slice sa ns cs), (5, .pointer (some ⟨b, 0, none⟩)), (7, .pointer (some ⟨b2, 0, none⟩)), (9, .int .i64 x.1)]) (fun x => Blk b (.cells [.slice (some ⟨g, 0, none⟩) n c].toArray 56 (0, 0)) :: Own 23 1 (.slice (some ⟨g, 0, none⟩) n c) n (ints .u32 x.2) :: Blk b2 (.cells [.slice (some ⟨g2, 0, none⟩) n c2].toArray 58 (0, 0)) :: Own 23 1 (.slice (some ⟨g2, 0, none⟩) n c2) n (ints .u32 x.2) :: F) (0, W) ⟨by omega, by omega, hW, hU⟩ (.cons rfl (.cons rfl (.cons rfl (.cons rfl .nil)))) (fun w hw => hw) ?_
  clear hr hW hU
  rintro ⟨i, W⟩ ⟨i0, i1, hW, hU⟩ ih
  simp only at i0 i1 hW hU
  refine g_seq ?_
  refine g_seq ?_
  refine g_region ?_
  refine l_move rfl rfl ?_
  refine l_move rfl rfl ?_
  refine l_len rfl Try.underlying27 rfl ?_
  refine l_lss rfl rfl rfl ?_
  refine l_nil ?_
  refine g_cond rfl ?_ ?_
  · intro hbr
    have hbr := of_decide_eq_true hbr
    (exfalso; omega)
  intro hbr
  have hbr := of_decide_eq_false hbr
  refine g_exit rfl ?_
  refine g_seq ?_
  refine g_region ?_
  refine l_call rfl Try.call7 rfl (meets_ok _ _ _ _ _ (by omega) (by omega) (by omega)) ?_; rintro _ _ ⟨rfl, rfl⟩
  refine l_assign rfl rfl ?_
  refine l_nil ?_
  refine g_ret Try.func5 rfl (.tmp rfl .nil) ?_
  exact Gives.mki ⟨rfl, rfl⟩
set_option maxHeartbeats 4000000 in
theorem plays_long (w0 : World) (F : List Atom) (wa : Option Addr) (n cw : Nat) (hn : n ≤ 9223372036854775807) (h1 : 16384 < n) (sv : Value) :
    CallK Try.prog 5 [.slice wa n cw, sv] w0 (F) (Gives w0 fun v F2 => v = .bool true ∧ F2 = F) := by
  refine c_enter Try.func5 rfl rfl rfl ?_
  refine g_seq ?_
  refine g_region ?_
  refine l_assign rfl rfl ?_
  refine l_nil ?_
  refine g_seq ?_
  refine g_region ?_
  refine l_move rfl rfl ?_
  refine l_call rfl Try.call8 rfl (of_long _ _ wa n cw hn h1) ?_; rintro _ _ ⟨rfl, rfl⟩
  refine l_move rfl rfl ?_
  refine l_extract rfl rfl rfl ?_
  refine l_extract rfl rfl rfl ?_
  refine l_assign rfl rfl ?_
  refine l_assign rfl rfl ?_
  refine l_nil ?_
  refine g_seq ?_
  refine g_region ?_
  refine l_move rfl rfl ?_
  refine l_call rfl Try.call9 rfl (rof_long _ _ wa n cw hn h1) ?_; rintro _ _ ⟨rfl, rfl⟩
  refine l_move rfl rfl ?_
  refine l_extract rfl rfl rfl ?_
  refine l_extract rfl rfl rfl ?_
  refine l_assign rfl rfl ?_
  refine l_assign rfl rfl ?_
  refine l_nil ?_
  refine g_seq ?_
  refine g_seq ?_
  refine g_region ?_
  refine l_move rfl rfl ?_
  refine l_move rfl rfl ?_
  refine l_neq rfl rfl rfl ?_
  refine l_move rfl rfl ?_
  refine l_split 23 rfl ?_ ?_
  · intro hbr
    have hbr := of_decide_eq_true hbr
    (exfalso; omega)
  intro hbr
  have hbr := of_decide_eq_false hbr
  refine l_guard_yes rfl rfl ?_
  refine l_move rfl rfl ?_
  refine l_guard_yes rfl rfl ?_
  refine l_eqpn rfl Try.underlying28 rfl rfl ?_
  refine l_guard_yes rfl rfl ?_
  refine l_move rfl rfl ?_
  refine l_guard_yes rfl rfl ?_
  refine l_eqpn rfl Try.underlying32 rfl rfl ?_
  refine l_guard_yes rfl rfl ?_
  refine l_neqb rfl Try.underlying4 rfl rfl ?_
  refine l_pick_f rfl rfl rfl ?_
  refine l_nil ?_
  refine g_cond rfl ?_ ?_
  · intro hbr
    first | (exfalso; simp at hbr; done) | (exfalso; simp at hbr; omega)
  intro hbr
  refine g_skip ?_
  refine g_seq ?_
  refine g_seq ?_
  refine g_region ?_
  refine l_move rfl rfl ?_
  refine l_eqpn rfl Try.underlying28 rfl rfl ?_
  refine l_nil ?_
  refine g_cond_t rfl ?_
  refine g_seq ?_
  refine g_region ?_
  refine l_call rfl Try.call7 rfl (meets_ok _ _ _ _ _ (by omega) (by omega) (by omega)) ?_; rintro _ _ ⟨rfl, rfl⟩
  refine l_assign rfl rfl ?_
  refine l_nil ?_
  refine g_ret Try.func5 rfl (.tmp rfl .nil) ?_
  exact Gives.mki ⟨rfl, rfl⟩
set_option maxHeartbeats 4000000 in
theorem plays_bad (w0 : World) (F : List Atom) (wa : Option Addr) (n cw : Nat) (hn : n ≤ 9223372036854775807) (h1 : n ≤ 16384) (h2 : n = 0 ∨ n % 16 ≠ 0) (sv : Value) :
    CallK Try.prog 5 [.slice wa n cw, sv] w0 (F) (Gives w0 fun v F2 => v = .bool true ∧ F2 = F) := by
  refine c_enter Try.func5 rfl rfl rfl ?_
  refine g_seq ?_
  refine g_region ?_
  refine l_assign rfl rfl ?_
  refine l_nil ?_
  refine g_seq ?_
  refine g_region ?_
  refine l_move rfl rfl ?_
  refine l_call rfl Try.call8 rfl (of_bad _ _ wa n cw hn h1 h2) ?_; rintro _ _ ⟨rfl, rfl⟩
  refine l_move rfl rfl ?_
  refine l_extract rfl rfl rfl ?_
  refine l_extract rfl rfl rfl ?_
  refine l_assign rfl rfl ?_
  refine l_assign rfl rfl ?_
  refine l_nil ?_
  refine g_seq ?_
  refine g_region ?_
  refine l_move rfl rfl ?_
  refine l_call rfl Try.call9 rfl (rof_bad _ _ wa n cw hn h1 h2) ?_; rintro _ _ ⟨rfl, rfl⟩
  refine l_move rfl rfl ?_
  refine l_extract rfl rfl rfl ?_
  refine l_extract rfl rfl rfl ?_
  refine l_assign rfl rfl ?_
  refine l_assign rfl rfl ?_
  refine l_nil ?_
  refine g_seq ?_
  refine g_seq ?_
  refine g_region ?_
  refine l_move rfl rfl ?_
  refine l_move rfl rfl ?_
  refine l_neq rfl rfl rfl ?_
  refine l_move rfl rfl ?_
  refine l_split 23 rfl ?_ ?_
  · intro hbr
    have hbr := of_decide_eq_true hbr
    (exfalso; omega)
  intro hbr
  have hbr := of_decide_eq_false hbr
  refine l_guard_yes rfl rfl ?_
  refine l_move rfl rfl ?_
  refine l_guard_yes rfl rfl ?_
  refine l_eqpn rfl Try.underlying28 rfl rfl ?_
  refine l_guard_yes rfl rfl ?_
  refine l_move rfl rfl ?_
  refine l_guard_yes rfl rfl ?_
  refine l_eqpn rfl Try.underlying32 rfl rfl ?_
  refine l_guard_yes rfl rfl ?_
  refine l_neqb rfl Try.underlying4 rfl rfl ?_
  refine l_pick_f rfl rfl rfl ?_
  refine l_nil ?_
  refine g_cond rfl ?_ ?_
  · intro hbr
    first | (exfalso; simp at hbr; done) | (exfalso; simp at hbr; omega)
  intro hbr
  refine g_skip ?_
  refine g_seq ?_
  refine g_seq ?_
  refine g_region ?_
  refine l_move rfl rfl ?_
  refine l_eqpn rfl Try.underlying28 rfl rfl ?_
  refine l_nil ?_
  refine g_cond_t rfl ?_
  refine g_seq ?_
  refine g_region ?_
  refine l_call rfl Try.call7 rfl (meets_ok _ _ _ _ _ (by omega) (by omega) (by omega)) ?_; rintro _ _ ⟨rfl, rfl⟩
  refine l_assign rfl rfl ?_
  refine l_nil ?_
  refine g_ret Try.func5 rfl (.tmp rfl .nil) ?_
  exact Gives.mki ⟨rfl, rfl⟩
end Go.Proofs.Ytoflbmjdpngdiaa.Fw
