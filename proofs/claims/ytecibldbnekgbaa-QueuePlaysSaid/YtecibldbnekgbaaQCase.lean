import Derived.Test.YtecibldbnekgbaaQAwk
namespace Go.Proofs.Ytecibldbnekgbaa.Fw
open Go Go.Proofs
set_option linter.unusedVariables false
set_option linter.unusedSimpArgs false
set_option maxRecDepth 10000
theorem fa_48_0 (a : Addr) (w : World) : (Instr.fieldAt 48 (.pointer (some a)) 0).run Try.prog w = .ok (.pointer (some (a.add 0))) w := by
  simp [Instr.fieldAt, Try.runUnderlying48, Instr.sureAddr, fieldPlace, Try.sizeOf3, Sem.run_bind, Sem.run_pure]
theorem fa_48_3 (a : Addr) (w : World) : (Instr.fieldAt 48 (.pointer (some a)) 3).run Try.prog w = .ok (.pointer (some (a.add 3))) w := by
  simp [Instr.fieldAt, Try.runUnderlying48, Instr.sureAddr, fieldPlace, Try.sizeOf46, Sem.run_bind, Sem.run_pure]
theorem fa_48_2 (a : Addr) (w : World) : (Instr.fieldAt 48 (.pointer (some a)) 2).run Try.prog w = .ok (.pointer (some (a.add 2))) w := by
  simp [Instr.fieldAt, Try.runUnderlying48, Instr.sureAddr, fieldPlace, Try.sizeOf29, Sem.run_bind, Sem.run_pure]
theorem fa_48_1 (a : Addr) (w : World) : (Instr.fieldAt 48 (.pointer (some a)) 1).run Try.prog w = .ok (.pointer (some (a.add 1))) w := by
  simp [Instr.fieldAt, Try.runUnderlying48, Instr.sureAddr, fieldPlace, Try.sizeOf3, Sem.run_bind, Sem.run_pure]
structure OpV where
  kd : Int
  at_ : Int
  wd : Int
  dp : Int
  ap : Option Addr
  np : Nat
  cp : Nat
  P : List Int
  am : Option Addr
  nm : Nat
  cm : Nat
  M : List Int
def opV (o : OpV) : List Value := [.int .i64 o.kd, .int .i64 o.at_, .int .i64 o.wd, .int .i64 o.dp, .slice o.ap o.np o.cp, .slice o.am o.nm o.cm]
theorem opV_len (L : List OpV) : ∀ r ∈ L.map opV, r.length = 6 := by
  intro r hr
  obtain ⟨o, _, rfl⟩ := List.mem_map.1 hr
  rfl
def OpOk (w0 : World) (F : List Atom) (o : OpV) : Prop :=
  (-9223372036854775808 ≤ o.at_ ∧ o.at_ ≤ 9223372036854775807) ∧ (-9223372036854775808 ≤ o.wd ∧ o.wd ≤ 9223372036854775807) ∧ (-9223372036854775808 ≤ o.dp ∧ o.dp ≤ 9223372036854775807) ∧ (IR w0 F .u32 o.am o.nm o.M ∧ W32s o.M ∧ o.nm ≤ 35184372087808) ∧
  IR w0 F .i64 o.ap o.np o.P ∧ (∀ i, -9223372036854775808 ≤ o.P.getD i 0 ∧ o.P.getD i 0 ≤ 9223372036854775807) ∧ o.np ≤ 17592186043904 ∧ o.np ≤ o.cp
theorem op_at {w0 : World} {F : List Atom} {L : List OpV} (hok : ∀ o ∈ L, OpOk w0 F o) {i : Nat} (h : i < L.length) : ∃ o, (L.map opV)[i]? = some (opV o) ∧ OpOk w0 F o := ⟨L[i], by simp [h], hok _ (List.getElem_mem _)⟩
/-- What a call may do to a memory's words. -/
def OwnG (n : Nat) (W W2 : List Int) (at_ : Int) (k : Nat) (ok : Bool) : Prop := W2.length = n ∧ W32s W2 ∧ (ok = false → W2 = W) ∧ (ok = true → inR n at_ (k : Int) ∧ (∃ i, i < n ∧ W2.getD i 0 ≠ W.getD i 0) ∧ ∀ i : Nat, W2.getD i 0 ≠ W.getD i 0 → at_ ≤ i ∧ (i : Int) < at_ + k)
theorem OwnG.stay {n : Nat} {W : List Int} {at_ : Int} {k : Nat} (hW : W.length = n) (hU : W32s W) : OwnG n W W at_ k false := ⟨hW, hU, fun _ => rfl, fun h => by cases h⟩
theorem own_spl {W L : List Int} {at_ : Int} {n k : Nat} (hl : L.length = k) (hi : inR n at_ (k : Int)) (hW : W.length = n) (i : Nat) (h : (spl at_.toNat L W).getD i 0 ≠ W.getD i 0) : at_ ≤ i ∧ (i : Int) < at_ + k := by
  unfold inR at hi
  by_cases h9 : i < at_.toNat ∨ at_.toNat + L.length ≤ i
  · exact absurd (spl_far (by omega) h9) h
  · omega
theorem PutQ.own {n wd dp : Nat} {W W2 M : List Int} {at_ e : Int} {ok : Bool} (hd : 0 < dp) (hw : wd ≤ 16) (hd2 : dp ≤ 8) (hW : W.length = n) (hU : W32s W) (hi : inR n at_ ((1 + dp * (1 + wd) : Nat) : Int)) (hM : (1 ≤ M.length ∧ M.length ≤ wd) ∧ W32s M) (hQ : PutQ W at_ wd dp M ok e W2) : OwnG n W W2 at_ (1 + dp * (1 + wd)) ok ∧ (ok = true → e = 0) := by
  rcases hQ with ⟨rfl, rfl, _⟩ | ⟨rfl, he, Ts, h5, h6, rfl⟩
  · exact ⟨.stay hW hU, fun h => by cases h⟩
  · refine ⟨?_, fun _ => he⟩
    have hb := RowR.bd h5 hd
    have hu := RowR.u h5 ((hU.part _ _).drop 1)
    have hT : MsgOk wd (Ts ++ [M]) := MsgOk.snoc (fun j hj => ⟨hb.2.2.2 j hj, hu j hj⟩) hM
    have hTl : (Ts ++ [M]).length = Ts.length + 1 := by rw [List.length_append, List.length_singleton]
    rw [← hTl]
    have hi2 := hi
    unfold inR at hi2
    have hll : (layN wd dp [((Ts ++ [M]).length : Int)] 0 (Ts ++ [M]) (Ts ++ [M]).length).length = 1 + dp * (1 + wd) := layN_len hd _ fun j hj => (hT j hj).1.2
    have hr : at_.toNat + (layN wd dp [((Ts ++ [M]).length : Int)] 0 (Ts ++ [M]) (Ts ++ [M]).length).length ≤ W.length := by rw [hll]; omega
    have hL := RowR.bd (StgR.laid (at_ := at_) (W := W) (Ts := Ts ++ [M]) hd (by omega) (by rw [hTl]; omega) fun j hj => (hT j hj).1) hd
    refine ⟨by rw [spl_length hr]; exact hW, spl_u32 hr (layN_u32 hd (by omega) (fun i => ?_) _ fun j hj => ⟨(hT j hj).1.2, (hT j hj).2⟩) hU, (fun h => by cases h), fun _ => ⟨hi, ⟨at_.toNat, by omega, fun h => ?_⟩, own_spl hll hi hW⟩⟩
    · match i with
      | 0 => show 0 ≤ ((Ts ++ [M]).length : Int) ∧ ((Ts ++ [M]).length : Int) ≤ _; rw [hTl]; omega
      | i + 1 => rw [getD_over (by simp)]; decide
    · rw [h, hTl] at hL
      have := hL.1
      have := hb.1
      omega
theorem TakQ.own {n wd dp : Nat} {W W2 : List Int} {at_ e : Int} {ok : Bool} (hd : 0 < dp) (hw : wd ≤ 16) (hd2 : dp ≤ 8) (hW : W.length = n) (hU : W32s W) (hi : inR n at_ ((3 + dp * (1 + wd) : Nat) : Int)) (hQ : TakQ W at_ wd dp ok e W2) : OwnG n W W2 at_ (3 + dp * (1 + wd)) ok ∧ (ok = true → e = 0) := by
  rcases hQ with ⟨rfl, rfl, _⟩ | ⟨rfl, he, Ts, h5, h6, rfl⟩
  · exact ⟨.stay hW hU, fun h => by cases h⟩
  · refine ⟨?_, fun _ => he⟩
    have hb := RowR.bd h5.row hd
    have hu := RowR.u h5.row ((hU.part _ _).drop 3)
    have hT : MsgOk wd (Ts.drop 1) := MsgOk.drop (fun j hj => ⟨hb.2.2.2 j hj, hu j hj⟩)
    have hTl : (Ts.drop 1).length = Ts.length - 1 := by rw [List.length_drop]
    rw [← hTl]
    have hi2 := hi
    unfold inR at hi2
    have hfd := Nat.mod_lt ((W.getD at_.toNat 0).toNat + 1) hd
    generalize hfe : ((W.getD at_.toNat 0).toNat + 1) % dp = fs at hfd
    have hlo := hU (at_.toNat + 2)
    generalize W.getD (at_.toNat + 2) 0 = ls at hlo
    have hll : (portL wd dp fs ls (Ts.drop 1) (Ts.drop 1).length).length = 3 + dp * (1 + wd) := portL_len hd fun j hj => (hT j hj).1.2
    have hr : at_.toNat + (portL wd dp fs ls (Ts.drop 1) (Ts.drop 1).length).length ≤ W.length := by rw [hll]; omega
    have hL := RowR.bd (PrtR.laid (at_ := at_) (W := W) (ls := ls) (Ts := Ts.drop 1) hfd (by omega) (by rw [hTl]; omega) fun j hj => (hT j hj).1).1.row hd
    have hf2 : frst (Ts.drop 1).length fs < dp := by unfold frst; split <;> omega
    refine ⟨by rw [spl_length hr]; exact hW, spl_u32 hr (layN_u32 hd (by omega) (fun i => ?_) _ fun j hj => ⟨(hT j hj).1.2, (hT j hj).2⟩) hU, (fun h => by cases h), fun _ => ⟨hi, ⟨at_.toNat + 1, by omega, fun h => ?_⟩, own_spl hll hi hW⟩⟩
    · match i with
      | 0 => show 0 ≤ (frst (Ts.drop 1).length fs : Int) ∧ (frst (Ts.drop 1).length fs : Int) ≤ _; omega
      | 1 => show 0 ≤ ((Ts.drop 1).length : Int) ∧ ((Ts.drop 1).length : Int) ≤ _; rw [hTl]; omega
      | 2 => exact hlo
      | i + 3 => rw [getD_over (by simp)]; decide
    · rw [h, hTl] at hL
      have := hL.1
      have := hb.1
      omega

theorem fit_ok (w0 : World) (F : List Atom) (fr fm : Int) (wa : Option Addr) (wn wc : Nat) (oa : Option Addr) (on oc : Nat) (h : 1 ≤ fr ∧ fr ≤ 16 ∧ on ≤ 200) :
    CallK Try.prog 16 [.agg [Value.int .i64 (fr : Int), .int .i64 fm, .slice wa wn wc, .slice oa on oc].toArray] w0 (F) (Gives w0 fun v F2 => v = .bool true ∧ F2 = F) := by
  refine c_enter Try.func16 rfl rfl rfl ?_
  refine g_seq ?_
  refine g_region ?_
  refine l_boxs rfl rfl ?_; intro b1
  refine l_assign rfl rfl ?_
  refine l_nil ?_
  refine g_seq ?_
  refine g_region ?_
  refine l_fieldAddr rfl fa_48_0 rfl ?_
  first | refine l_ld rfl Try.isAgg3 rfl rfl ?_ | refine l_ldw rfl Try.isAgg3 rfl (by omega) ?_
  refine l_geq rfl rfl rfl ?_
  refine l_move rfl rfl ?_
  refine l_split 6 rfl ?_ ?_
  · intro hbr
    have hbr := of_decide_eq_true hbr
    refine l_guard_yes rfl rfl ?_
    refine l_fieldAddr rfl fa_48_0 rfl ?_
    refine l_guard_yes rfl rfl ?_
    first | refine l_ld rfl Try.isAgg3 rfl rfl ?_ | refine l_ldw rfl Try.isAgg3 rfl (by omega) ?_
    refine l_guard_yes rfl rfl ?_
    refine l_leq rfl rfl rfl ?_
    refine l_pick_t rfl rfl rfl ?_
    refine l_move rfl rfl ?_
    refine l_split 11 rfl ?_ ?_
    · intro hbr
      have hbr := of_decide_eq_true hbr
      refine l_guard_yes rfl rfl ?_
      refine l_fieldAddr rfl fa_48_3 rfl ?_
      refine l_guard_yes rfl rfl ?_
      refine l_ld rfl Try.isAgg46 rfl rfl ?_
      refine l_guard_yes rfl rfl ?_
      refine l_len rfl Try.underlying46 rfl ?_
      refine l_guard_yes rfl rfl ?_
      refine l_leq rfl rfl rfl ?_
      refine l_pick_t rfl rfl rfl ?_
      refine l_assign rfl rfl ?_
      refine l_nil ?_
      refine g_ret Try.func16 rfl (.tmp rfl .nil) ?_
      (first | exact Gives.mki ⟨rfl, rfl⟩ | exact Gives.mki ⟨by first | (exact congrArg Value.bool (decide_eq_true (by omega))) | (exact congrArg Value.bool (decide_eq_false (by omega))), rfl⟩)
    · intro hbr
      have hbr := of_decide_eq_false hbr
      (exfalso; omega)
  · intro hbr
    have hbr := of_decide_eq_false hbr
    (exfalso; omega)
theorem fit_bad (w0 : World) (F : List Atom) (fr fm : Int) (wa : Option Addr) (wn wc : Nat) (oa : Option Addr) (on oc : Nat) (h : ¬ (1 ≤ fr ∧ fr ≤ 16 ∧ on ≤ 200)) :
    CallK Try.prog 16 [.agg [Value.int .i64 (fr : Int), .int .i64 fm, .slice wa wn wc, .slice oa on oc].toArray] w0 (F) (Gives w0 fun v F2 => v = .bool false ∧ F2 = F) := by
  refine c_enter Try.func16 rfl rfl rfl ?_
  refine g_seq ?_
  refine g_region ?_
  refine l_boxs rfl rfl ?_; intro b1
  refine l_assign rfl rfl ?_
  refine l_nil ?_
  refine g_seq ?_
  refine g_region ?_
  refine l_fieldAddr rfl fa_48_0 rfl ?_
  first | refine l_ld rfl Try.isAgg3 rfl rfl ?_ | refine l_ldw rfl Try.isAgg3 rfl (by omega) ?_
  refine l_geq rfl rfl rfl ?_
  refine l_move rfl rfl ?_
  refine l_split 6 rfl ?_ ?_
  · intro hbr
    have hbr := of_decide_eq_true hbr
    refine l_guard_yes rfl rfl ?_
    refine l_fieldAddr rfl fa_48_0 rfl ?_
    refine l_guard_yes rfl rfl ?_
    first | refine l_ld rfl Try.isAgg3 rfl rfl ?_ | refine l_ldw rfl Try.isAgg3 rfl (by omega) ?_
    refine l_guard_yes rfl rfl ?_
    refine l_leq rfl rfl rfl ?_
    refine l_pick_t rfl rfl rfl ?_
    refine l_move rfl rfl ?_
    refine l_split 11 rfl ?_ ?_
    · intro hbr
      have hbr := of_decide_eq_true hbr
      refine l_guard_yes rfl rfl ?_
      refine l_fieldAddr rfl fa_48_3 rfl ?_
      refine l_guard_yes rfl rfl ?_
      refine l_ld rfl Try.isAgg46 rfl rfl ?_
      refine l_guard_yes rfl rfl ?_
      refine l_len rfl Try.underlying46 rfl ?_
      refine l_guard_yes rfl rfl ?_
      refine l_leq rfl rfl rfl ?_
      refine l_pick_t rfl rfl rfl ?_
      refine l_assign rfl rfl ?_
      refine l_nil ?_
      refine g_ret Try.func16 rfl (.tmp rfl .nil) ?_
      (first | exact Gives.mki ⟨rfl, rfl⟩ | exact Gives.mki ⟨by first | (exact congrArg Value.bool (decide_eq_true (by omega))) | (exact congrArg Value.bool (decide_eq_false (by omega))), rfl⟩)
    intro hbr
    have hbr := of_decide_eq_false hbr
    refine l_guard_no rfl rfl rfl ?_
    refine l_guard_no rfl rfl rfl ?_
    refine l_guard_no rfl rfl rfl ?_
    refine l_guard_no rfl rfl rfl ?_
    refine l_pick_f rfl rfl rfl ?_
    refine l_assign rfl rfl ?_
    refine l_nil ?_
    refine g_ret Try.func16 rfl (.tmp rfl .nil) ?_
    (first | exact Gives.mki ⟨rfl, rfl⟩ | exact Gives.mki ⟨by first | (exact congrArg Value.bool (decide_eq_true (by omega))) | (exact congrArg Value.bool (decide_eq_false (by omega))), rfl⟩)
  intro hbr
  have hbr := of_decide_eq_false hbr
  refine l_guard_no rfl rfl rfl ?_
  refine l_guard_no rfl rfl rfl ?_
  refine l_guard_no rfl rfl rfl ?_
  refine l_pick_f rfl rfl rfl ?_
  refine l_move rfl rfl ?_
  refine l_guard_no rfl rfl rfl ?_
  refine l_guard_no rfl rfl rfl ?_
  refine l_guard_no rfl rfl rfl ?_
  refine l_guard_no rfl rfl rfl ?_
  refine l_pick_f rfl rfl rfl ?_
  refine l_assign rfl rfl ?_
  refine l_nil ?_
  refine g_ret Try.func16 rfl (.tmp rfl .nil) ?_
  (first | exact Gives.mki ⟨rfl, rfl⟩ | exact Gives.mki ⟨by first | (exact congrArg Value.bool (decide_eq_true (by omega))) | (exact congrArg Value.bool (decide_eq_false (by omega))), rfl⟩)
set_option maxHeartbeats 4000000 in
theorem laid_ok (w0 : World) (F : List Atom) (fr fm : Int) (fm0 : -9223372036854775808 ≤ fm) (fm1 : fm ≤ 9223372036854775807) (wa : Option Addr) (wn wc : Nat) (Wd : List Int) (hWd : IR w0 F .u32 wa wn Wd) (hWdU : W32s Wd) (hwn : wn ≤ 9223372036854775807) (oa : Option Addr) (on oc : Nat) (hon : on ≤ 9223372036854775807) (f1 : 1 ≤ fr) (f2 : fr ≤ 16) :
    CallK Try.prog 17 [.agg [Value.int .i64 (fr : Int), .int .i64 fm, .slice wa wn wc, .slice oa on oc].toArray] w0 (F) (Gives w0 fun v F2 => ∃ g X, v = .slice (some ⟨g, 0, none⟩) (fr * 16).toNat (fr * 16).toNat ∧ F2 = Own 33 1 (.slice (some ⟨g, 0, none⟩) (fr * 16).toNat (fr * 16).toNat) (fr * 16).toNat (ints .u32 X) :: F ∧ X.length = (fr * 16).toNat ∧ W32s X) := by
  have hl := hWd.1
  refine c_enter Try.func17 rfl rfl rfl ?_
  refine g_seq ?_
  refine g_region ?_
  refine l_boxs rfl rfl ?_; intro b1
  refine l_assign rfl rfl ?_
  refine l_nil ?_
  refine g_seq ?_
  refine g_region ?_
  refine l_fieldAddr rfl fa_48_0 rfl ?_
  first | refine l_ld rfl Try.isAgg3 rfl rfl ?_ | refine l_ldw rfl Try.isAgg3 rfl (by omega) ?_
  first | refine l_mul rfl rfl rfl (w_i64 (by omega) (by omega)) ?_ | refine l_mulw rfl rfl rfl ?_
  refine l_makew rfl Try.underlying29 Try.type33 rfl rfl rfl rfl (by omega) (by show (4 : Int) * _ ≤ _; omega) (by omega) ?_; intro b8; rw [show 16 * fr = fr * 16 by omega]
  refine l_assign rfl rfl ?_
  refine l_nil ?_
  refine g_seq ?_
  refine g_seq ?_
  refine g_region ?_
  refine l_assign rfl rfl ?_
  refine l_nil ?_
  refine g_block ?_
  refine g_loopk (X := Int × List Int) [(1, _), (2, _), (3, _)] (.cons rfl (.cons rfl (.cons rfl (.nil)))) (fun z => 0 ≤ z.1 ∧ z.1 ≤ wn ∧ z.2.length = (fr * 16).toNat ∧ W32s z.2) (fun z => ((wn : Int) - z.1).toNat) (fun z => [(4, .int .i64 z.1)]) (fun z => Own 33 1 (.slice (some ⟨b8, 0, none⟩) (fr * 16).toNat (fr * 16).toNat) (fr * 16).toNat (ints .u32 z.2) :: Blk b1 (.cells [Value.int .i64 (fr : Int), .int .i64 fm, .slice wa wn wc, .slice oa on oc].toArray 48 (0, 0)) :: F) ((0, List.replicate (fr * 16).toNat 0)) (⟨by simp only; omega, by simp only; omega, List.length_replicate .., fun i => by rw [rep_getD]; decide⟩) (.cons rfl .nil) ((fun w hw => SPI.holds hw)) ?_
  rintro ⟨i, X⟩ ⟨i0, i1, hXl, hXU⟩ ih
  dsimp only [List.cons_append, List.nil_append] at ih ⊢
  simp only at i0 i1 hXl hXU
  refine g_seq ?_
  refine g_seq ?_
  refine g_region ?_
  refine l_move rfl rfl ?_
  refine l_fieldAddr rfl fa_48_2 rfl ?_
  refine l_ld rfl Try.isAgg29 rfl rfl ?_
  refine l_len rfl Try.underlying29 rfl ?_
  refine l_lss rfl rfl rfl ?_
  refine l_nil ?_
  refine g_cond rfl ?_ ?_
  · intro hbr
    have hbr := of_decide_eq_true hbr
    refine g_skip ?_
    refine g_seq ?_
    refine g_block ?_
    refine g_seq ?_
    refine g_region ?_
    refine l_fieldAddr rfl fa_48_1 rfl ?_
    first | refine l_ld rfl Try.isAgg3 rfl rfl ?_ | refine l_ldw rfl Try.isAgg3 rfl (by omega) ?_
    refine l_geq rfl rfl rfl ?_
    refine l_move rfl rfl ?_
    refine l_split 19 rfl ?_ ?_
    · intro hbr
      have hbr := of_decide_eq_true hbr
      refine l_guard_yes rfl rfl ?_
      refine l_fieldAddr rfl fa_48_1 rfl ?_
      refine l_guard_yes rfl rfl ?_
      first | refine l_ld rfl Try.isAgg3 rfl rfl ?_ | refine l_ldw rfl Try.isAgg3 rfl (by omega) ?_
      refine l_guard_yes rfl rfl ?_
      refine l_move rfl rfl ?_
      refine l_guard_yes rfl rfl ?_
      refine l_len rfl Try.underlying29 rfl ?_
      refine l_guard_yes rfl rfl ?_
      refine l_move rfl rfl ?_
      refine l_guard_yes rfl rfl ?_
      first | refine l_sub_ rfl rfl rfl (w_i64 (by omega) (by omega)) ?_ | refine l_subw rfl rfl rfl ?_
      refine l_guard_yes rfl rfl ?_
      refine l_lss rfl rfl rfl ?_
      refine l_pick_t rfl rfl rfl ?_
      refine l_nil ?_
      refine g_cond rfl ?_ ?_
      · intro hbr
        have hbr := of_decide_eq_true hbr
        refine gp_start mo (by kernel_rfl) (by kernel_rfl) ?_
        refine gp_quiet 0 rfl rfl rfl rfl rfl rfl (q_move rfl) ?_
        refine gp_quiet 1 rfl rfl rfl rfl rfl rfl (q_fieldAddr fa_48_1 rfl) ?_
        first | refine gp_quiet 2 rfl rfl rfl rfl rfl rfl (q_ld Try.isAgg3 rfl rfl) ?_ | refine gp_quiet 2 rfl rfl rfl rfl rfl rfl (q_ldw Try.isAgg3 rfl (by omega)) ?_
        refine gp_quiet 3 rfl rfl rfl rfl rfl rfl (q_move rfl) ?_
        first | refine gp_quiet 4 rfl rfl rfl rfl rfl rfl (q_add rfl rfl (w_i64 (by omega) (by omega))) ?_ | refine gp_quiet 4 rfl rfl rfl rfl rfl rfl (q_addw rfl rfl) ?_
        refine gp_quiet 5 rfl rfl rfl rfl rfl rfl (q_fieldAddr fa_48_2 rfl) ?_
        refine gp_quiet 6 rfl rfl rfl rfl rfl rfl (q_ld Try.isAgg29 rfl rfl) ?_
        refine gp_quiet 7 rfl rfl rfl rfl rfl rfl (q_move rfl) ?_
        obtain ⟨b9, o9, rfl, hr9⟩ := hWd.some (i := i.toNat) (by omega)
        have hbi := hWdU i.toNat
        refine gp_quiet 8 rfl rfl rfl rfl rfl rfl (q_ixs Try.underlying29 Try.sizeOf33 rfl rfl (by omega) (by omega)) ?_
        refine gp_quiet 9 rfl rfl rfl rfl rfl rfl (q_loadc Try.isAgg33 rfl (word_any hr9 (by omega))) ?_
        refine gp_quiet 10 rfl rfl rfl rfl rfl rfl (q_ixs Try.underlying29 Try.sizeOf33 rfl rfl (by omega) (by omega)) ?_
        refine gp_effa 11 [0, 1, 2, 3, 4, 5, 6, 7, 8, 9, 10] [] rfl rfl rfl rfl rfl rfl rfl (does_storew 0 Try.sizeOf33 rfl rfl rfl (by omega) rfl) ?_
        rintro _ _ ⟨rfl, rfl⟩
        refine ⟨?_, ?_⟩
        · exact .nil
        refine gp_end rfl rfl ?_
        refine g_inBlock ?_
        refine g_region ?_
        refine l_move rfl rfl ?_
        first | refine l_add rfl rfl rfl (w_i64 (by omega) (by omega)) ?_ | refine l_addw rfl rfl rfl ?_
        refine l_assign rfl rfl ?_
        refine l_nil ?_
        (first | exact g_againi (ih (i + 1, X.set (fm + i).toNat (Wd.getD i.toNat 0)) ⟨by simp only; omega, by simp only; omega, by simp only [List.length_set]; exact hXl, set_u32 hXU (hWdU _).1 (hWdU _).2⟩ (by simp only; omega)) (.cons rfl (.cons rfl (.cons rfl (.cons rfl (.nil))))) | exact g_againi (ih (i + 1, X) ⟨by simp only; omega, by simp only; omega, hXl, hXU⟩ (by simp only; omega)) (.cons rfl (.cons rfl (.cons rfl (.cons rfl (.nil))))))
      intro hbr
      have hbr := of_decide_eq_false hbr
      refine g_skip ?_
      refine g_inBlock ?_
      refine g_region ?_
      refine l_move rfl rfl ?_
      first | refine l_add rfl rfl rfl (w_i64 (by omega) (by omega)) ?_ | refine l_addw rfl rfl rfl ?_
      refine l_assign rfl rfl ?_
      refine l_nil ?_
      (first | exact g_againi (ih (i + 1, X.set (fm + i).toNat (Wd.getD i.toNat 0)) ⟨by simp only; omega, by simp only; omega, by simp only [List.length_set]; exact hXl, set_u32 hXU (hWdU _).1 (hWdU _).2⟩ (by simp only; omega)) (.cons rfl (.cons rfl (.cons rfl (.cons rfl (.nil))))) | exact g_againi (ih (i + 1, X) ⟨by simp only; omega, by simp only; omega, hXl, hXU⟩ (by simp only; omega)) (.cons rfl (.cons rfl (.cons rfl (.cons rfl (.nil))))))
    intro hbr
    have hbr := of_decide_eq_false hbr
    refine l_guard_no rfl rfl rfl ?_
    refine l_guard_no rfl rfl rfl ?_
    refine l_guard_no rfl rfl rfl ?_
    refine l_guard_no rfl rfl rfl ?_
    refine l_guard_no rfl rfl rfl ?_
    refine l_guard_no rfl rfl rfl ?_
    refine l_guard_no rfl rfl rfl ?_
    refine l_pick_f rfl rfl rfl ?_
    refine l_nil ?_
    first | refine g_cond_f rfl ?_ | refine g_cond_f (congrArg (fun b => some (Value.bool b)) (decide_eq_false hbr)) ?_
    refine g_skip ?_
    refine g_inBlock ?_
    refine g_region ?_
    refine l_move rfl rfl ?_
    first | refine l_add rfl rfl rfl (w_i64 (by omega) (by omega)) ?_ | refine l_addw rfl rfl rfl ?_
    refine l_assign rfl rfl ?_
    refine l_nil ?_
    (first | exact g_againi (ih (i + 1, X.set (fm + i).toNat (Wd.getD i.toNat 0)) ⟨by simp only; omega, by simp only; omega, by simp only [List.length_set]; exact hXl, set_u32 hXU (hWdU _).1 (hWdU _).2⟩ (by simp only; omega)) (.cons rfl (.cons rfl (.cons rfl (.cons rfl (.nil))))) | exact g_againi (ih (i + 1, X) ⟨by simp only; omega, by simp only; omega, hXl, hXU⟩ (by simp only; omega)) (.cons rfl (.cons rfl (.cons rfl (.cons rfl (.nil))))))
  intro hbr
  have hbr := of_decide_eq_false hbr
  refine g_exit rfl ?_
  refine g_seq ?_
  refine g_region ?_
  refine l_move rfl rfl ?_
  refine l_assign rfl rfl ?_
  refine l_nil ?_
  refine g_ret Try.func17 rfl (.tmp rfl .nil) ?_
  exact Gives.mki ⟨b8, X, rfl, rfl, hXl, hXU⟩
theorem put_all (w0 : World) (F : List Atom) (wd dp : Nat) (w1 : 1 ≤ wd) (w2 : wd ≤ 16) (d1 : 1 ≤ dp) (d2 : dp ≤ 8) (b g n c : Nat) (W : List Int) (hW : W.length = n) (hc : n ≤ c) (hn : n ≤ 1073741824) (hU : W32s W) (at_ : Int) (at_0 : -9223372036854775808 ≤ at_) (at_1 : at_ ≤ 9223372036854775807) (a : Option Addr) (q qc : Nat) (M : List Int) (hM : IR w0 F .u32 a q M) (hMU : W32s M) (hq : q ≤ 9223372036854775807) : CallK Try.prog 7 [.pointer (some ⟨b, 0, none⟩), .int .i64 at_, .int .i64 (wd : Int), .int .i64 (dp : Int), .slice a q qc] w0 (Blk b (.cells [Value.slice (some ⟨g, 0, none⟩) n c].toArray 76 (0, 0)) :: Own 33 1 (.slice (some ⟨g, 0, none⟩) n c) n (ints .u32 W) :: F) (Gives w0 fun v F2 => ∃ ok e W2, v = .tuple #[.bool ok, .int .i64 e] ∧ F2 = Blk b (.cells [Value.slice (some ⟨g, 0, none⟩) n c].toArray 76 (0, 0)) :: Own 33 1 (.slice (some ⟨g, 0, none⟩) n c) n (ints .u32 W2) :: F ∧ OwnG n W W2 at_ (1 + dp * (1 + wd)) ok ∧ (ok = true → e = 0)) := by
  by_cases h1 : q = 0 ∨ wd < q
  · refine (put_words w0 _ b wd dp w1 w2 d1 d2 at_ a q qc h1 hq).gmono fun v F2 ⟨e1, e2⟩ => ⟨false, 200, W, e1, e2, .stay hW hU, fun h => by cases h⟩
  by_cases hi : inR n at_ ((1 + dp * (1 + wd) : Nat) : Int)
  · refine (put_in w0 F wd dp w1 w2 d1 d2 b g n c W hW hc hn hU at_ hi a q qc M hM (by omega) (by omega)).gmono fun v F2 ⟨ok, e, W2, e1, e2, e3, e4⟩ => ⟨ok, e, W2, e1, e3, PutQ.own d1 w2 d2 hW hU hi ⟨by rw [hM.1]; omega, hMU⟩ e4⟩
  · refine (put_out w0 F wd dp w1 w2 d1 d2 b g n c W hW hc hn hU at_ at_0 at_1 hi a q qc (by omega) (by omega)).gmono fun v F2 ⟨e1, e2⟩ => ⟨false, 51, W, e1, e2, .stay hW hU, fun h => by cases h⟩
theorem take_all (w0 : World) (F : List Atom) (wd dp : Nat) (w1 : 1 ≤ wd) (w2 : wd ≤ 16) (d1 : 1 ≤ dp) (d2 : dp ≤ 8) (b g n c : Nat) (W : List Int) (hW : W.length = n) (hc : n ≤ c) (hn : n ≤ 1073741824) (hU : W32s W) (at_ : Int) (at_0 : -9223372036854775808 ≤ at_) (at_1 : at_ ≤ 9223372036854775807) : CallK Try.prog 11 [.pointer (some ⟨b, 0, none⟩), .int .i64 at_, .int .i64 (wd : Int), .int .i64 (dp : Int)] w0 (Blk b (.cells [Value.slice (some ⟨g, 0, none⟩) n c].toArray 76 (0, 0)) :: Own 33 1 (.slice (some ⟨g, 0, none⟩) n c) n (ints .u32 W) :: F) (Gives w0 fun v F2 => ∃ ok e W2, v = .tuple #[.bool ok, .int .i64 e] ∧ F2 = Blk b (.cells [Value.slice (some ⟨g, 0, none⟩) n c].toArray 76 (0, 0)) :: Own 33 1 (.slice (some ⟨g, 0, none⟩) n c) n (ints .u32 W2) :: F ∧ OwnG n W W2 at_ (3 + dp * (1 + wd)) ok ∧ (ok = true → e = 0)) := by
  by_cases hi : inR n at_ ((3 + dp * (1 + wd) : Nat) : Int)
  · refine (takeq_in w0 F wd dp w1 w2 d1 d2 b g n c W hW hc hn hU at_ hi).gmono fun v F2 ⟨ok, e, W2, e1, e2, e3, e4⟩ => ⟨ok, e, W2, e1, e3, TakQ.own d1 w2 d2 hW hU hi e4⟩
  · refine (takeq_out w0 F wd dp w1 w2 d1 d2 b g n c W hW hc hn hU at_ at_0 at_1 hi).gmono fun v F2 ⟨e1, e2⟩ => ⟨false, 51, W, e1, e2, .stay hW hU, fun h => by cases h⟩
theorem look_all (w0 : World) (F : List Atom) (wd dp : Nat) (w1 : 1 ≤ wd) (w2 : wd ≤ 16) (d1 : 1 ≤ dp) (d2 : dp ≤ 8) (b g n c : Nat) (W : List Int) (hW : W.length = n) (hc : n ≤ c) (hn : n ≤ 1073741824) (hU : W32s W) (at_ : Int) (at_0 : -9223372036854775808 ≤ at_) (at_1 : at_ ≤ 9223372036854775807) : CallK Try.prog 10 [.pointer (some ⟨b, 0, none⟩), .int .i64 at_, .int .i64 (wd : Int), .int .i64 (dp : Int)] w0 (Blk b (.cells [Value.slice (some ⟨g, 0, none⟩) n c].toArray 76 (0, 0)) :: Own 33 1 (.slice (some ⟨g, 0, none⟩) n c) n (ints .u32 W) :: F) (Gives w0 fun v F2 => ∃ W2, W2 = W ∧ F2 = Blk b (.cells [Value.slice (some ⟨g, 0, none⟩) n c].toArray 76 (0, 0)) :: Own 33 1 (.slice (some ⟨g, 0, none⟩) n c) n (ints .u32 W2) :: F) := by
  by_cases hi : inR n at_ ((3 + dp * (1 + wd) : Nat) : Int)
  · refine (look_in w0 F wd dp w1 w2 d1 d2 b g n c W hW hc hn hU at_ hi).mono ?_
    rintro r F1 ⟨v, F2, rfl, ⟨a, q, c2, T, th, e, rfl, rfl, _⟩, hh⟩
    exact ⟨_, _, rfl, ⟨W, rfl, rfl⟩, fun w hw => SPI.holds (hh w hw)⟩
  · exact (look_out w0 F wd dp w1 w2 d1 d2 b g n c W hW hc hn hU at_ at_0 at_1 hi).gmono fun v F2 ⟨e1, e2⟩ => ⟨W, rfl, e2⟩
theorem count_all (w0 : World) (F : List Atom) (wd dp : Nat) (w1 : 1 ≤ wd) (w2 : wd ≤ 16) (d1 : 1 ≤ dp) (d2 : dp ≤ 8) (b g n c : Nat) (W : List Int) (hW : W.length = n) (hc : n ≤ c) (hn : n ≤ 1073741824) (hU : W32s W) (at_ : Int) (at_0 : -9223372036854775808 ≤ at_) (at_1 : at_ ≤ 9223372036854775807) : CallK Try.prog 12 [.pointer (some ⟨b, 0, none⟩), .int .i64 at_, .int .i64 (wd : Int), .int .i64 (dp : Int)] w0 (Blk b (.cells [Value.slice (some ⟨g, 0, none⟩) n c].toArray 76 (0, 0)) :: Own 33 1 (.slice (some ⟨g, 0, none⟩) n c) n (ints .u32 W) :: F) (Gives w0 fun v F2 => ∃ W2, W2 = W ∧ F2 = Blk b (.cells [Value.slice (some ⟨g, 0, none⟩) n c].toArray 76 (0, 0)) :: Own 33 1 (.slice (some ⟨g, 0, none⟩) n c) n (ints .u32 W2) :: F) := by
  by_cases hi : inR n at_ ((3 + dp * (1 + wd) : Nat) : Int)
  · exact (count_in w0 F wd dp w1 w2 d1 d2 b g n c W hW hc hn hU at_ hi).gmono fun v F2 ⟨_, _, _, e1, e2, _⟩ => ⟨W, rfl, e2⟩
  · exact (count_out w0 F wd dp w1 w2 d1 d2 b g n c W hW hc hn hU at_ at_0 at_1 hi).gmono fun v F2 ⟨e1, e2⟩ => ⟨W, rfl, e2⟩
theorem staged_all (w0 : World) (F : List Atom) (wd dp : Nat) (w1 : 1 ≤ wd) (w2 : wd ≤ 16) (d1 : 1 ≤ dp) (d2 : dp ≤ 8) (b g n c : Nat) (W : List Int) (hW : W.length = n) (hc : n ≤ c) (hn : n ≤ 1073741824) (hU : W32s W) (at_ : Int) (at_0 : -9223372036854775808 ≤ at_) (at_1 : at_ ≤ 9223372036854775807) : CallK Try.prog 8 [.pointer (some ⟨b, 0, none⟩), .int .i64 at_, .int .i64 (wd : Int), .int .i64 (dp : Int)] w0 (Blk b (.cells [Value.slice (some ⟨g, 0, none⟩) n c].toArray 76 (0, 0)) :: Own 33 1 (.slice (some ⟨g, 0, none⟩) n c) n (ints .u32 W) :: F) (Gives w0 fun v F2 => ∃ W2, W2 = W ∧ F2 = Blk b (.cells [Value.slice (some ⟨g, 0, none⟩) n c].toArray 76 (0, 0)) :: Own 33 1 (.slice (some ⟨g, 0, none⟩) n c) n (ints .u32 W2) :: F) := by
  by_cases hi : inR n at_ ((1 + dp * (1 + wd) : Nat) : Int)
  · exact (stgd_in w0 F wd dp w1 w2 d1 d2 b g n c W hW hc hn hU at_ hi).gmono fun v F2 ⟨_, _, e1, e2, _⟩ => ⟨W, rfl, e2⟩
  · exact (stgd_out w0 F wd dp w1 w2 d1 d2 b g n c W hW hc hn hU at_ at_0 at_1 hi).gmono fun v F2 ⟨e1, e2⟩ => ⟨W, rfl, e2⟩
end Go.Proofs.Ytecibldbnekgbaa.Fw
