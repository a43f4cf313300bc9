import Derived.Test.YtecibldbnekgbaaQPrt
namespace Go.Proofs.Ytecibldbnekgbaa.Fw
open Go Go.Proofs
set_option linter.unusedVariables false
set_option linter.unusedSimpArgs false
set_option maxRecDepth 10000

section
variable {P : Program} {f : FuncId} {w0 : World} {K : Post} {n : Nat} {d : List Deferred} {k : List Item} {e : Env} {F : List Atom}
theorem g_unroll {c : Code} (h : G P f w0 K n d (.code c :: .inLoop c :: k) e F) : G P f w0 K n d (.code (.loop c) :: k) e F := fun a w ha hw => .head (fun b cs => step_loop) (h a w ha hw)
theorem g_more {c : Code} (h : G P f w0 K n d (.code c :: .inLoop c :: k) e F) : G P f w0 K n d (.inLoop c :: k) e F := fun a w ha hw => .head (fun b cs => step_inLoop) (h a w ha hw)
end
theorem RowR.same {L : List Int} {wd dp first many : Nat} {Ts Ts2 : List (List Int)} {ok : Bool} (H : RowR L wd dp first many Ts true) (H2 : RowR L wd dp first many Ts2 ok) : Ts2 = Ts ∧ ok = true := by
  rcases H with ⟨_, h1, h2, h3, h4⟩ | ⟨h, _⟩
  · rcases H2 with ⟨g0, g1, g2, g3, g4⟩ | ⟨_, _, g⟩
    · exact ⟨g4.trans h4.symm, g0⟩
    · exact absurd ⟨h1, h2, h3⟩ g
  · cases h
theorem PrtR.same {W : List Int} {at_ : Int} {wd dp : Nat} {Ts Ts2 : List (List Int)} {ok : Bool} (H : PrtR W at_ wd dp Ts true) (H2 : PrtR W at_ wd dp Ts2 ok) : Ts2 = Ts ∧ ok = true := by
  obtain ⟨r, h1, h2⟩ := H
  obtain ⟨r2, g1, g2⟩ := H2
  obtain ⟨e1, e2⟩ := h2.1 rfl
  subst e1
  obtain ⟨rfl, rfl⟩ := RowR.same h1 g1
  exact ⟨rfl, g2.2 ⟨rfl, e2⟩⟩
/-- What a port holds and has lost behind so many messages. -/
def delN (dp : Nat) (Ps : List (List Int)) (ls : Int) (Ss : List (List Int)) : Nat → List (List Int) × Int
  | 0 => (Ps, ls)
  | k + 1 => if (delN dp Ps ls Ss k).1.length < dp then ((delN dp Ps ls Ss k).1 ++ [tat Ss k], (delN dp Ps ls Ss k).2) else ((delN dp Ps ls Ss k).1, if (delN dp Ps ls Ss k).2 < 4294967295 then (delN dp Ps ls Ss k).2 + 1 else (delN dp Ps ls Ss k).2)
theorem delN_put {dp : Nat} {Ps Ss R : List (List Int)} {ls l : Int} {k : Nat} (h : delN dp Ps ls Ss k = (R, l)) (hl : R.length < dp) : delN dp Ps ls Ss (k + 1) = (R ++ [tat Ss k], l) := by simp only [delN, h]; rw [if_pos hl]
theorem delN_lost {dp : Nat} {Ps Ss R : List (List Int)} {ls l : Int} {k : Nat} (h : delN dp Ps ls Ss k = (R, l)) (hl : ¬ R.length < dp) (h2 : l < 4294967295) : delN dp Ps ls Ss (k + 1) = (R, l + 1) := by simp only [delN, h]; rw [if_neg hl, if_pos h2]
theorem delN_full {dp : Nat} {Ps Ss R : List (List Int)} {ls l : Int} {k : Nat} (h : delN dp Ps ls Ss k = (R, l)) (hl : ¬ R.length < dp) (h2 : ¬ l < 4294967295) : delN dp Ps ls Ss (k + 1) = (R, l) := by simp only [delN, h]; rw [if_neg hl, if_neg h2]
/-- The words behind a Deliver to one port. -/
def delW (W : List Int) (st pt : Int) (wd dp fn : Nat) (R : List (List Int)) (ls : Int) : List Int := spl st.toNat (layN wd dp [((0 : Nat) : Int)] 0 [] 0) (spl pt.toNat (portL wd dp fn ls R R.length) W)
theorem IR.sp {w0 : World} {F F1 : List Atom} {kd : IntKind} {a : Option Addr} {n : Nat} {X : List Int} (h : IR w0 F1 kd a n X) (hs : ∀ w, Holds w0 F w → Holds w0 F1 w) : IR w0 F kd a n X := ⟨h.1, h.2.imp id fun ⟨b, o, h3, h4⟩ => ⟨b, o, h3, fun w hw => h4 w (hs w hw)⟩⟩

set_option maxHeartbeats 4000000 in
theorem deliver1 (w0 : World) (F : List Atom) (wd dp : Nat) (w1 : 1 ≤ wd) (w2 : wd ≤ 16) (d1 : 1 ≤ dp) (d2 : dp ≤ 8) (b g n c : Nat) (W : List Int) (hW : W.length = n) (hc : n ≤ c) (hn : n ≤ 1073741824) (hU : W32s W) (st pt : Int) (hs : inR n st ((1 + dp * (1 + wd) : Nat) : Int)) (hp : inR n pt ((3 + dp * (1 + wd) : Nat) : Int)) (gp cp : Nat) (hrp : RowAt w0 F gp 0 (ints .i64 [pt])) (Ss Ps : List (List Int)) (hS : StgR W st wd dp Ss true) (hP : PrtR W pt wd dp Ps true) :
    CallK Try.prog 9 [.pointer (some ⟨b, 0, none⟩), .int .i64 st, .int .i64 (wd : Int), .int .i64 (dp : Int), .slice (some ⟨gp, 0, none⟩) 1 cp] w0 (Blk b (.cells [Value.slice (some ⟨g, 0, none⟩) n c].toArray 76 (0, 0)) :: Own 33 1 (.slice (some ⟨g, 0, none⟩) n c) n (ints .u32 W) :: F) (Gives w0 fun v F2 => ∃ R ls, v = .int .i64 0 ∧ delN dp Ps (W.getD (pt.toNat + 2) 0) Ss Ss.length = (R, ls) ∧ F2 = Blk b (.cells [Value.slice (some ⟨g, 0, none⟩) n c].toArray 76 (0, 0)) :: Own 33 1 (.slice (some ⟨g, 0, none⟩) n c) n (ints .u32 (delW W st pt wd dp (W.getD pt.toNat 0).toNat R ls)) :: F) := by
  have hpw := pw_bd w1 w2 d1 d2
  have hs2 := hs
  unfold inR at hs2
  have hp2 := hp
  unfold inR at hp2
  obtain ⟨fn, efn⟩ := Int.eq_ofNat_of_zero_le (hU pt.toNat).1
  have hU2 := hU (pt.toNat + 2)
  refine c_enter Try.func9 rfl rfl rfl ?_
  refine g_seq ?_
  refine g_region ?_
  refine l_assign rfl rfl ?_
  refine l_nil ?_
  refine g_seq ?_
  refine g_region ?_
  refine l_move rfl rfl ?_
  refine l_move rfl rfl ?_
  refine l_build rfl rfl (fun w => bd_61_0_1 _ _ w) ?_
  refine l_allocs rfl Try.zeroValue61 ?_; intro b11
  refine l_sts Try.sizeOf61 rfl rfl rfl rfl rfl ?_
  refine l_nil ?_
  refine g_seq ?_
  refine g_seq ?_
  refine g_region ?_
  refine l_move rfl rfl ?_
  refine l_lds rfl Try.isAgg61 Try.sizeOf61 rfl rfl ?_
  refine l_call rfl Try.call23 rfl (asked_n _ _ b wd dp w1 w2 d1 d2) ?_; rintro _ F9 ⟨rfl, hF9⟩; rw [hF9]; clear hF9 F9
  refine l_assign rfl rfl ?_
  refine l_nil ?_
  refine g_seq ?_
  refine g_region ?_
  refine l_move rfl rfl ?_
  refine l_neq rfl rfl rfl ?_
  refine l_nil ?_
  refine g_cond rfl ?_ ?_
  · intro hbr
    have hbr := of_decide_eq_true hbr
    (exfalso; omega)
  intro hbr
  have hbr := of_decide_eq_false hbr
  refine g_skip ?_
  refine g_seq ?_
  refine g_seq ?_
  refine g_region ?_
  refine l_move rfl rfl ?_
  refine l_len rfl Try.underlying52 rfl ?_
  refine l_gtr rfl rfl rfl ?_
  refine l_nil ?_
  refine g_cond rfl ?_ ?_
  · intro hbr
    have hbr := of_decide_eq_true hbr
    (exfalso; omega)
  intro hbr
  have hbr := of_decide_eq_false hbr
  refine g_skip ?_
  refine g_seq ?_
  refine g_region ?_
  refine l_lds rfl Try.isAgg61 Try.sizeOf61 rfl rfl ?_
  refine l_move rfl rfl ?_
  refine l_move rfl rfl ?_
  refine l_fronto g ?_
  refine l_frontb b ?_
  refine l_call rfl Try.call26 rfl (there_in _ _ wd dp w1 w2 d1 d2 b g n c W hW hc hn hU st 1 (by decide) hs) ?_; rintro _ _ ⟨rfl, rfl⟩
  refine l_assign rfl rfl ?_
  refine l_nil ?_
  refine g_seq ?_
  refine g_seq ?_
  refine g_region ?_
  refine l_move rfl rfl ?_
  refine l_len rfl Try.underlying52 rfl ?_
  refine l_move rfl rfl ?_
  refine l_nil ?_
  refine g_block ?_
  refine g_unroll ?_
  refine g_seq ?_
  refine g_region ?_
  refine l_lss rfl rfl rfl ?_
  refine l_nil ?_
  refine g_seq ?_
  first | refine g_cond_t rfl ?_ | refine g_cond_t (congrArg (fun b => some (Value.bool b)) (decide_eq_true hbr)) ?_
  refine g_skip ?_
  refine g_seq ?_
  refine g_block ?_
  refine g_seq ?_
  refine g_region ?_
  refine l_ixs rfl Try.underlying52 Try.sizeOf3 rfl rfl (by omega) (by omega) ?_
  refine l_loadc (v := .int .i64 pt) rfl Try.isAgg3 rfl (hrp.ex.cell (j := 0) rfl) ?_
  refine l_assign rfl rfl ?_
  refine l_nil ?_
  refine g_region ?_
  refine l_move rfl rfl ?_
  refine l_move rfl rfl ?_
  refine l_guard_yes rfl rfl ?_
  refine l_lds rfl Try.isAgg61 Try.sizeOf61 rfl rfl ?_
  refine l_guard_yes rfl rfl ?_
  refine l_move rfl rfl ?_
  refine l_guard_yes rfl rfl ?_
  refine l_move rfl rfl ?_
  refine l_guard_yes rfl rfl ?_
  refine l_fronto g ?_
  refine l_frontb b ?_
  refine l_call rfl Try.call26 rfl (there_in _ _ wd dp w1 w2 d1 d2 b g n c W hW hc hn hU pt 3 (by decide) hp) ?_; rintro _ _ ⟨rfl, rfl⟩
  refine l_pick_t rfl rfl rfl ?_
  refine l_assign rfl rfl ?_
  refine l_nil ?_
  refine g_inBlock ?_
  refine g_region ?_
  first | refine l_add rfl rfl rfl (w_i64 (by omega) (by omega)) ?_ | refine l_addw rfl rfl rfl ?_
  refine l_move rfl rfl ?_
  refine l_nil ?_
  refine g_more ?_
  refine g_seq ?_
  refine g_region ?_
  refine l_lss rfl rfl rfl ?_
  refine l_nil ?_
  refine g_seq ?_
  first | refine g_cond_f rfl ?_ | refine g_cond_f (congrArg (fun b => some (Value.bool b)) (decide_eq_false hbr)) ?_
  refine g_exit rfl ?_
  refine g_seq ?_
  refine g_seq ?_
  refine g_region ?_
  refine l_move rfl rfl ?_
  refine l_not rfl rfl ?_
  refine l_nil ?_
  first | refine g_cond_f rfl ?_ | refine g_cond_f (congrArg (fun b => some (Value.bool b)) (decide_eq_false hbr)) ?_
  refine g_skip ?_
  refine g_seq ?_
  refine g_region ?_
  refine l_lds rfl Try.isAgg61 Try.sizeOf61 rfl rfl ?_
  refine l_move rfl rfl ?_
  refine l_move rfl rfl ?_
  refine l_fronto g ?_
  refine l_frontb b ?_
  refine l_call rfl Try.call27 rfl (stage_ok _ _ wd dp w1 w2 d1 d2 b g n c W hW hc hn hU st hs) ?_; rintro _ _ ⟨ao, co, ms, Ts, ok, rfl, rfl, hMs, hao, hR⟩
  obtain ⟨hTe, hoke⟩ := RowR.same hS hR
  subst hTe
  subst hoke
  have hml := hMs.1
  have hbd := RowR.bd hS (by omega)
  refine l_move rfl rfl ?_
  refine l_extract rfl rfl rfl ?_
  refine l_extract rfl rfl rfl ?_
  refine l_allocs rfl Try.zeroValue64 ?_; intro b16
  refine l_sts Try.sizeOf64 rfl rfl rfl rfl rfl ?_
  refine l_assign rfl rfl ?_
  refine l_nil ?_
  refine g_seq ?_
  refine g_region ?_
  refine l_assign rfl rfl ?_
  refine l_nil ?_
  refine g_seq ?_
  refine g_seq ?_
  refine g_region ?_
  refine l_move rfl rfl ?_
  refine l_len rfl Try.underlying52 rfl ?_
  refine l_move rfl rfl ?_
  refine l_nil ?_
  refine g_block ?_
  refine g_unroll ?_
  refine g_seq ?_
  refine g_region ?_
  refine l_lss rfl rfl rfl ?_
  refine l_nil ?_
  refine g_seq ?_
  first | refine g_cond_t rfl ?_ | refine g_cond_t (congrArg (fun b => some (Value.bool b)) (decide_eq_true hbr)) ?_
  refine g_skip ?_
  refine g_seq ?_
  refine g_block ?_
  refine g_seq ?_
  refine g_region ?_
  refine l_ixs rfl Try.underlying52 Try.sizeOf3 rfl rfl (by omega) (by omega) ?_
  refine l_loadc (v := .int .i64 pt) rfl Try.isAgg3 rfl (hrp.ex.cell (j := 0) rfl) ?_
  refine l_assign rfl rfl ?_
  refine l_nil ?_
  refine g_seq ?_
  refine g_region ?_
  refine l_lds rfl Try.isAgg61 Try.sizeOf61 rfl rfl ?_
  refine l_move rfl rfl ?_
  refine l_move rfl rfl ?_
  refine l_fronto g ?_
  refine l_frontb b ?_
  refine l_call rfl Try.call28 rfl (port_ok _ _ wd dp w1 w2 d1 d2 b g n c W hW hc hn hU pt hp) ?_; rintro _ _ ⟨ao2, co2, ms2, Ts2, ok2, rfl, rfl, hMs2, hao2, hR2⟩
  obtain ⟨hTe2, hoke2⟩ := PrtR.same hP hR2
  subst hTe2
  subst hoke2
  have hml2 := hMs2.1
  have hbd2 := RowR.bd hP.row (by omega)
  have hq1 := hbd2.1
  have hq2 := hbd2.2.1
  have hq3 := hbd2.2.2.1
  rw [efn] at hq3 ⊢
  rw [show ((fn : Nat) : Int).toNat = fn from rfl] at hq3
  refine l_move rfl rfl ?_
  refine l_extract rfl rfl rfl ?_
  refine l_extract rfl rfl rfl ?_
  refine l_allocs rfl Try.zeroValue64 ?_; intro b21
  refine l_sts Try.sizeOf64 rfl rfl rfl rfl rfl ?_
  refine l_assign rfl rfl ?_
  refine l_nil ?_
  refine g_seq ?_
  refine g_region ?_
  refine l_move rfl rfl ?_
  refine l_move rfl rfl ?_
  refine l_split 81 rfl ?_ ?_
  · intro hbr
    have hb81 := hbr
    refine l_guard_yes rfl rfl ?_
    refine l_move rfl rfl ?_
    refine l_pick_t rfl rfl rfl ?_
    refine l_assign rfl rfl ?_
    refine l_nil ?_
    refine g_region ?_
    refine l_move rfl rfl ?_
    refine l_lds rfl Try.isAgg64 Try.sizeOf64 rfl rfl ?_
    refine l_own_nil 64 3 ?_
    refine l_buildSlice rfl Try.underlying71 Try.sizeOf64 Try.zeroValue64 rfl rfl rfl rfl rfl rfl ?_; intro b86
    refine l_append 1 (sz := 3) (by_ := 32) (m := 0) (m2 := 1) (news := [Value.int .u32 ((fn : Nat) : Int), .int .u32 (W.getD (pt.toNat + 2) 0), .slice ao2 ms2.length co2]) rfl Try.underlying71 Try.type64 rfl rfl rfl rfl rfl rfl rfl rfl ⟨rfl, .inl ⟨_, _, _, rfl, .own (mem_getO 0 rfl)⟩⟩ rfl (by omega) (by simp only [maxLen]; omega) (fun _ => rfl) ?_; intro v87 hv87
    refine l_fact (own_cases (mem_getO 1 rfl)) ?_
    rintro ⟨_, _, hv | ⟨g87, c87, rfl, hc87⟩⟩
    · exact absurd (hv87.1 hv.1).2 (by omega)
    simp only [List.nil_append, Nat.zero_add]
    refine l_assign rfl rfl ?_
    refine l_nil ?_
    refine g_inBlock ?_
    refine g_region ?_
    first | refine l_add rfl rfl rfl (w_i64 (by omega) (by omega)) ?_ | refine l_addw rfl rfl rfl ?_
    refine l_move rfl rfl ?_
    refine l_nil ?_
    refine g_more ?_
    refine g_seq ?_
    refine g_region ?_
    refine l_lss rfl rfl rfl ?_
    refine l_nil ?_
    refine g_seq ?_
    first | refine g_cond_f rfl ?_ | refine g_cond_f (congrArg (fun b => some (Value.bool b)) (decide_eq_false hbr)) ?_
    refine g_exit rfl ?_
    refine g_seq ?_
    refine g_seq ?_
    refine g_region ?_
    refine l_move rfl rfl ?_
    refine l_not rfl rfl ?_
    refine l_nil ?_
    refine g_cond rfl ?_ ?_
    · intro hbr
      first | (exfalso; simp at hbr; done) | (exfalso; simp at hbr; omega)
    intro hbr
    have hb90 := hbr
    refine g_skip ?_
    refine g_seq ?_
    refine g_seq ?_
    refine g_region ?_
    refine l_move rfl rfl ?_
    refine l_len rfl Try.underlying52 rfl ?_
    refine l_move rfl rfl ?_
    refine l_nil ?_
    refine g_block ?_
    refine g_unroll ?_
    refine g_seq ?_
    refine g_region ?_
    refine l_lss rfl rfl rfl ?_
    refine l_nil ?_
    refine g_seq ?_
    first | refine g_cond_t rfl ?_ | refine g_cond_t (congrArg (fun b => some (Value.bool b)) (decide_eq_true hbr)) ?_
    refine g_skip ?_
    refine g_seq ?_
    refine g_block ?_
    refine g_seq ?_
    refine g_region ?_
    refine l_move rfl rfl ?_
    refine l_ixs rfl Try.underlying52 Try.sizeOf3 rfl rfl (by omega) (by omega) ?_
    refine l_loadc (v := .int .i64 pt) rfl Try.isAgg3 rfl (hrp.ex.cell (j := 0) rfl) ?_
    refine l_assign rfl rfl ?_
    refine l_assign rfl rfl ?_
    refine l_nil ?_
    refine g_seq ?_
    refine g_region ?_
    refine l_move rfl rfl ?_
    refine l_move rfl rfl ?_
    refine l_ixs rfl Try.underlying71 Try.sizeOf64 rfl rfl (by omega) (by omega) ?_
    refine l_loadr (l := [Value.int .u32 ((fn : Nat) : Int), .int .u32 (W.getD (pt.toNat + 2) 0), .slice ao2 ms2.length co2]) rfl Try.isAgg64 Try.sizeOf64 rfl rfl (RowAt.own (E := 64) (sz := 3) (n := 1) (cap := c87) (by first | exact mem_getO 0 rfl | exact mem_getO 1 rfl | exact mem_getO 2 rfl | exact mem_getO 3 rfl | exact mem_getO 4 rfl | exact mem_getO 5 rfl)) ?_
    refine l_allocs rfl Try.zeroValue64 ?_; intro b25
    refine l_sts Try.sizeOf64 rfl rfl rfl rfl rfl ?_
    refine l_nil ?_
    refine g_seq ?_
    refine g_seq ?_
    refine g_region ?_
    refine l_fieldAddr rfl fa_64_2 rfl ?_
    refine l_ld rfl Try.isAgg40 rfl rfl ?_
    refine l_len rfl Try.underlying40 rfl ?_
    refine l_move rfl rfl ?_
    refine l_nil ?_
    refine g_block ?_
    refine g_loopk (X := Int × Option Addr × Nat × List LV × List (List Int) × Int) [(0, _), (1, _), (3, _), (10, _), (11, _), (16, _), (18, _), (23, _), (24, _), (25, _), (91, _), (92, _), (93, _), (94, _), (95, _), (96, _), (97, _), (98, _), (99, _), (100, _), (101, _), (102, _), (103, _), (104, _)] (.cons rfl (.cons rfl (.cons rfl (.cons rfl (.cons rfl (.cons rfl (.cons rfl (.cons rfl (.cons rfl (.cons rfl (.cons rfl (.cons rfl (.cons rfl (.cons rfl (.cons rfl (.cons rfl (.cons rfl (.cons rfl (.cons rfl (.cons rfl (.cons rfl (.cons rfl (.cons rfl (.cons rfl (.nil))))))))))))))))))))))))) (fun z => 0 ≤ z.1 ∧ z.1 ≤ ms.length ∧ delN dp Ts2 (W.getD (pt.toNat + 2) 0) Ts z.1.toNat = (z.2.2.2.2.1, z.2.2.2.2.2) ∧ z.2.2.2.1.length = z.2.2.2.2.1.length ∧ z.2.2.2.2.1.length ≤ dp ∧ MsRd w0 [BigF ms.length (fun j => Own 33 1 (.slice (lat ms j).a (lat ms j).n (lat ms j).c) (lat ms j).n (ints .u32 (tat Ts j))), BigF ms2.length (fun j => Own 33 1 (.slice (lat ms2 j).a (lat ms2 j).n (lat ms2 j).c) (lat ms2 j).n (ints .u32 (tat Ts2 j)))] wd z.2.2.2.1 z.2.2.2.2.1 ∧ (z.2.2.2.1.length = 0 ∨ ∃ g, z.2.1 = some ⟨g, 0, none⟩) ∧ 0 ≤ z.2.2.2.2.2 ∧ z.2.2.2.2.2 ≤ 4294967295) (fun z => (ms.length - z.1).toNat) (fun z => [(105, .int .i64 z.1)]) (fun z => Blk b25 (.cells [Value.int .u32 ((fn : Nat) : Int), .int .u32 z.2.2.2.2.2, .slice z.2.1 z.2.2.2.1.length z.2.2.1].toArray 64 (0, 0)) :: Own 29 1 (.slice z.2.1 z.2.2.2.1.length z.2.2.1) z.2.2.2.1.length (z.2.2.2.1.map lvV) :: Own 29 1 (.slice ao ms.length co) ms.length (ms.map lvV) :: BigF ms.length (fun j => Own 33 1 (.slice (lat ms j).a (lat ms j).n (lat ms j).c) (lat ms j).n (ints .u32 (tat Ts j))) :: BigF ms2.length (fun j => Own 33 1 (.slice (lat ms2 j).a (lat ms2 j).n (lat ms2 j).c) (lat ms2 j).n (ints .u32 (tat Ts2 j))) :: Blk b16 (.cells [Value.int .u32 0, .int .u32 0, .slice ao ms.length co].toArray 64 (0, 0)) :: Blk b11 (.cells [Value.int .i64 (wd : Int), .int .i64 (dp : Int)].toArray 61 (0, 0)) :: Blk b (.cells [Value.slice (some ⟨g, 0, none⟩) n c].toArray 76 (0, 0)) :: Own 33 1 (.slice (some ⟨g, 0, none⟩) n c) n (ints .u32 W) :: F) ((0, ao2, co2, ms2, Ts2, W.getD (pt.toNat + 2) 0)) (⟨by simp only; omega, by simp only; omega, rfl, hml2, by simp only; omega, ms_rd (List.mem_cons_of_mem _ (List.mem_cons_self ..)) hMs2 hbd2.2.2.2, hao2, hU2.1, hU2.2⟩) (.cons rfl .nil) ((fun w hw => SPI.holds (F' := Blk b25 (.cells [Value.int .u32 ((fn : Nat) : Int), .int .u32 (W.getD (pt.toNat + 2) 0), .slice ao2 ms2.length co2].toArray 64 (0, 0)) :: Own 29 1 (.slice ao2 ms2.length co2) ms2.length (ms2.map lvV) :: Own 29 1 (.slice ao ms.length co) ms.length (ms.map lvV) :: BigF ms.length (fun j => Own 33 1 (.slice (lat ms j).a (lat ms j).n (lat ms j).c) (lat ms j).n (ints .u32 (tat Ts j))) :: BigF ms2.length (fun j => Own 33 1 (.slice (lat ms2 j).a (lat ms2 j).n (lat ms2 j).c) (lat ms2 j).n (ints .u32 (tat Ts2 j))) :: Blk b16 (.cells [Value.int .u32 0, .int .u32 0, .slice ao ms.length co].toArray 64 (0, 0)) :: Blk b11 (.cells [Value.int .i64 (wd : Int), .int .i64 (dp : Int)].toArray 61 (0, 0)) :: Blk b (.cells [Value.slice (some ⟨g, 0, none⟩) n c].toArray 76 (0, 0)) :: Own 33 1 (.slice (some ⟨g, 0, none⟩) n c) n (ints .u32 W) :: F) hw)) ?_
    rintro ⟨k, aR, cR, mR, TR, lR⟩ ⟨k0, k1, hdl, hlen, hle, hrd, haR, l0, l1⟩ ih
    dsimp only [List.cons_append, List.nil_append] at ih ⊢
    simp only at k0 k1 hdl hlen hle hrd haR l0 l1
    refine g_seq ?_
    refine g_region ?_
    refine l_lss rfl rfl rfl ?_
    refine l_nil ?_
    refine g_seq ?_
    refine g_cond rfl ?_ ?_
    · intro hbr
      have hbr := of_decide_eq_true hbr
      refine g_skip ?_
      refine g_seq ?_
      refine g_block ?_
      refine g_seq ?_
      refine g_region ?_
      obtain ⟨gs, rfl⟩ := hao.resolve_left (by omega)
      have hk1 := ms_rd (w0 := w0) (F := [BigF ms.length (fun j => Own 33 1 (.slice (lat ms j).a (lat ms j).n (lat ms j).c) (lat ms j).n (ints .u32 (tat Ts j))), BigF ms2.length (fun j => Own 33 1 (.slice (lat ms2 j).a (lat ms2 j).n (lat ms2 j).c) (lat ms2 j).n (ints .u32 (tat Ts2 j)))]) (List.mem_cons_self ..) hMs hbd.2.2.2 k.toNat (by omega)
      refine l_ixs rfl Try.underlying40 Try.sizeOf29 rfl rfl (by omega) (by omega) ?_
      refine l_loadc (v := lvV (lat ms k.toNat)) rfl Try.isAgg29 rfl (own_cell (g := gs) (E := 29) (n := ms.length) (cap := co) (i := k.toNat) (lat_get (by omega))) ?_
      refine l_assign rfl rfl ?_
      refine l_nil ?_
      refine g_block ?_
      refine g_seq ?_
      refine g_region ?_
      refine l_fieldAddr rfl fa_64_2 rfl ?_
      refine l_ld rfl Try.isAgg40 rfl rfl ?_
      refine l_len rfl Try.underlying40 rfl ?_
      refine l_move rfl rfl ?_
      refine l_lss rfl rfl rfl ?_
      refine l_assign rfl rfl ?_
      refine l_nil ?_
      refine g_cond rfl ?_ ?_
      · intro hbr
        have hbr := of_decide_eq_true hbr
        refine g_region ?_
        refine l_fieldAddr rfl fa_64_2 rfl ?_
        refine l_ld rfl Try.isAgg40 rfl rfl ?_
        refine l_move rfl rfl ?_
        refine l_frontv (.slice aR mR.length cR) ?_
        refine l_buildSlice rfl Try.underlying40 Try.sizeOf29 Try.zeroValue29 rfl rfl rfl rfl rfl rfl ?_; intro b118
        refine l_append 1 (sz := 1) (by_ := 24) (m2 := 1) (news := [lvV (lat ms k.toNat)]) rfl Try.underlying40 Try.type29 rfl rfl rfl rfl rfl rfl rfl rfl ⟨rfl, .inl ⟨_, _, _, rfl, .own (mem_getO 0 rfl)⟩⟩ rfl (by omega) (by simp only [maxLen]; omega) (fun _ => rfl) ?_; intro v119 hv119
        refine l_fact (own_cases (mem_getO 1 rfl)) ?_
        rintro ⟨_, _, hv | ⟨g119, c119, rfl, hc119⟩⟩
        · exact absurd (hv119.1 hv.1).2 (by omega)
        rw [show mR.map lvV ++ [lvV (lat ms k.toNat)] = (mR ++ [lat ms k.toNat]).map lvV by simp, show mR.length + 1 = (mR ++ [lat ms k.toNat]).length by simp]
        refine l_fieldAddr rfl fa_64_2 rfl ?_
        refine l_st Try.sizeOf40 rfl rfl rfl rfl ?_
        refine l_nil ?_
        refine g_inBlock ?_
        refine g_inBlock ?_
        refine g_region ?_
        first | refine l_add rfl rfl rfl (w_i64 (by omega) (by omega)) ?_ | refine l_addw rfl rfl rfl ?_
        refine l_move rfl rfl ?_
        refine l_nil ?_
        (first | exact g_againi (ih (k + 1, some ⟨g119, 0, none⟩, c119, mR ++ [lat ms k.toNat], TR ++ [tat Ts k.toNat], lR) ⟨by simp only; omega, by simp only; omega, by rw [show (k + 1).toNat = k.toNat + 1 by omega]; exact delN_put (R := TR) (l := lR) hdl (by omega), by simp only [List.length_append, List.length_singleton]; omega, by simp only [List.length_append, List.length_singleton]; omega, hrd.snoc hlen hk1.1 hk1.2.1 hk1.2.2, .inr ⟨_, rfl⟩, l0, l1⟩ (by simp only; omega)) (.cons rfl (.cons rfl (.cons rfl (.cons rfl (.cons rfl (.cons rfl (.cons rfl (.cons rfl (.cons rfl (.cons rfl (.cons rfl (.cons rfl (.cons rfl (.cons rfl (.cons rfl (.cons rfl (.cons rfl (.cons rfl (.cons rfl (.cons rfl (.cons rfl (.cons rfl (.cons rfl (.cons rfl (.cons rfl (.nil)))))))))))))))))))))))))) | exact g_againi (ih (k + 1, aR, cR, mR, TR, lR + 1) ⟨by simp only; omega, by simp only; omega, by rw [show (k + 1).toNat = k.toNat + 1 by omega]; exact delN_lost (R := TR) (l := lR) hdl (by omega) (by omega), hlen, hle, hrd, haR, by simp only; omega, by simp only; omega⟩ (by simp only; omega)) (.cons rfl (.cons rfl (.cons rfl (.cons rfl (.cons rfl (.cons rfl (.cons rfl (.cons rfl (.cons rfl (.cons rfl (.cons rfl (.cons rfl (.cons rfl (.cons rfl (.cons rfl (.cons rfl (.cons rfl (.cons rfl (.cons rfl (.cons rfl (.cons rfl (.cons rfl (.cons rfl (.cons rfl (.cons rfl (.nil)))))))))))))))))))))))))) | exact g_againi (ih (k + 1, aR, cR, mR, TR, lR) ⟨by simp only; omega, by simp only; omega, by rw [show (k + 1).toNat = k.toNat + 1 by omega]; exact delN_full (R := TR) (l := lR) hdl (by omega) (by omega), hlen, hle, hrd, haR, l0, l1⟩ (by simp only; omega)) (.cons rfl (.cons rfl (.cons rfl (.cons rfl (.cons rfl (.cons rfl (.cons rfl (.cons rfl (.cons rfl (.cons rfl (.cons rfl (.cons rfl (.cons rfl (.cons rfl (.cons rfl (.cons rfl (.cons rfl (.cons rfl (.cons rfl (.cons rfl (.cons rfl (.cons rfl (.cons rfl (.cons rfl (.cons rfl (.nil)))))))))))))))))))))))))))
      intro hbr
      have hbr := of_decide_eq_false hbr
      refine g_seq ?_
      refine g_region ?_
      refine l_fieldAddr rfl fa_64_1 rfl ?_
      first | refine l_ld rfl Try.isAgg33 rfl rfl ?_ | refine l_ldw rfl Try.isAgg33 rfl (by omega) ?_
      refine l_lss rfl rfl rfl ?_
      refine l_assign rfl rfl ?_
      refine l_nil ?_
      refine g_cond rfl ?_ ?_
      · intro hbr
        have hbr := of_decide_eq_true hbr
        refine g_region ?_
        refine l_fieldAddr rfl fa_64_1 rfl ?_
        first | refine l_ld rfl Try.isAgg33 rfl rfl ?_ | refine l_ldw rfl Try.isAgg33 rfl (by omega) ?_
        refine l_add rfl rfl rfl (w_u32 (by omega) (by omega)) ?_
        refine l_fieldAddr rfl fa_64_1 rfl ?_
        first | refine l_st Try.sizeOf33 rfl rfl rfl rfl ?_ | refine l_stw Try.sizeOf33 rfl rfl (by omega) ?_
        refine l_nil ?_
        refine g_inBlock ?_
        refine g_inBlock ?_
        refine g_region ?_
        first | refine l_add rfl rfl rfl (w_i64 (by omega) (by omega)) ?_ | refine l_addw rfl rfl rfl ?_
        refine l_move rfl rfl ?_
        refine l_nil ?_
        (first | exact g_againi (ih (k + 1, some ⟨g119, 0, none⟩, c119, mR ++ [lat ms k.toNat], TR ++ [tat Ts k.toNat], lR) ⟨by simp only; omega, by simp only; omega, by rw [show (k + 1).toNat = k.toNat + 1 by omega]; exact delN_put (R := TR) (l := lR) hdl (by omega), by simp only [List.length_append, List.length_singleton]; omega, by simp only [List.length_append, List.length_singleton]; omega, hrd.snoc hlen hk1.1 hk1.2.1 hk1.2.2, .inr ⟨_, rfl⟩, l0, l1⟩ (by simp only; omega)) (.cons rfl (.cons rfl (.cons rfl (.cons rfl (.cons rfl (.cons rfl (.cons rfl (.cons rfl (.cons rfl (.cons rfl (.cons rfl (.cons rfl (.cons rfl (.cons rfl (.cons rfl (.cons rfl (.cons rfl (.cons rfl (.cons rfl (.cons rfl (.cons rfl (.cons rfl (.cons rfl (.cons rfl (.cons rfl (.nil)))))))))))))))))))))))))) | exact g_againi (ih (k + 1, aR, cR, mR, TR, lR + 1) ⟨by simp only; omega, by simp only; omega, by rw [show (k + 1).toNat = k.toNat + 1 by omega]; exact delN_lost (R := TR) (l := lR) hdl (by omega) (by omega), hlen, hle, hrd, haR, by simp only; omega, by simp only; omega⟩ (by simp only; omega)) (.cons rfl (.cons rfl (.cons rfl (.cons rfl (.cons rfl (.cons rfl (.cons rfl (.cons rfl (.cons rfl (.cons rfl (.cons rfl (.cons rfl (.cons rfl (.cons rfl (.cons rfl (.cons rfl (.cons rfl (.cons rfl (.cons rfl (.cons rfl (.cons rfl (.cons rfl (.cons rfl (.cons rfl (.cons rfl (.nil)))))))))))))))))))))))))) | exact g_againi (ih (k + 1, aR, cR, mR, TR, lR) ⟨by simp only; omega, by simp only; omega, by rw [show (k + 1).toNat = k.toNat + 1 by omega]; exact delN_full (R := TR) (l := lR) hdl (by omega) (by omega), hlen, hle, hrd, haR, l0, l1⟩ (by simp only; omega)) (.cons rfl (.cons rfl (.cons rfl (.cons rfl (.cons rfl (.cons rfl (.cons rfl (.cons rfl (.cons rfl (.cons rfl (.cons rfl (.cons rfl (.cons rfl (.cons rfl (.cons rfl (.cons rfl (.cons rfl (.cons rfl (.cons rfl (.cons rfl (.cons rfl (.cons rfl (.cons rfl (.cons rfl (.cons rfl (.nil)))))))))))))))))))))))))))
      intro hbr
      have hbr := of_decide_eq_false hbr
      refine g_skip ?_
      refine g_inBlock ?_
      refine g_inBlock ?_
      refine g_region ?_
      first | refine l_add rfl rfl rfl (w_i64 (by omega) (by omega)) ?_ | refine l_addw rfl rfl rfl ?_
      refine l_move rfl rfl ?_
      refine l_nil ?_
      (first | exact g_againi (ih (k + 1, some ⟨g119, 0, none⟩, c119, mR ++ [lat ms k.toNat], TR ++ [tat Ts k.toNat], lR) ⟨by simp only; omega, by simp only; omega, by rw [show (k + 1).toNat = k.toNat + 1 by omega]; exact delN_put (R := TR) (l := lR) hdl (by omega), by simp only [List.length_append, List.length_singleton]; omega, by simp only [List.length_append, List.length_singleton]; omega, hrd.snoc hlen hk1.1 hk1.2.1 hk1.2.2, .inr ⟨_, rfl⟩, l0, l1⟩ (by simp only; omega)) (.cons rfl (.cons rfl (.cons rfl (.cons rfl (.cons rfl (.cons rfl (.cons rfl (.cons rfl (.cons rfl (.cons rfl (.cons rfl (.cons rfl (.cons rfl (.cons rfl (.cons rfl (.cons rfl (.cons rfl (.cons rfl (.cons rfl (.cons rfl (.cons rfl (.cons rfl (.cons rfl (.cons rfl (.cons rfl (.nil)))))))))))))))))))))))))) | exact g_againi (ih (k + 1, aR, cR, mR, TR, lR + 1) ⟨by simp only; omega, by simp only; omega, by rw [show (k + 1).toNat = k.toNat + 1 by omega]; exact delN_lost (R := TR) (l := lR) hdl (by omega) (by omega), hlen, hle, hrd, haR, by simp only; omega, by simp only; omega⟩ (by simp only; omega)) (.cons rfl (.cons rfl (.cons rfl (.cons rfl (.cons rfl (.cons rfl (.cons rfl (.cons rfl (.cons rfl (.cons rfl (.cons rfl (.cons rfl (.cons rfl (.cons rfl (.cons rfl (.cons rfl (.cons rfl (.cons rfl (.cons rfl (.cons rfl (.cons rfl (.cons rfl (.cons rfl (.cons rfl (.cons rfl (.nil)))))))))))))))))))))))))) | exact g_againi (ih (k + 1, aR, cR, mR, TR, lR) ⟨by simp only; omega, by simp only; omega, by rw [show (k + 1).toNat = k.toNat + 1 by omega]; exact delN_full (R := TR) (l := lR) hdl (by omega) (by omega), hlen, hle, hrd, haR, l0, l1⟩ (by simp only; omega)) (.cons rfl (.cons rfl (.cons rfl (.cons rfl (.cons rfl (.cons rfl (.cons rfl (.cons rfl (.cons rfl (.cons rfl (.cons rfl (.cons rfl (.cons rfl (.cons rfl (.cons rfl (.cons rfl (.cons rfl (.cons rfl (.cons rfl (.cons rfl (.cons rfl (.cons rfl (.cons rfl (.cons rfl (.cons rfl (.nil)))))))))))))))))))))))))))
    intro hbr
    have hbr := of_decide_eq_false hbr
    refine g_exit rfl ?_
    obtain rfl : k = ms.length := by omega
    rw [Int.toNat_natCast, hml] at hdl
    refine g_region ?_
    refine l_lds rfl Try.isAgg61 Try.sizeOf61 rfl rfl ?_
    refine l_move rfl rfl ?_
    refine l_move rfl rfl ?_
    refine l_lds rfl Try.isAgg64 Try.sizeOf64 rfl rfl ?_
    refine l_fronto g ?_
    refine l_frontb b ?_
    refine l_call rfl Try.call29 rfl (layport_ok _ _ wd dp w1 w2 d1 d2 b g n c W hW hc hn pt hp fn (by omega) lR aR mR.length cR mR TR rfl (by omega) (haR.imp id fun ⟨g9, h9⟩ => ⟨g9, 0, h9, by subst h9; exact .own (E := 29) (sz := 1) (n := mR.length) (cap := cR) (by first | exact mem_getO 0 rfl | exact mem_getO 1 rfl | exact mem_getO 2 rfl | exact mem_getO 3 rfl | exact mem_getO 4 rfl | exact mem_getO 5 rfl | exact mem_getO 6 rfl | exact mem_getO 7 rfl | exact mem_getO 8 rfl | exact mem_getO 9 rfl)⟩) (fun j hj => ⟨(hrd j hj).1.sp (fun w hw => hw.sub (.cons _ (.cons _ (.cons _ (.cons_cons _ (.cons_cons _ (List.nil_sublist _))))))), (hrd j hj).2⟩)) ?_; rintro _ _ rfl
    have hpl : (spl pt.toNat (portL wd dp fn lR TR mR.length) W).length = n := by rw [spl_length (by rw [portL_len (by omega) (fun j hj => by have h9 := hrd j hj; rw [h9.1.1]; exact h9.2.2)]; omega)]; exact hW
    refine l_nil ?_
    refine g_inBlock ?_
    refine g_region ?_
    first | refine l_add rfl rfl rfl (w_i64 (by omega) (by omega)) ?_ | refine l_addw rfl rfl rfl ?_
    refine l_move rfl rfl ?_
    refine l_nil ?_
    refine g_more ?_
    refine g_seq ?_
    refine g_region ?_
    refine l_lss rfl rfl rfl ?_
    refine l_nil ?_
    refine g_seq ?_
    first | refine g_cond_f rfl ?_ | refine g_cond_f (congrArg (fun b => some (Value.bool b)) (decide_eq_false hbr)) ?_
    refine g_exit rfl ?_
    refine g_seq ?_
    refine g_region ?_
    refine l_lds rfl Try.isAgg61 Try.sizeOf61 rfl rfl ?_
    refine l_move rfl rfl ?_
    refine l_move rfl rfl ?_
    refine l_build rfl rfl (fun w => bd_64_z w) ?_
    refine l_buildSlice rfl Try.underlying29 Try.sizeOf33 Try.zeroValue33 rfl rfl rfl rfl rfl rfl ?_; intro b140
    refine l_fronto g ?_
    refine l_frontb b ?_
    refine l_call rfl Try.call25 rfl (lay_row _ _ wd dp w1 w2 d1 d2 b g n c (spl pt.toNat (portL wd dp fn lR TR mR.length) W) hpl hc hn st 1 1 b140 0 [((0 : Nat) : Int)] rfl (by omega) (by omega) (by omega) (.own (E := 33) (sz := 1) (n := 1) (cap := 1) (by first | exact mem_getO 0 rfl | exact mem_getO 1 rfl | exact mem_getO 2 rfl | exact mem_getO 3 rfl | exact mem_getO 4 rfl | exact mem_getO 5 rfl | exact mem_getO 6 rfl | exact mem_getO 7 rfl | exact mem_getO 8 rfl | exact mem_getO 9 rfl)) hs 0 (by omega) 0 none 0 0 [] [] rfl (by omega) (.inl rfl) (fun j hj => by simp at hj)) ?_; rintro _ _ rfl
    refine l_nil ?_
    refine g_seq ?_
    refine g_region ?_
    refine l_assign rfl rfl ?_
    refine l_nil ?_
    refine g_ret Try.func9 rfl (.tmp rfl .nil) ?_
    rw [hlen]
    simp only [delW, Int.toNat_natCast]
    exact Gives.mki ⟨TR, lR, rfl, hdl, rfl⟩
  · intro hbr
    first | (exfalso; simp at hbr; done) | (exfalso; simp at hbr; omega)
end Go.Proofs.Ytecibldbnekgbaa.Fw
