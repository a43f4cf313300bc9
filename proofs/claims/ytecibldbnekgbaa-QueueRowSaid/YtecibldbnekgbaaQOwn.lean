import Derived.Test.YtecibldbnekgbaaQCase
namespace Go.Proofs.Ytecibldbnekgbaa.Fw
open Go Go.Proofs
set_option linter.unusedVariables false
set_option linter.unusedSimpArgs false
set_option maxRecDepth 10000
theorem fa_54_1 (a : Addr) (w : World) : (Instr.fieldAt 54 (.pointer (some a)) 1).run Try.prog w = .ok (.pointer (some (a.add 1))) w := by
  simp [Instr.fieldAt, Try.runUnderlying54, Instr.sureAddr, fieldPlace, Try.sizeOf3, Sem.run_bind, Sem.run_pure]
theorem fa_54_3 (a : Addr) (w : World) : (Instr.fieldAt 54 (.pointer (some a)) 3).run Try.prog w = .ok (.pointer (some (a.add 3))) w := by
  simp [Instr.fieldAt, Try.runUnderlying54, Instr.sureAddr, fieldPlace, Try.sizeOf3, Sem.run_bind, Sem.run_pure]
theorem fa_54_2 (a : Addr) (w : World) : (Instr.fieldAt 54 (.pointer (some a)) 2).run Try.prog w = .ok (.pointer (some (a.add 2))) w := by
  simp [Instr.fieldAt, Try.runUnderlying54, Instr.sureAddr, fieldPlace, Try.sizeOf3, Sem.run_bind, Sem.run_pure]
theorem fa_54_0 (a : Addr) (w : World) : (Instr.fieldAt 54 (.pointer (some a)) 0).run Try.prog w = .ok (.pointer (some (a.add 0))) w := by
  simp [Instr.fieldAt, Try.runUnderlying54, Instr.sureAddr, fieldPlace, Try.sizeOf3, Sem.run_bind, Sem.run_pure]
theorem fa_54_5 (a : Addr) (w : World) : (Instr.fieldAt 54 (.pointer (some a)) 5).run Try.prog w = .ok (.pointer (some (a.add 5))) w := by
  simp [Instr.fieldAt, Try.runUnderlying54, Instr.sureAddr, fieldPlace, Try.sizeOf29, Sem.run_bind, Sem.run_pure]
def ChgQ (n : Nat) (W W2 : List Int) (at_ to : Int) (ok : Bool) : Prop := (∀ i : Nat, i < n → W2.getD i 0 ≠ W.getD i 0 → ok = true ∧ at_ ≤ i ∧ (i : Int) < to) ∧ (ok = true → ∃ i, i < n ∧ W2.getD i 0 ≠ W.getD i 0)
theorem chg_put {n p : Nat} {W W2 : List Int} {at_ q : Int} {ok : Bool} (h : OwnG n W W2 at_ (1 + p) ok) (hp : q = p) (hp2 : p ≤ 136) (hn : n ≤ 1073741824) : ChgQ n W W2 at_ (IntKind.i64.wrap (IntKind.i64.wrap (IntKind.i64.wrap (at_ + 3) + q) - 2)) ok := by
  obtain ⟨_, _, h1, h2⟩ := h
  cases ok with
  | false => rw [h1 rfl]; exact ⟨fun i _ h => absurd rfl h, fun h => by cases h⟩
  | true =>
    obtain ⟨h3, h4, h5⟩ := h2 rfl
    refine ⟨fun i hi h => ⟨rfl, ?_⟩, fun _ => h4⟩
    have h6 := h5 i h
    unfold inR at h3
    rw [w_i64 (show -9223372036854775808 ≤ at_ + 3 by omega) (by omega), w_i64 (show -9223372036854775808 ≤ at_ + 3 + q by omega) (by omega), w_i64 (by omega) (by omega)]
    omega
theorem chg_take {n p : Nat} {W W2 : List Int} {at_ q : Int} {ok : Bool} (h : OwnG n W W2 at_ (3 + p) ok) (hp : q = p) (hp2 : p ≤ 136) (hn : n ≤ 1073741824) : ChgQ n W W2 at_ (IntKind.i64.wrap (IntKind.i64.wrap (at_ + 3) + q)) ok := by
  obtain ⟨_, _, h1, h2⟩ := h
  cases ok with
  | false => rw [h1 rfl]; exact ⟨fun i _ h => absurd rfl h, fun h => by cases h⟩
  | true =>
    obtain ⟨h3, h4, h5⟩ := h2 rfl
    refine ⟨fun i hi h => ⟨rfl, ?_⟩, fun _ => h4⟩
    have h6 := h5 i h
    unfold inR at h3
    rw [w_i64 (show -9223372036854775808 ≤ at_ + 3 by omega) (by omega), w_i64 (by omega) (by omega)]
    omega
theorem chg_none {n : Nat} {W W2 : List Int} {at_ to : Int} (h : W2 = W) : ChgQ n W W2 at_ to false := by
  rw [h]; exact ⟨fun i _ h => absurd rfl h, fun h => by cases h⟩
section
variable {P : Program} {f : FuncId} {w0 : World} {K : Post} {n : Nat} {d : List Deferred} {k : List Item} {e : Env} {F : List Atom}
theorem g_join {X : Type} {c c1 c2 : Code} (B : Env) (hB : Sub e B) (I : X → Prop) (E : X → Env) (H : X → List Atom) (rest : ∀ x, I x → G P f w0 K n d (.code c2 :: k) (E x ++ B) (H x))
    (now : (∀ x, I x → G P f w0 K n d (.code c2 :: k) (E x ++ B) (H x)) → G P f w0 K n d (.code c :: .code (.seq c1 c2) :: k) e F) : G P f w0 K n d (.code c :: .code (.seq c1 c2) :: k) e F := now rest
theorem g_join0 {X : Type} {i1 i2 : Item} (B : Env) (hB : Sub e B) (I : X → Prop) (E : X → Env) (H : X → List Atom) (rest : ∀ x, I x → G P f w0 K n d k (E x ++ B) (H x)) (now : (∀ x, I x → G P f w0 K n d k (E x ++ B) (H x)) → G P f w0 K n d (i1 :: i2 :: k) e F) : G P f w0 K n d (i1 :: i2 :: k) e F := now rest
end
theorem mul_nat (wd dp : Nat) : (dp : Int) * (1 + (wd : Int)) = ((dp * (1 + wd) : Nat) : Int) := by
  rw [Int.natCast_mul, Int.natCast_add]; rfl
set_option maxHeartbeats 16000000 in
theorem own_ok (w0 : World) (F : List Atom) (fr fm : Int) (fm0 : -9223372036854775808 ≤ fm) (fm1 : fm ≤ 9223372036854775807) (wa : Option Addr) (wn wc : Nat) (Wd : List Int) (hWd : IR w0 F .u32 wa wn Wd) (hWdU : W32s Wd) (hwn : wn ≤ 9223372036854775807) (oa : Option Addr) (on oc : Nat) (hon : on ≤ 9223372036854775807) (L : List OpV) (hLl : L.length = on) (hs : on = 0 ∨ ∃ b o, oa = some ⟨b, o, none⟩ ∧ RowAt w0 F b o (L.map opV).flatten) (hok : ∀ o ∈ L, OpOk w0 F o) (h : 1 ≤ fr ∧ fr ≤ 16 ∧ on ≤ 200) :
    CallK Try.prog 6 [.agg [Value.int .i64 (fr : Int), .int .i64 fm, .slice wa wn wc, .slice oa on oc].toArray] w0 (F) (Gives w0 fun v F2 => v = .bool true ∧ F2 = F) := by
  refine c_enter Try.func6 rfl rfl rfl ?_
  refine g_seq ?_
  refine g_region ?_
  refine l_boxs rfl rfl ?_; intro b1
  refine l_assign rfl rfl ?_
  refine l_nil ?_
  refine g_seq ?_
  refine g_seq ?_
  refine g_region ?_
  refine l_lds rfl Try.isAgg48 Try.sizeOf48 rfl rfl ?_
  refine l_call rfl Try.call16 rfl (fit_ok _ _ _ _ _ _ _ _ _ _ h) ?_; rintro _ _ ⟨rfl, rfl⟩
  refine l_not rfl rfl ?_
  refine l_nil ?_
  refine g_cond_f rfl ?_
  refine g_skip ?_
  refine g_seq ?_
  refine g_region ?_
  refine l_lds rfl Try.isAgg48 Try.sizeOf48 rfl rfl ?_
  refine l_call rfl Try.call17 rfl (laid_ok _ _ fr fm fm0 fm1 wa wn wc Wd hWd.ex hWdU hwn oa on oc hon (by omega) (by omega)) ?_; rintro _ _ ⟨gw, X, rfl, rfl, hXl, hXU⟩
  obtain ⟨n, hn⟩ : ∃ n, (fr * 16).toNat = n := ⟨_, rfl⟩
  rw [hn] at hXl ⊢
  refine l_call rfl Try.call18 rfl (of_ok _ _ gw 0 n n X hXl (by omega) (.own (mem_getO 0 rfl)) (by omega) (by omega) (by omega)) ?_; rintro _ _ ⟨b, g, c, rfl, hc, rfl⟩
  refine l_move rfl rfl ?_
  refine l_extract rfl rfl rfl ?_
  refine l_extract rfl rfl rfl ?_
  refine l_assign rfl rfl ?_
  refine l_assign rfl rfl ?_
  refine l_nil ?_
  refine g_seq ?_
  refine g_seq ?_
  refine g_region ?_
  refine l_move rfl rfl ?_
  refine l_neq rfl rfl rfl ?_
  refine l_nil ?_
  refine g_cond rfl ?_ ?_
  · intro hbr
    have hbr := of_decide_eq_true hbr
    (exfalso; first | omega | (obtain ⟨i9, h1, h2⟩ := hF.2 hb181; have h3 := hz i9 (by omega) h2; simp [h3] at hbr; done) | (cases h9a; done) | (simp [h9a] at hbr; done) | (simp at hbr; omega))
  intro hbr
  have hbr := of_decide_eq_false hbr
  refine g_skip ?_
  refine g_seq ?_
  refine g_seq ?_
  refine g_region ?_
  refine l_assign rfl rfl ?_
  refine l_nil ?_
  refine g_block ?_
  refine g_loopk (X := Int × List Int) [(1, _), (3, _)] (.cons rfl (.cons rfl (.nil))) (fun z => 0 ≤ z.1 ∧ z.1 ≤ on ∧ z.2.length = n ∧ W32s z.2) (fun z => ((on : Int) - z.1).toNat) (fun z => [(5, .int .i64 z.1)]) (fun z => Blk b (.cells [Value.slice (some ⟨g, 0, none⟩) n c].toArray 76 (0, 0)) :: Own 33 1 (.slice (some ⟨g, 0, none⟩) n c) n (ints .u32 z.2) :: Blk b1 (.cells [Value.int .i64 (fr : Int), .int .i64 fm, .slice wa wn wc, .slice oa on oc].toArray 48 (0, 0)) :: F) ((0, X)) (⟨by simp only; omega, by simp only; omega, hXl, hXU⟩) (.cons rfl .nil) ((fun w hw => SPI.holds hw)) ?_
  rintro ⟨i, W⟩ ⟨i0, i1, hWl, hWU⟩ ih
  dsimp only [List.cons_append, List.nil_append] at ih ⊢
  simp only at i0 i1 hWl hWU
  refine g_seq ?_
  refine g_seq ?_
  refine g_region ?_
  refine l_move rfl rfl ?_
  refine l_fieldAddr rfl fa_48_3 rfl ?_
  refine l_ld rfl Try.isAgg46 rfl rfl ?_
  refine l_len rfl Try.underlying46 rfl ?_
  refine l_lss rfl rfl rfl ?_
  refine l_nil ?_
  refine g_cond rfl ?_ ?_
  · intro hbr
    have hbr := of_decide_eq_true hbr
    refine g_skip ?_
    refine g_seq ?_
    refine g_block ?_
    refine g_seq ?_
    refine g_region ?_
    refine l_fieldAddr rfl fa_48_3 rfl ?_
    refine l_ld rfl Try.isAgg46 rfl rfl ?_
    refine l_move rfl rfl ?_
    obtain ⟨b9, q9, rfl, hr9⟩ := hs.resolve_left (show ¬ on = 0 by omega)
    obtain ⟨⟨kd, at_, wd, dp, ap, np, cp, P, am, nm, cm, M⟩, hrow, o1, o2, o3, o4, o5, o6, o7, o8⟩ := op_at hok (show i.toNat < L.length by omega)
    simp only at o1 o2 o3 o4 o5 o6 o7 o8
    refine l_ixs rfl Try.underlying46 Try.sizeOf54 rfl rfl (by omega) (by omega) ?_
    refine l_loadr (l := [Value.int .i64 kd, .int .i64 at_, .int .i64 wd, .int .i64 dp, .slice ap np cp, .slice am nm cm]) rfl Try.isAgg54 Try.sizeOf54 rfl rfl (row_elem hr9.ex (opV_len L) hrow) ?_
    refine l_allocs rfl Try.zeroValue54 ?_; intro b6
    refine l_sts Try.sizeOf54 rfl rfl rfl rfl rfl ?_
    refine l_nil ?_
    refine g_seq ?_
    refine g_seq ?_
    refine g_join0 (X := Nat × Nat) [(1, _), (3, _), (5, _), (6, _), (29, _), (30, _), (31, _), (32, _), (33, _), (36, _), (37, _), (38, _), (39, _), (40, _)] (.cons rfl (.cons rfl (.cons rfl (.cons rfl (.cons rfl (.cons rfl (.cons rfl (.cons rfl (.cons rfl (.cons rfl (.cons rfl (.cons rfl (.cons rfl (.cons rfl (.nil))))))))))))))) (fun z => 1 ≤ z.1 ∧ z.1 ≤ 16 ∧ 1 ≤ z.2 ∧ z.2 ≤ 8) (fun z => []) (fun z => Blk b6 (.cells [Value.int .i64 kd, .int .i64 at_, .int .i64 (z.1 : Int), .int .i64 (z.2 : Int), .slice ap np cp, .slice am nm cm].toArray 54 (0, 0)) :: Blk b (.cells [Value.slice (some ⟨g, 0, none⟩) n c].toArray 76 (0, 0)) :: Own 33 1 (.slice (some ⟨g, 0, none⟩) n c) n (ints .u32 W) :: Blk b1 (.cells [Value.int .i64 (fr : Int), .int .i64 fm, .slice wa wn wc, .slice (some ⟨b9, q9, none⟩) on oc].toArray 48 (0, 0)) :: F) ?_ ?_
    · rintro ⟨wq, dq⟩ ⟨q1, q2, q3, q4⟩
      dsimp only [List.cons_append, List.nil_append]
      simp only at q1 q2 q3 q4
      have hpw := pw_bd q1 q2 q3 q4
      refine g_seq ?_
      refine g_region ?_
      refine l_fieldAddr rfl fa_54_1 rfl ?_
      first | refine l_ld rfl Try.isAgg3 rfl rfl ?_ | refine l_ldw rfl Try.isAgg3 rfl (by omega) ?_
      refine l_assign rfl rfl ?_
      refine l_nil ?_
      refine g_seq ?_
      refine g_region ?_
      refine l_fieldAddr rfl fa_54_1 rfl ?_
      first | refine l_ld rfl Try.isAgg3 rfl rfl ?_ | refine l_ldw rfl Try.isAgg3 rfl (by omega) ?_
      first | refine l_add rfl rfl rfl (w_i64 (by omega) (by omega)) ?_ | refine l_addw rfl rfl rfl ?_
      refine l_fieldAddr rfl fa_54_3 rfl ?_
      first | refine l_ld rfl Try.isAgg3 rfl rfl ?_ | refine l_ldw rfl Try.isAgg3 rfl (by omega) ?_
      refine l_fieldAddr rfl fa_54_2 rfl ?_
      first | refine l_ld rfl Try.isAgg3 rfl rfl ?_ | refine l_ldw rfl Try.isAgg3 rfl (by omega) ?_
      first | refine l_add rfl rfl rfl (w_i64 (by omega) (by omega)) ?_ | refine l_addw rfl rfl rfl ?_
      refine l_mul rfl rfl rfl (w_i64 (by rw [mul_nat]; omega) (by rw [mul_nat]; omega)) ?_
      first | refine l_add rfl rfl rfl (w_i64 (by omega) (by omega)) ?_ | refine l_addw rfl rfl rfl ?_
      refine l_assign rfl rfl ?_
      refine l_nil ?_
      refine g_seq ?_
      refine g_region ?_
      refine l_move rfl rfl ?_
      refine l_fronto g ?_
      refine l_frontb b ?_
      refine l_call rfl Try.call21 rfl (words_ok _ _ b g n c W hWl hc (by omega)) ?_; rintro _ _ ⟨ga, ca, rfl, hca, rfl⟩
      refine l_assign rfl rfl ?_
      refine l_nil ?_
      refine g_seq ?_
      refine g_region ?_
      refine l_assign rfl rfl ?_
      refine l_nil ?_
      refine g_seq ?_
      refine g_seq ?_
      refine g_join0 (X := Bool × Int × List Int) [(1, _), (3, _), (5, _), (6, _), (7, _), (9, _), (29, _), (30, _), (31, _), (32, _), (33, _), (36, _), (37, _), (38, _), (39, _), (40, _), (61, _), (62, _), (63, _), (64, _), (65, _), (66, _), (67, _), (68, _), (69, _), (70, _), (71, _), (72, _), (73, _), (74, _)] (.cons rfl (.cons rfl (.cons rfl (.cons rfl (.cons rfl (.cons rfl (.cons rfl (.cons rfl (.cons rfl (.cons rfl (.cons rfl (.cons rfl (.cons rfl (.cons rfl (.cons rfl (.cons rfl (.cons rfl (.cons rfl (.cons rfl (.cons rfl (.cons rfl (.cons rfl (.cons rfl (.cons rfl (.cons rfl (.cons rfl (.cons rfl (.cons rfl (.cons rfl (.cons rfl (.nil))))))))))))))))))))))))))))))) (fun z => ChgQ n W z.2.2 at_ z.2.1 z.1 ∧ z.2.2.length = n ∧ W32s z.2.2) (fun z => [(8, .int .i64 z.2.1), (10, .bool z.1)]) (fun z => Own 33 1 (.slice (some ⟨ga, 0, none⟩) n ca) n (ints .u32 W) :: Blk b (.cells [Value.slice (some ⟨g, 0, none⟩) n c].toArray 76 (0, 0)) :: Own 33 1 (.slice (some ⟨g, 0, none⟩) n c) n (ints .u32 z.2.2) :: Blk b1 (.cells [Value.int .i64 (fr : Int), .int .i64 fm, .slice wa wn wc, .slice (some ⟨b9, q9, none⟩) on oc].toArray 48 (0, 0)) :: F) ?_ ?_
      · rintro ⟨ok, to, W2⟩ ⟨hF, hWl2, hWU2⟩
        dsimp only [List.cons_append, List.nil_append]
        simp only at hF hWl2 hWU2
        refine g_seq ?_
        refine g_region ?_
        refine l_move rfl rfl ?_
        refine l_fronto g ?_
        refine l_frontb b ?_
        refine l_call rfl Try.call21 rfl (words_ok _ _ b g n c W2 hWl2 hc (by omega)) ?_; rintro _ _ ⟨gb, cb, rfl, hcb, rfl⟩
        refine l_assign rfl rfl ?_
        refine l_nil ?_
        refine g_seq ?_
        refine g_seq ?_
        refine g_region ?_
        refine l_move rfl rfl ?_
        refine l_len rfl Try.underlying29 rfl ?_
        refine l_move rfl rfl ?_
        refine l_len rfl Try.underlying29 rfl ?_
        refine l_neq rfl rfl rfl ?_
        refine l_nil ?_
        refine g_cond rfl ?_ ?_
        · intro hbr
          have hbr := of_decide_eq_true hbr
          (exfalso; first | omega | (obtain ⟨i9, h1, h2⟩ := hF.2 hb181; have h3 := hz i9 (by omega) h2; simp [h3] at hbr; done) | (cases h9a; done) | (simp [h9a] at hbr; done) | (simp at hbr; omega))
        intro hbr
        have hbr := of_decide_eq_false hbr
        refine g_skip ?_
        refine g_seq ?_
        refine g_region ?_
        refine l_assign rfl rfl ?_
        refine l_nil ?_
        refine g_seq ?_
        refine g_seq ?_
        refine g_region ?_
        refine l_assign rfl rfl ?_
        refine l_nil ?_
        refine g_block ?_
        refine g_loopk (X := Int × Bool) [(1, _), (3, _), (5, _), (6, _), (7, _), (8, _), (9, _), (10, _), (15, _), (29, _), (30, _), (31, _), (32, _), (33, _), (36, _), (37, _), (38, _), (39, _), (40, _), (61, _), (62, _), (63, _), (64, _), (65, _), (66, _), (67, _), (68, _), (69, _), (70, _), (71, _), (72, _), (73, _), (74, _), (146, _), (147, _), (148, _), (149, _), (150, _), (151, _), (152, _)] (.cons rfl (.cons rfl (.cons rfl (.cons rfl (.cons rfl (.cons rfl (.cons rfl (.cons rfl (.cons rfl (.cons rfl (.cons rfl (.cons rfl (.cons rfl (.cons rfl (.cons rfl (.cons rfl (.cons rfl (.cons rfl (.cons rfl (.cons rfl (.cons rfl (.cons rfl (.cons rfl (.cons rfl (.cons rfl (.cons rfl (.cons rfl (.cons rfl (.cons rfl (.cons rfl (.cons rfl (.cons rfl (.cons rfl (.cons rfl (.cons rfl (.cons rfl (.cons rfl (.cons rfl (.cons rfl (.cons rfl (.nil))))))))))))))))))))))))))))))))))))))))) (fun z => 0 ≤ z.1 ∧ z.1 ≤ n ∧ ∀ j : Nat, j < z.1 → W2.getD j 0 ≠ W.getD j 0 → z.2 = true) (fun z => ((n : Int) - z.1).toNat) (fun z => [(16, .bool z.2), (17, .int .i64 z.1)]) (fun z => Own 33 1 (.slice (some ⟨gb, 0, none⟩) n cb) n (ints .u32 W2) :: Own 33 1 (.slice (some ⟨ga, 0, none⟩) n ca) n (ints .u32 W) :: Blk b (.cells [Value.slice (some ⟨g, 0, none⟩) n c].toArray 76 (0, 0)) :: Own 33 1 (.slice (some ⟨g, 0, none⟩) n c) n (ints .u32 W2) :: Blk b1 (.cells [Value.int .i64 (fr : Int), .int .i64 fm, .slice wa wn wc, .slice (some ⟨b9, q9, none⟩) on oc].toArray 48 (0, 0)) :: F) ((0, false)) (⟨by simp only; omega, by simp only; omega, fun j hj => by simp only at hj; omega⟩) (.cons rfl (.cons rfl .nil)) ((fun w hw => SPI.holds hw)) ?_
        rintro ⟨k, ch⟩ ⟨k0, k1, hz⟩ ihk
        dsimp only [List.cons_append, List.nil_append] at ihk ⊢
        simp only at k0 k1 hz
        refine g_seq ?_
        refine g_seq ?_
        refine g_region ?_
        refine l_move rfl rfl ?_
        refine l_move rfl rfl ?_
        refine l_len rfl Try.underlying29 rfl ?_
        refine l_lss rfl rfl rfl ?_
        refine l_nil ?_
        refine g_cond rfl ?_ ?_
        · intro hbr
          have hbr := of_decide_eq_true hbr
          refine g_skip ?_
          refine g_seq ?_
          refine g_block ?_
          refine g_seq ?_
          refine g_seq ?_
          refine gp_start mo (by kernel_rfl) (by kernel_rfl) ?_
          refine gp_quiet 0 rfl rfl rfl rfl rfl rfl (q_move rfl) ?_
          refine gp_quiet 1 rfl rfl rfl rfl rfl rfl (q_move rfl) ?_
          refine gp_quiet 2 rfl rfl rfl rfl rfl rfl (q_ixs Try.underlying29 Try.sizeOf33 rfl rfl (by omega) (by omega)) ?_
          first | refine gp_quiet 3 rfl rfl rfl rfl rfl rfl (q_ld Try.isAgg33 rfl rfl) ?_ | refine gp_quiet 3 rfl rfl rfl rfl rfl rfl (q_ldw Try.isAgg33 rfl (by omega)) ?_
          refine gp_quiet 4 rfl rfl rfl rfl rfl rfl (q_move rfl) ?_
          refine gp_quiet 5 rfl rfl rfl rfl rfl rfl (q_move rfl) ?_
          refine gp_quiet 6 rfl rfl rfl rfl rfl rfl (q_ixs Try.underlying29 Try.sizeOf33 rfl rfl (by omega) (by omega)) ?_
          first | refine gp_quiet 7 rfl rfl rfl rfl rfl rfl (q_ld Try.isAgg33 rfl rfl) ?_ | refine gp_quiet 7 rfl rfl rfl rfl rfl rfl (q_ldw Try.isAgg33 rfl (by omega)) ?_
          refine gp_quiet 8 rfl rfl rfl rfl rfl rfl (q_eql rfl rfl) ?_
          refine gp_end rfl rfl ?_
          refine g_cond rfl ?_ ?_
          · intro hbr
            have hbr := of_decide_eq_true hbr
            refine g_exit rfl ?_
            refine g_region ?_
            refine l_move rfl rfl ?_
            first | refine l_add rfl rfl rfl (w_i64 (by omega) (by omega)) ?_ | refine l_addw rfl rfl rfl ?_
            refine l_assign rfl rfl ?_
            refine l_nil ?_
            (first | exact g_againi (ihk (k + 1, ch) ⟨by simp only; omega, by simp only; omega, fun j hj h9 => by rcases (show (j : Int) < k ∨ j = k.toNat from (by (simp only at hj); omega)) with h | rfl; (exact hz j h h9); exact absurd hbr.symm h9⟩ (by simp only; omega)) (.cons rfl (.cons rfl (.cons rfl (.cons rfl (.cons rfl (.cons rfl (.cons rfl (.cons rfl (.cons rfl (.cons rfl (.cons rfl (.cons rfl (.cons rfl (.cons rfl (.cons rfl (.cons rfl (.cons rfl (.cons rfl (.cons rfl (.cons rfl (.cons rfl (.cons rfl (.cons rfl (.cons rfl (.cons rfl (.cons rfl (.cons rfl (.cons rfl (.cons rfl (.cons rfl (.cons rfl (.cons rfl (.cons rfl (.cons rfl (.cons rfl (.cons rfl (.cons rfl (.cons rfl (.cons rfl (.cons rfl (.cons rfl (.cons rfl (.nil))))))))))))))))))))))))))))))))))))))))))) | exact g_againi (ihk (k + 1, true) ⟨by simp only; omega, by simp only; omega, fun j hj h9 => rfl⟩ (by simp only; omega)) (.cons rfl (.cons rfl (.cons rfl (.cons rfl (.cons rfl (.cons rfl (.cons rfl (.cons rfl (.cons rfl (.cons rfl (.cons rfl (.cons rfl (.cons rfl (.cons rfl (.cons rfl (.cons rfl (.cons rfl (.cons rfl (.cons rfl (.cons rfl (.cons rfl (.cons rfl (.cons rfl (.cons rfl (.cons rfl (.cons rfl (.cons rfl (.cons rfl (.cons rfl (.cons rfl (.cons rfl (.cons rfl (.cons rfl (.cons rfl (.cons rfl (.cons rfl (.cons rfl (.cons rfl (.cons rfl (.cons rfl (.cons rfl (.cons rfl (.nil))))))))))))))))))))))))))))))))))))))))))))
          intro hbr
          have hbr := of_decide_eq_false hbr
          refine g_skip ?_
          refine g_seq ?_
          refine g_region ?_
          have h9 := hF.1 k.toNat (by omega) (fun h => hbr h.symm)
          have h9a := h9.1
          have h9b := h9.2.1
          have h9c := h9.2.2
          refine l_assign rfl rfl ?_
          refine l_nil ?_
          refine g_seq ?_
          refine g_region ?_
          refine l_move rfl rfl ?_
          refine l_not rfl rfl ?_
          refine l_move rfl rfl ?_
          refine l_split 170 rfl ?_ ?_
          · intro hbr
            first | (exfalso; simp at hbr; done) | (exfalso; simp at hbr; omega) | (exfalso; first | omega | (obtain ⟨i9, h1, h2⟩ := hF.2 hb181; have h3 := hz i9 (by omega) h2; simp [h3] at hbr; done) | (cases h9a; done) | (simp [h9a] at hbr; done) | (simp at hbr; omega))
          intro hbr
          have hb170 := hbr
          refine l_guard_yes rfl rfl ?_
          refine l_move rfl rfl ?_
          refine l_guard_yes rfl rfl ?_
          refine l_move rfl rfl ?_
          refine l_guard_yes rfl rfl ?_
          refine l_lss rfl rfl rfl ?_
          refine l_pick_f rfl rfl rfl ?_
          refine l_move rfl rfl ?_
          refine l_split 175 rfl ?_ ?_
          · intro hbr
            have hbr := of_decide_eq_true hbr
            (exfalso; first | omega | (obtain ⟨i9, h1, h2⟩ := hF.2 hb181; have h3 := hz i9 (by omega) h2; simp [h3] at hbr; done) | (cases h9a; done) | (simp [h9a] at hbr; done) | (simp at hbr; omega))
          intro hbr
          have hbr := of_decide_eq_false hbr
          refine l_guard_yes rfl rfl ?_
          refine l_move rfl rfl ?_
          refine l_guard_yes rfl rfl ?_
          refine l_move rfl rfl ?_
          refine l_guard_yes rfl rfl ?_
          refine l_geq rfl rfl rfl ?_
          refine l_pick_f rfl rfl rfl ?_
          refine l_nil ?_
          refine g_cond rfl ?_ ?_
          · intro hbr
            have hbr := of_decide_eq_true hbr
            (exfalso; first | omega | (obtain ⟨i9, h1, h2⟩ := hF.2 hb181; have h3 := hz i9 (by omega) h2; simp [h3] at hbr; done) | (cases h9a; done) | (simp [h9a] at hbr; done) | (simp at hbr; omega))
          intro hbr
          have hbr := of_decide_eq_false hbr
          refine g_skip ?_
          refine g_inBlock ?_
          refine g_region ?_
          refine l_move rfl rfl ?_
          first | refine l_add rfl rfl rfl (w_i64 (by omega) (by omega)) ?_ | refine l_addw rfl rfl rfl ?_
          refine l_assign rfl rfl ?_
          refine l_nil ?_
          (first | exact g_againi (ihk (k + 1, ch) ⟨by simp only; omega, by simp only; omega, fun j hj h9 => by rcases (show (j : Int) < k ∨ j = k.toNat from (by (simp only at hj); omega)) with h | rfl; (exact hz j h h9); exact absurd hbr.symm h9⟩ (by simp only; omega)) (.cons rfl (.cons rfl (.cons rfl (.cons rfl (.cons rfl (.cons rfl (.cons rfl (.cons rfl (.cons rfl (.cons rfl (.cons rfl (.cons rfl (.cons rfl (.cons rfl (.cons rfl (.cons rfl (.cons rfl (.cons rfl (.cons rfl (.cons rfl (.cons rfl (.cons rfl (.cons rfl (.cons rfl (.cons rfl (.cons rfl (.cons rfl (.cons rfl (.cons rfl (.cons rfl (.cons rfl (.cons rfl (.cons rfl (.cons rfl (.cons rfl (.cons rfl (.cons rfl (.cons rfl (.cons rfl (.cons rfl (.cons rfl (.cons rfl (.nil))))))))))))))))))))))))))))))))))))))))))) | exact g_againi (ihk (k + 1, true) ⟨by simp only; omega, by simp only; omega, fun j hj h9 => rfl⟩ (by simp only; omega)) (.cons rfl (.cons rfl (.cons rfl (.cons rfl (.cons rfl (.cons rfl (.cons rfl (.cons rfl (.cons rfl (.cons rfl (.cons rfl (.cons rfl (.cons rfl (.cons rfl (.cons rfl (.cons rfl (.cons rfl (.cons rfl (.cons rfl (.cons rfl (.cons rfl (.cons rfl (.cons rfl (.cons rfl (.cons rfl (.cons rfl (.cons rfl (.cons rfl (.cons rfl (.cons rfl (.cons rfl (.cons rfl (.cons rfl (.cons rfl (.cons rfl (.cons rfl (.cons rfl (.cons rfl (.cons rfl (.cons rfl (.cons rfl (.cons rfl (.nil))))))))))))))))))))))))))))))))))))))))))))
        intro hbr
        have hbr := of_decide_eq_false hbr
        refine g_exit rfl ?_
        obtain rfl : k = n := by omega
        refine g_seq ?_
        refine g_region ?_
        refine l_move rfl rfl ?_
        refine l_move rfl rfl ?_
        refine l_split 181 rfl ?_ ?_
        · intro hbr
          have hb181 := hbr
          refine l_guard_yes rfl rfl ?_
          refine l_move rfl rfl ?_
          refine l_guard_yes rfl rfl ?_
          refine l_not rfl rfl ?_
          refine l_pick_t rfl rfl rfl ?_
          refine l_nil ?_
          refine g_cond rfl ?_ ?_
          · intro hbr
            first | (exfalso; simp at hbr; done) | (exfalso; simp at hbr; omega) | (exfalso; first | omega | (obtain ⟨i9, h1, h2⟩ := hF.2 hb181; have h3 := hz i9 (by omega) h2; simp [h3] at hbr; done) | (cases h9a; done) | (simp [h9a] at hbr; done) | (simp at hbr; omega))
          intro hbr
          have hb184 := hbr
          refine g_skip ?_
          refine g_inBlock ?_
          refine g_region ?_
          refine l_move rfl rfl ?_
          first | refine l_add rfl rfl rfl (w_i64 (by omega) (by omega)) ?_ | refine l_addw rfl rfl rfl ?_
          refine l_assign rfl rfl ?_
          refine l_nil ?_
          exact g_againi (ih (i + 1, W2) ⟨by simp only; omega, by simp only; omega, hWl2, hWU2⟩ (by simp only; omega)) (.cons rfl (.cons rfl (.cons rfl (.nil))))
        intro hbr
        have hb181 := hbr
        refine l_guard_no rfl rfl rfl ?_
        refine l_guard_no rfl rfl rfl ?_
        refine l_pick_f rfl rfl rfl ?_
        refine l_nil ?_
        refine g_cond_f rfl ?_
        refine g_skip ?_
        refine g_inBlock ?_
        refine g_region ?_
        refine l_move rfl rfl ?_
        first | refine l_add rfl rfl rfl (w_i64 (by omega) (by omega)) ?_ | refine l_addw rfl rfl rfl ?_
        refine l_assign rfl rfl ?_
        refine l_nil ?_
        exact g_againi (ih (i + 1, W2) ⟨by simp only; omega, by simp only; omega, hWl2, hWU2⟩ (by simp only; omega)) (.cons rfl (.cons rfl (.cons rfl (.nil))))
      intro joinK
      dsimp only [List.cons_append, List.nil_append] at joinK
      refine g_region ?_
      refine l_fieldAddr rfl fa_54_0 rfl ?_
      first | refine l_ld rfl Try.isAgg3 rfl rfl ?_ | refine l_ldw rfl Try.isAgg3 rfl (by omega) ?_
      refine l_nil ?_
      refine g_block ?_
      refine g_seq ?_
      refine g_region ?_
      refine l_eql rfl rfl rfl ?_
      refine l_assign rfl rfl ?_
      refine l_nil ?_
      refine g_cond rfl ?_ ?_
      · intro hbr
        have hbr := of_decide_eq_true hbr
        refine g_seq ?_
        refine gp_start mo (by kernel_rfl) (by kernel_rfl) ?_
        refine gp_quiet 0 rfl rfl rfl rfl rfl rfl (q_move rfl) ?_
        refine gp_quiet 1 rfl rfl rfl rfl rfl rfl (q_fieldAddr fa_54_1 rfl) ?_
        first | refine gp_quiet 2 rfl rfl rfl rfl rfl rfl (q_ld Try.isAgg3 rfl rfl) ?_ | refine gp_quiet 2 rfl rfl rfl rfl rfl rfl (q_ldw Try.isAgg3 rfl (by omega)) ?_
        refine gp_quiet 3 rfl rfl rfl rfl rfl rfl (q_fieldAddr fa_54_2 rfl) ?_
        first | refine gp_quiet 4 rfl rfl rfl rfl rfl rfl (q_ld Try.isAgg3 rfl rfl) ?_ | refine gp_quiet 4 rfl rfl rfl rfl rfl rfl (q_ldw Try.isAgg3 rfl (by omega)) ?_
        refine gp_quiet 5 rfl rfl rfl rfl rfl rfl (q_fieldAddr fa_54_3 rfl) ?_
        first | refine gp_quiet 6 rfl rfl rfl rfl rfl rfl (q_ld Try.isAgg3 rfl rfl) ?_ | refine gp_quiet 6 rfl rfl rfl rfl rfl rfl (q_ldw Try.isAgg3 rfl (by omega)) ?_
        refine gp_quiet 7 rfl rfl rfl rfl rfl rfl (q_fieldAddr fa_54_5 rfl) ?_
        refine gp_quiet 8 rfl rfl rfl rfl rfl rfl (q_ld Try.isAgg29 rfl rfl) ?_
        refine gp_effa 9 [8] [7, 6, 5, 4, 3, 2, 1, 0] rfl rfl rfl rfl rfl rfl rfl (does_call Try.call14 rfl (copy_words _ _ am nm cm M o4.1.ex (by omega) o4.2.1)) ?_
        rintro _ _ ⟨gw, rfl, rfl⟩
        refine ⟨?_, ?_⟩
        · refine .cons rfl rfl rfl rfl rfl (q_fieldAddr fa_54_5 rfl) ?_
          first | refine .cons rfl rfl rfl rfl rfl (q_ld Try.isAgg3 rfl rfl) ?_ | refine .cons rfl rfl rfl rfl rfl (q_ldw Try.isAgg3 rfl (by omega)) ?_
          refine .cons rfl rfl rfl rfl rfl (q_fieldAddr fa_54_3 rfl) ?_
          first | refine .cons rfl rfl rfl rfl rfl (q_ld Try.isAgg3 rfl rfl) ?_ | refine .cons rfl rfl rfl rfl rfl (q_ldw Try.isAgg3 rfl (by omega)) ?_
          refine .cons rfl rfl rfl rfl rfl (q_fieldAddr fa_54_2 rfl) ?_
          first | refine .cons rfl rfl rfl rfl rfl (q_ld Try.isAgg3 rfl rfl) ?_ | refine .cons rfl rfl rfl rfl rfl (q_ldw Try.isAgg3 rfl (by omega)) ?_
          refine .cons rfl rfl rfl rfl rfl (q_fieldAddr fa_54_1 rfl) ?_
          refine .cons rfl rfl rfl rfl rfl (q_move rfl) ?_
          exact .nil
        refine gp_fronto g ?_
        refine gp_frontb b ?_
        refine gp_effa 10 [0, 2, 4, 6] [7, 5, 3, 1] rfl rfl rfl rfl rfl rfl rfl (does_call Try.call7 rfl (put_all _ _ wq dq (by omega) (by omega) (by omega) (by omega) b g n c W hWl hc (by omega) hWU at_ o1.1 o1.2 (some ⟨gw, 0, none⟩) nm nm M (IR.own o4.1.1 (mem_getO 0 rfl) (.inr ⟨_, rfl⟩)) o4.2.1 (by omega))) ?_
        rintro _ _ ⟨ok, e, W2, rfl, rfl, hOp, hoe⟩
        have hWl2 := hOp.1
        have hWU2 := hOp.2.1
        refine ⟨?_, ?_⟩
        · refine .cons rfl rfl rfl rfl rfl (q_fieldAddr fa_54_5 rfl) ?_
          refine .cons rfl rfl rfl rfl rfl (q_fieldAddr fa_54_3 rfl) ?_
          refine .cons rfl rfl rfl rfl rfl (q_fieldAddr fa_54_2 rfl) ?_
          refine .cons rfl rfl rfl rfl rfl (q_fieldAddr fa_54_1 rfl) ?_
          exact .nil
        refine gp_quiet 11 rfl rfl rfl rfl rfl rfl (q_move rfl) ?_
        refine gp_quiet 12 rfl rfl rfl rfl rfl rfl (q_extract rfl rfl) ?_
        refine gp_quiet 13 rfl rfl rfl rfl rfl rfl (q_extract rfl rfl) ?_
        refine gp_quiet 14 rfl rfl rfl rfl rfl rfl (q_assign rfl) ?_
        refine gp_quiet 15 rfl rfl rfl rfl rfl rfl (q_assign rfl) ?_
        refine gp_end rfl rfl ?_
        refine g_seq ?_
        refine g_region ?_
        refine l_move rfl rfl ?_
        refine l_move rfl rfl ?_
        refine l_split 102 rfl ?_ ?_
        · intro hbr
          have hb102 := hbr
          refine l_guard_yes rfl rfl ?_
          refine l_move rfl rfl ?_
          refine l_guard_yes rfl rfl ?_
          refine l_eql rfl rfl rfl ?_
          refine l_pick_t rfl rfl rfl ?_
          refine l_assign rfl rfl ?_
          refine l_nil ?_
          refine g_region ?_
          refine l_move rfl rfl ?_
          first | refine l_sub_ rfl rfl rfl (w_i64 (by omega) (by omega)) ?_ | refine l_subw rfl rfl rfl ?_
          refine l_assign rfl rfl ?_
          refine l_nil ?_
          refine g_inBlock ?_
          (first
          | ((have h1 : ok = true := hb102); (obtain rfl : e = 0 := hoe h1); subst h1; exact g_againi (joinK (true, IntKind.i64.wrap (IntKind.i64.wrap (IntKind.i64.wrap (at_ + 3) + (dq : Int) * (1 + (wq : Int))) - 2), W2) ⟨chg_put hOp (mul_nat _ _) (by omega) (by omega), hWl2, hWU2⟩) (.cons rfl (.cons rfl (.cons rfl (.cons rfl (.cons rfl (.cons rfl (.cons rfl (.cons rfl (.cons rfl (.cons rfl (.cons rfl (.cons rfl (.cons rfl (.cons rfl (.cons rfl (.cons rfl (.cons rfl (.cons rfl (.cons rfl (.cons rfl (.cons rfl (.cons rfl (.cons rfl (.cons rfl (.cons rfl (.cons rfl (.cons rfl (.cons rfl (.cons rfl (.cons rfl (.cons rfl (.cons rfl (.nil))))))))))))))))))))))))))))))))))
          | ((have h1 : ok = false := hb102); subst h1; exact g_againi (joinK (false, IntKind.i64.wrap (IntKind.i64.wrap (IntKind.i64.wrap (at_ + 3) + (dq : Int) * (1 + (wq : Int))) - 2), W2) ⟨chg_put hOp (mul_nat _ _) (by omega) (by omega), hWl2, hWU2⟩) (.cons rfl (.cons rfl (.cons rfl (.cons rfl (.cons rfl (.cons rfl (.cons rfl (.cons rfl (.cons rfl (.cons rfl (.cons rfl (.cons rfl (.cons rfl (.cons rfl (.cons rfl (.cons rfl (.cons rfl (.cons rfl (.cons rfl (.cons rfl (.cons rfl (.cons rfl (.cons rfl (.cons rfl (.cons rfl (.cons rfl (.cons rfl (.cons rfl (.cons rfl (.cons rfl (.cons rfl (.cons rfl (.nil))))))))))))))))))))))))))))))))))
          | ((have h1 : ok = true := hb122); (obtain rfl : e = 0 := hoe h1); subst h1; exact g_againi (joinK (true, IntKind.i64.wrap (IntKind.i64.wrap (at_ + 3) + (dq : Int) * (1 + (wq : Int))), W2) ⟨chg_take hOt (mul_nat _ _) (by omega) (by omega), hWl2, hWU2⟩) (.cons rfl (.cons rfl (.cons rfl (.cons rfl (.cons rfl (.cons rfl (.cons rfl (.cons rfl (.cons rfl (.cons rfl (.cons rfl (.cons rfl (.cons rfl (.cons rfl (.cons rfl (.cons rfl (.cons rfl (.cons rfl (.cons rfl (.cons rfl (.cons rfl (.cons rfl (.cons rfl (.cons rfl (.cons rfl (.cons rfl (.cons rfl (.cons rfl (.cons rfl (.cons rfl (.cons rfl (.cons rfl (.nil))))))))))))))))))))))))))))))))))
          | ((have h1 : ok = false := hb122); subst h1; exact g_againi (joinK (false, IntKind.i64.wrap (IntKind.i64.wrap (at_ + 3) + (dq : Int) * (1 + (wq : Int))), W2) ⟨chg_take hOt (mul_nat _ _) (by omega) (by omega), hWl2, hWU2⟩) (.cons rfl (.cons rfl (.cons rfl (.cons rfl (.cons rfl (.cons rfl (.cons rfl (.cons rfl (.cons rfl (.cons rfl (.cons rfl (.cons rfl (.cons rfl (.cons rfl (.cons rfl (.cons rfl (.cons rfl (.cons rfl (.cons rfl (.cons rfl (.cons rfl (.cons rfl (.cons rfl (.cons rfl (.cons rfl (.cons rfl (.cons rfl (.cons rfl (.cons rfl (.cons rfl (.cons rfl (.cons rfl (.nil))))))))))))))))))))))))))))))))))
          | exact g_againi (joinK (false, IntKind.i64.wrap (IntKind.i64.wrap (at_ + 3) + (dq : Int) * (1 + (wq : Int))), W2) ⟨chg_none hO, hWl2, hWU2⟩) (.cons rfl (.cons rfl (.cons rfl (.cons rfl (.cons rfl (.cons rfl (.cons rfl (.cons rfl (.cons rfl (.cons rfl (.cons rfl (.cons rfl (.cons rfl (.cons rfl (.cons rfl (.cons rfl (.cons rfl (.cons rfl (.cons rfl (.cons rfl (.cons rfl (.cons rfl (.cons rfl (.cons rfl (.cons rfl (.cons rfl (.cons rfl (.cons rfl (.cons rfl (.cons rfl (.cons rfl (.cons rfl (.nil))))))))))))))))))))))))))))))))))
        intro hbr
        have hb102 := hbr
        refine l_guard_no rfl rfl rfl ?_
        refine l_guard_no rfl rfl rfl ?_
        refine l_pick_f rfl rfl rfl ?_
        refine l_assign rfl rfl ?_
        refine l_nil ?_
        refine g_region ?_
        refine l_move rfl rfl ?_
        first | refine l_sub_ rfl rfl rfl (w_i64 (by omega) (by omega)) ?_ | refine l_subw rfl rfl rfl ?_
        refine l_assign rfl rfl ?_
        refine l_nil ?_
        refine g_inBlock ?_
        (first
        | ((have h1 : ok = true := hb102); (obtain rfl : e = 0 := hoe h1); subst h1; exact g_againi (joinK (true, IntKind.i64.wrap (IntKind.i64.wrap (IntKind.i64.wrap (at_ + 3) + (dq : Int) * (1 + (wq : Int))) - 2), W2) ⟨chg_put hOp (mul_nat _ _) (by omega) (by omega), hWl2, hWU2⟩) (.cons rfl (.cons rfl (.cons rfl (.cons rfl (.cons rfl (.cons rfl (.cons rfl (.cons rfl (.cons rfl (.cons rfl (.cons rfl (.cons rfl (.cons rfl (.cons rfl (.cons rfl (.cons rfl (.cons rfl (.cons rfl (.cons rfl (.cons rfl (.cons rfl (.cons rfl (.cons rfl (.cons rfl (.cons rfl (.cons rfl (.cons rfl (.cons rfl (.cons rfl (.cons rfl (.cons rfl (.cons rfl (.nil))))))))))))))))))))))))))))))))))
        | ((have h1 : ok = false := hb102); subst h1; exact g_againi (joinK (false, IntKind.i64.wrap (IntKind.i64.wrap (IntKind.i64.wrap (at_ + 3) + (dq : Int) * (1 + (wq : Int))) - 2), W2) ⟨chg_put hOp (mul_nat _ _) (by omega) (by omega), hWl2, hWU2⟩) (.cons rfl (.cons rfl (.cons rfl (.cons rfl (.cons rfl (.cons rfl (.cons rfl (.cons rfl (.cons rfl (.cons rfl (.cons rfl (.cons rfl (.cons rfl (.cons rfl (.cons rfl (.cons rfl (.cons rfl (.cons rfl (.cons rfl (.cons rfl (.cons rfl (.cons rfl (.cons rfl (.cons rfl (.cons rfl (.cons rfl (.cons rfl (.cons rfl (.cons rfl (.cons rfl (.cons rfl (.cons rfl (.nil))))))))))))))))))))))))))))))))))
        | ((have h1 : ok = true := hb122); (obtain rfl : e = 0 := hoe h1); subst h1; exact g_againi (joinK (true, IntKind.i64.wrap (IntKind.i64.wrap (at_ + 3) + (dq : Int) * (1 + (wq : Int))), W2) ⟨chg_take hOt (mul_nat _ _) (by omega) (by omega), hWl2, hWU2⟩) (.cons rfl (.cons rfl (.cons rfl (.cons rfl (.cons rfl (.cons rfl (.cons rfl (.cons rfl (.cons rfl (.cons rfl (.cons rfl (.cons rfl (.cons rfl (.cons rfl (.cons rfl (.cons rfl (.cons rfl (.cons rfl (.cons rfl (.cons rfl (.cons rfl (.cons rfl (.cons rfl (.cons rfl (.cons rfl (.cons rfl (.cons rfl (.cons rfl (.cons rfl (.cons rfl (.cons rfl (.cons rfl (.nil))))))))))))))))))))))))))))))))))
        | ((have h1 : ok = false := hb122); subst h1; exact g_againi (joinK (false, IntKind.i64.wrap (IntKind.i64.wrap (at_ + 3) + (dq : Int) * (1 + (wq : Int))), W2) ⟨chg_take hOt (mul_nat _ _) (by omega) (by omega), hWl2, hWU2⟩) (.cons rfl (.cons rfl (.cons rfl (.cons rfl (.cons rfl (.cons rfl (.cons rfl (.cons rfl (.cons rfl (.cons rfl (.cons rfl (.cons rfl (.cons rfl (.cons rfl (.cons rfl (.cons rfl (.cons rfl (.cons rfl (.cons rfl (.cons rfl (.cons rfl (.cons rfl (.cons rfl (.cons rfl (.cons rfl (.cons rfl (.cons rfl (.cons rfl (.cons rfl (.cons rfl (.cons rfl (.cons rfl (.nil))))))))))))))))))))))))))))))))))
        | exact g_againi (joinK (false, IntKind.i64.wrap (IntKind.i64.wrap (at_ + 3) + (dq : Int) * (1 + (wq : Int))), W2) ⟨chg_none hO, hWl2, hWU2⟩) (.cons rfl (.cons rfl (.cons rfl (.cons rfl (.cons rfl (.cons rfl (.cons rfl (.cons rfl (.cons rfl (.cons rfl (.cons rfl (.cons rfl (.cons rfl (.cons rfl (.cons rfl (.cons rfl (.cons rfl (.cons rfl (.cons rfl (.cons rfl (.cons rfl (.cons rfl (.cons rfl (.cons rfl (.cons rfl (.cons rfl (.cons rfl (.cons rfl (.cons rfl (.cons rfl (.cons rfl (.cons rfl (.nil))))))))))))))))))))))))))))))))))
      intro hbr
      have hbr := of_decide_eq_false hbr
      refine g_seq ?_
      refine g_region ?_
      refine l_eql rfl rfl rfl ?_
      refine l_assign rfl rfl ?_
      refine l_nil ?_
      refine g_cond rfl ?_ ?_
      · intro hbr
        have hbr := of_decide_eq_true hbr
        refine g_seq ?_
        refine g_region ?_
        refine l_move rfl rfl ?_
        refine l_fieldAddr rfl fa_54_1 rfl ?_
        first | refine l_ld rfl Try.isAgg3 rfl rfl ?_ | refine l_ldw rfl Try.isAgg3 rfl (by omega) ?_
        refine l_fieldAddr rfl fa_54_2 rfl ?_
        first | refine l_ld rfl Try.isAgg3 rfl rfl ?_ | refine l_ldw rfl Try.isAgg3 rfl (by omega) ?_
        refine l_fieldAddr rfl fa_54_3 rfl ?_
        first | refine l_ld rfl Try.isAgg3 rfl rfl ?_ | refine l_ldw rfl Try.isAgg3 rfl (by omega) ?_
        refine l_fronto g ?_
        refine l_frontb b ?_
        refine l_call rfl Try.call11 rfl (take_all _ _ wq dq (by omega) (by omega) (by omega) (by omega) b g n c W hWl hc (by omega) hWU at_ o1.1 o1.2) ?_; rintro _ _ ⟨ok, e, W2, rfl, rfl, hOt, hoe⟩
        have hWl2 := hOt.1
        have hWU2 := hOt.2.1
        refine l_move rfl rfl ?_
        refine l_extract rfl rfl rfl ?_
        refine l_extract rfl rfl rfl ?_
        refine l_assign rfl rfl ?_
        refine l_assign rfl rfl ?_
        refine l_nil ?_
        refine g_region ?_
        refine l_move rfl rfl ?_
        refine l_move rfl rfl ?_
        refine l_split 122 rfl ?_ ?_
        · intro hbr
          have hb122 := hbr
          refine l_guard_yes rfl rfl ?_
          refine l_move rfl rfl ?_
          refine l_guard_yes rfl rfl ?_
          refine l_eql rfl rfl rfl ?_
          refine l_pick_t rfl rfl rfl ?_
          refine l_assign rfl rfl ?_
          refine l_nil ?_
          refine g_inBlock ?_
          (first
          | ((have h1 : ok = true := hb102); (obtain rfl : e = 0 := hoe h1); subst h1; exact g_againi (joinK (true, IntKind.i64.wrap (IntKind.i64.wrap (IntKind.i64.wrap (at_ + 3) + (dq : Int) * (1 + (wq : Int))) - 2), W2) ⟨chg_put hOp (mul_nat _ _) (by omega) (by omega), hWl2, hWU2⟩) (.cons rfl (.cons rfl (.cons rfl (.cons rfl (.cons rfl (.cons rfl (.cons rfl (.cons rfl (.cons rfl (.cons rfl (.cons rfl (.cons rfl (.cons rfl (.cons rfl (.cons rfl (.cons rfl (.cons rfl (.cons rfl (.cons rfl (.cons rfl (.cons rfl (.cons rfl (.cons rfl (.cons rfl (.cons rfl (.cons rfl (.cons rfl (.cons rfl (.cons rfl (.cons rfl (.cons rfl (.cons rfl (.nil))))))))))))))))))))))))))))))))))
          | ((have h1 : ok = false := hb102); subst h1; exact g_againi (joinK (false, IntKind.i64.wrap (IntKind.i64.wrap (IntKind.i64.wrap (at_ + 3) + (dq : Int) * (1 + (wq : Int))) - 2), W2) ⟨chg_put hOp (mul_nat _ _) (by omega) (by omega), hWl2, hWU2⟩) (.cons rfl (.cons rfl (.cons rfl (.cons rfl (.cons rfl (.cons rfl (.cons rfl (.cons rfl (.cons rfl (.cons rfl (.cons rfl (.cons rfl (.cons rfl (.cons rfl (.cons rfl (.cons rfl (.cons rfl (.cons rfl (.cons rfl (.cons rfl (.cons rfl (.cons rfl (.cons rfl (.cons rfl (.cons rfl (.cons rfl (.cons rfl (.cons rfl (.cons rfl (.cons rfl (.cons rfl (.cons rfl (.nil))))))))))))))))))))))))))))))))))
          | ((have h1 : ok = true := hb122); (obtain rfl : e = 0 := hoe h1); subst h1; exact g_againi (joinK (true, IntKind.i64.wrap (IntKind.i64.wrap (at_ + 3) + (dq : Int) * (1 + (wq : Int))), W2) ⟨chg_take hOt (mul_nat _ _) (by omega) (by omega), hWl2, hWU2⟩) (.cons rfl (.cons rfl (.cons rfl (.cons rfl (.cons rfl (.cons rfl (.cons rfl (.cons rfl (.cons rfl (.cons rfl (.cons rfl (.cons rfl (.cons rfl (.cons rfl (.cons rfl (.cons rfl (.cons rfl (.cons rfl (.cons rfl (.cons rfl (.cons rfl (.cons rfl (.cons rfl (.cons rfl (.cons rfl (.cons rfl (.cons rfl (.cons rfl (.cons rfl (.cons rfl (.cons rfl (.cons rfl (.nil))))))))))))))))))))))))))))))))))
          | ((have h1 : ok = false := hb122); subst h1; exact g_againi (joinK (false, IntKind.i64.wrap (IntKind.i64.wrap (at_ + 3) + (dq : Int) * (1 + (wq : Int))), W2) ⟨chg_take hOt (mul_nat _ _) (by omega) (by omega), hWl2, hWU2⟩) (.cons rfl (.cons rfl (.cons rfl (.cons rfl (.cons rfl (.cons rfl (.cons rfl (.cons rfl (.cons rfl (.cons rfl (.cons rfl (.cons rfl (.cons rfl (.cons rfl (.cons rfl (.cons rfl (.cons rfl (.cons rfl (.cons rfl (.cons rfl (.cons rfl (.cons rfl (.cons rfl (.cons rfl (.cons rfl (.cons rfl (.cons rfl (.cons rfl (.cons rfl (.cons rfl (.cons rfl (.cons rfl (.nil))))))))))))))))))))))))))))))))))
          | exact g_againi (joinK (false, IntKind.i64.wrap (IntKind.i64.wrap (at_ + 3) + (dq : Int) * (1 + (wq : Int))), W2) ⟨chg_none hO, hWl2, hWU2⟩) (.cons rfl (.cons rfl (.cons rfl (.cons rfl (.cons rfl (.cons rfl (.cons rfl (.cons rfl (.cons rfl (.cons rfl (.cons rfl (.cons rfl (.cons rfl (.cons rfl (.cons rfl (.cons rfl (.cons rfl (.cons rfl (.cons rfl (.cons rfl (.cons rfl (.cons rfl (.cons rfl (.cons rfl (.cons rfl (.cons rfl (.cons rfl (.cons rfl (.cons rfl (.cons rfl (.cons rfl (.cons rfl (.nil))))))))))))))))))))))))))))))))))
        intro hbr
        have hb122 := hbr
        refine l_guard_no rfl rfl rfl ?_
        refine l_guard_no rfl rfl rfl ?_
        refine l_pick_f rfl rfl rfl ?_
        refine l_assign rfl rfl ?_
        refine l_nil ?_
        refine g_inBlock ?_
        (first
        | ((have h1 : ok = true := hb102); (obtain rfl : e = 0 := hoe h1); subst h1; exact g_againi (joinK (true, IntKind.i64.wrap (IntKind.i64.wrap (IntKind.i64.wrap (at_ + 3) + (dq : Int) * (1 + (wq : Int))) - 2), W2) ⟨chg_put hOp (mul_nat _ _) (by omega) (by omega), hWl2, hWU2⟩) (.cons rfl (.cons rfl (.cons rfl (.cons rfl (.cons rfl (.cons rfl (.cons rfl (.cons rfl (.cons rfl (.cons rfl (.cons rfl (.cons rfl (.cons rfl (.cons rfl (.cons rfl (.cons rfl (.cons rfl (.cons rfl (.cons rfl (.cons rfl (.cons rfl (.cons rfl (.cons rfl (.cons rfl (.cons rfl (.cons rfl (.cons rfl (.cons rfl (.cons rfl (.cons rfl (.cons rfl (.cons rfl (.nil))))))))))))))))))))))))))))))))))
        | ((have h1 : ok = false := hb102); subst h1; exact g_againi (joinK (false, IntKind.i64.wrap (IntKind.i64.wrap (IntKind.i64.wrap (at_ + 3) + (dq : Int) * (1 + (wq : Int))) - 2), W2) ⟨chg_put hOp (mul_nat _ _) (by omega) (by omega), hWl2, hWU2⟩) (.cons rfl (.cons rfl (.cons rfl (.cons rfl (.cons rfl (.cons rfl (.cons rfl (.cons rfl (.cons rfl (.cons rfl (.cons rfl (.cons rfl (.cons rfl (.cons rfl (.cons rfl (.cons rfl (.cons rfl (.cons rfl (.cons rfl (.cons rfl (.cons rfl (.cons rfl (.cons rfl (.cons rfl (.cons rfl (.cons rfl (.cons rfl (.cons rfl (.cons rfl (.cons rfl (.cons rfl (.cons rfl (.nil))))))))))))))))))))))))))))))))))
        | ((have h1 : ok = true := hb122); (obtain rfl : e = 0 := hoe h1); subst h1; exact g_againi (joinK (true, IntKind.i64.wrap (IntKind.i64.wrap (at_ + 3) + (dq : Int) * (1 + (wq : Int))), W2) ⟨chg_take hOt (mul_nat _ _) (by omega) (by omega), hWl2, hWU2⟩) (.cons rfl (.cons rfl (.cons rfl (.cons rfl (.cons rfl (.cons rfl (.cons rfl (.cons rfl (.cons rfl (.cons rfl (.cons rfl (.cons rfl (.cons rfl (.cons rfl (.cons rfl (.cons rfl (.cons rfl (.cons rfl (.cons rfl (.cons rfl (.cons rfl (.cons rfl (.cons rfl (.cons rfl (.cons rfl (.cons rfl (.cons rfl (.cons rfl (.cons rfl (.cons rfl (.cons rfl (.cons rfl (.nil))))))))))))))))))))))))))))))))))
        | ((have h1 : ok = false := hb122); subst h1; exact g_againi (joinK (false, IntKind.i64.wrap (IntKind.i64.wrap (at_ + 3) + (dq : Int) * (1 + (wq : Int))), W2) ⟨chg_take hOt (mul_nat _ _) (by omega) (by omega), hWl2, hWU2⟩) (.cons rfl (.cons rfl (.cons rfl (.cons rfl (.cons rfl (.cons rfl (.cons rfl (.cons rfl (.cons rfl (.cons rfl (.cons rfl (.cons rfl (.cons rfl (.cons rfl (.cons rfl (.cons rfl (.cons rfl (.cons rfl (.cons rfl (.cons rfl (.cons rfl (.cons rfl (.cons rfl (.cons rfl (.cons rfl (.cons rfl (.cons rfl (.cons rfl (.cons rfl (.cons rfl (.cons rfl (.cons rfl (.nil))))))))))))))))))))))))))))))))))
        | exact g_againi (joinK (false, IntKind.i64.wrap (IntKind.i64.wrap (at_ + 3) + (dq : Int) * (1 + (wq : Int))), W2) ⟨chg_none hO, hWl2, hWU2⟩) (.cons rfl (.cons rfl (.cons rfl (.cons rfl (.cons rfl (.cons rfl (.cons rfl (.cons rfl (.cons rfl (.cons rfl (.cons rfl (.cons rfl (.cons rfl (.cons rfl (.cons rfl (.cons rfl (.cons rfl (.cons rfl (.cons rfl (.cons rfl (.cons rfl (.cons rfl (.cons rfl (.cons rfl (.cons rfl (.cons rfl (.cons rfl (.cons rfl (.cons rfl (.cons rfl (.cons rfl (.cons rfl (.nil))))))))))))))))))))))))))))))))))
      intro hbr
      have hbr := of_decide_eq_false hbr
      refine g_seq ?_
      refine g_region ?_
      refine l_eql rfl rfl rfl ?_
      refine l_assign rfl rfl ?_
      refine l_nil ?_
      refine g_cond rfl ?_ ?_
      · intro hbr
        have hbr := of_decide_eq_true hbr
        refine g_region ?_
        refine l_move rfl rfl ?_
        refine l_fieldAddr rfl fa_54_1 rfl ?_
        first | refine l_ld rfl Try.isAgg3 rfl rfl ?_ | refine l_ldw rfl Try.isAgg3 rfl (by omega) ?_
        refine l_fieldAddr rfl fa_54_2 rfl ?_
        first | refine l_ld rfl Try.isAgg3 rfl rfl ?_ | refine l_ldw rfl Try.isAgg3 rfl (by omega) ?_
        refine l_fieldAddr rfl fa_54_3 rfl ?_
        first | refine l_ld rfl Try.isAgg3 rfl rfl ?_ | refine l_ldw rfl Try.isAgg3 rfl (by omega) ?_
        refine l_fronto g ?_
        refine l_frontb b ?_
        refine l_call rfl Try.call10 rfl (look_all _ _ wq dq (by omega) (by omega) (by omega) (by omega) b g n c W hWl hc (by omega) hWU at_ o1.1 o1.2) ?_; rintro _ _ ⟨W2, hO, rfl⟩
        have hWl2 : W2.length = n := by rw [hO]; exact hWl
        have hWU2 : W32s W2 := by rw [hO]; exact hWU
        refine l_nil ?_
        refine g_inBlock ?_
        (first
        | ((have h1 : ok = true := hb102); (obtain rfl : e = 0 := hoe h1); subst h1; exact g_againi (joinK (true, IntKind.i64.wrap (IntKind.i64.wrap (IntKind.i64.wrap (at_ + 3) + (dq : Int) * (1 + (wq : Int))) - 2), W2) ⟨chg_put hOp (mul_nat _ _) (by omega) (by omega), hWl2, hWU2⟩) (.cons rfl (.cons rfl (.cons rfl (.cons rfl (.cons rfl (.cons rfl (.cons rfl (.cons rfl (.cons rfl (.cons rfl (.cons rfl (.cons rfl (.cons rfl (.cons rfl (.cons rfl (.cons rfl (.cons rfl (.cons rfl (.cons rfl (.cons rfl (.cons rfl (.cons rfl (.cons rfl (.cons rfl (.cons rfl (.cons rfl (.cons rfl (.cons rfl (.cons rfl (.cons rfl (.cons rfl (.cons rfl (.nil))))))))))))))))))))))))))))))))))
        | ((have h1 : ok = false := hb102); subst h1; exact g_againi (joinK (false, IntKind.i64.wrap (IntKind.i64.wrap (IntKind.i64.wrap (at_ + 3) + (dq : Int) * (1 + (wq : Int))) - 2), W2) ⟨chg_put hOp (mul_nat _ _) (by omega) (by omega), hWl2, hWU2⟩) (.cons rfl (.cons rfl (.cons rfl (.cons rfl (.cons rfl (.cons rfl (.cons rfl (.cons rfl (.cons rfl (.cons rfl (.cons rfl (.cons rfl (.cons rfl (.cons rfl (.cons rfl (.cons rfl (.cons rfl (.cons rfl (.cons rfl (.cons rfl (.cons rfl (.cons rfl (.cons rfl (.cons rfl (.cons rfl (.cons rfl (.cons rfl (.cons rfl (.cons rfl (.cons rfl (.cons rfl (.cons rfl (.nil))))))))))))))))))))))))))))))))))
        | ((have h1 : ok = true := hb122); (obtain rfl : e = 0 := hoe h1); subst h1; exact g_againi (joinK (true, IntKind.i64.wrap (IntKind.i64.wrap (at_ + 3) + (dq : Int) * (1 + (wq : Int))), W2) ⟨chg_take hOt (mul_nat _ _) (by omega) (by omega), hWl2, hWU2⟩) (.cons rfl (.cons rfl (.cons rfl (.cons rfl (.cons rfl (.cons rfl (.cons rfl (.cons rfl (.cons rfl (.cons rfl (.cons rfl (.cons rfl (.cons rfl (.cons rfl (.cons rfl (.cons rfl (.cons rfl (.cons rfl (.cons rfl (.cons rfl (.cons rfl (.cons rfl (.cons rfl (.cons rfl (.cons rfl (.cons rfl (.cons rfl (.cons rfl (.cons rfl (.cons rfl (.cons rfl (.cons rfl (.nil))))))))))))))))))))))))))))))))))
        | ((have h1 : ok = false := hb122); subst h1; exact g_againi (joinK (false, IntKind.i64.wrap (IntKind.i64.wrap (at_ + 3) + (dq : Int) * (1 + (wq : Int))), W2) ⟨chg_take hOt (mul_nat _ _) (by omega) (by omega), hWl2, hWU2⟩) (.cons rfl (.cons rfl (.cons rfl (.cons rfl (.cons rfl (.cons rfl (.cons rfl (.cons rfl (.cons rfl (.cons rfl (.cons rfl (.cons rfl (.cons rfl (.cons rfl (.cons rfl (.cons rfl (.cons rfl (.cons rfl (.cons rfl (.cons rfl (.cons rfl (.cons rfl (.cons rfl (.cons rfl (.cons rfl (.cons rfl (.cons rfl (.cons rfl (.cons rfl (.cons rfl (.cons rfl (.cons rfl (.nil))))))))))))))))))))))))))))))))))
        | exact g_againi (joinK (false, IntKind.i64.wrap (IntKind.i64.wrap (at_ + 3) + (dq : Int) * (1 + (wq : Int))), W2) ⟨chg_none hO, hWl2, hWU2⟩) (.cons rfl (.cons rfl (.cons rfl (.cons rfl (.cons rfl (.cons rfl (.cons rfl (.cons rfl (.cons rfl (.cons rfl (.cons rfl (.cons rfl (.cons rfl (.cons rfl (.cons rfl (.cons rfl (.cons rfl (.cons rfl (.cons rfl (.cons rfl (.cons rfl (.cons rfl (.cons rfl (.cons rfl (.cons rfl (.cons rfl (.cons rfl (.cons rfl (.cons rfl (.cons rfl (.cons rfl (.cons rfl (.nil))))))))))))))))))))))))))))))))))
      intro hbr
      have hbr := of_decide_eq_false hbr
      refine g_seq ?_
      refine g_region ?_
      refine l_eql rfl rfl rfl ?_
      refine l_assign rfl rfl ?_
      refine l_nil ?_
      refine g_cond rfl ?_ ?_
      · intro hbr
        have hbr := of_decide_eq_true hbr
        refine g_region ?_
        refine l_move rfl rfl ?_
        refine l_fieldAddr rfl fa_54_1 rfl ?_
        first | refine l_ld rfl Try.isAgg3 rfl rfl ?_ | refine l_ldw rfl Try.isAgg3 rfl (by omega) ?_
        refine l_fieldAddr rfl fa_54_2 rfl ?_
        first | refine l_ld rfl Try.isAgg3 rfl rfl ?_ | refine l_ldw rfl Try.isAgg3 rfl (by omega) ?_
        refine l_fieldAddr rfl fa_54_3 rfl ?_
        first | refine l_ld rfl Try.isAgg3 rfl rfl ?_ | refine l_ldw rfl Try.isAgg3 rfl (by omega) ?_
        refine l_fronto g ?_
        refine l_frontb b ?_
        refine l_call rfl Try.call12 rfl (count_all _ _ wq dq (by omega) (by omega) (by omega) (by omega) b g n c W hWl hc (by omega) hWU at_ o1.1 o1.2) ?_; rintro _ _ ⟨W2, hO, rfl⟩
        have hWl2 : W2.length = n := by rw [hO]; exact hWl
        have hWU2 : W32s W2 := by rw [hO]; exact hWU
        refine l_nil ?_
        refine g_inBlock ?_
        (first
        | ((have h1 : ok = true := hb102); (obtain rfl : e = 0 := hoe h1); subst h1; exact g_againi (joinK (true, IntKind.i64.wrap (IntKind.i64.wrap (IntKind.i64.wrap (at_ + 3) + (dq : Int) * (1 + (wq : Int))) - 2), W2) ⟨chg_put hOp (mul_nat _ _) (by omega) (by omega), hWl2, hWU2⟩) (.cons rfl (.cons rfl (.cons rfl (.cons rfl (.cons rfl (.cons rfl (.cons rfl (.cons rfl (.cons rfl (.cons rfl (.cons rfl (.cons rfl (.cons rfl (.cons rfl (.cons rfl (.cons rfl (.cons rfl (.cons rfl (.cons rfl (.cons rfl (.cons rfl (.cons rfl (.cons rfl (.cons rfl (.cons rfl (.cons rfl (.cons rfl (.cons rfl (.cons rfl (.cons rfl (.cons rfl (.cons rfl (.nil))))))))))))))))))))))))))))))))))
        | ((have h1 : ok = false := hb102); subst h1; exact g_againi (joinK (false, IntKind.i64.wrap (IntKind.i64.wrap (IntKind.i64.wrap (at_ + 3) + (dq : Int) * (1 + (wq : Int))) - 2), W2) ⟨chg_put hOp (mul_nat _ _) (by omega) (by omega), hWl2, hWU2⟩) (.cons rfl (.cons rfl (.cons rfl (.cons rfl (.cons rfl (.cons rfl (.cons rfl (.cons rfl (.cons rfl (.cons rfl (.cons rfl (.cons rfl (.cons rfl (.cons rfl (.cons rfl (.cons rfl (.cons rfl (.cons rfl (.cons rfl (.cons rfl (.cons rfl (.cons rfl (.cons rfl (.cons rfl (.cons rfl (.cons rfl (.cons rfl (.cons rfl (.cons rfl (.cons rfl (.cons rfl (.cons rfl (.nil))))))))))))))))))))))))))))))))))
        | ((have h1 : ok = true := hb122); (obtain rfl : e = 0 := hoe h1); subst h1; exact g_againi (joinK (true, IntKind.i64.wrap (IntKind.i64.wrap (at_ + 3) + (dq : Int) * (1 + (wq : Int))), W2) ⟨chg_take hOt (mul_nat _ _) (by omega) (by omega), hWl2, hWU2⟩) (.cons rfl (.cons rfl (.cons rfl (.cons rfl (.cons rfl (.cons rfl (.cons rfl (.cons rfl (.cons rfl (.cons rfl (.cons rfl (.cons rfl (.cons rfl (.cons rfl (.cons rfl (.cons rfl (.cons rfl (.cons rfl (.cons rfl (.cons rfl (.cons rfl (.cons rfl (.cons rfl (.cons rfl (.cons rfl (.cons rfl (.cons rfl (.cons rfl (.cons rfl (.cons rfl (.cons rfl (.cons rfl (.nil))))))))))))))))))))))))))))))))))
        | ((have h1 : ok = false := hb122); subst h1; exact g_againi (joinK (false, IntKind.i64.wrap (IntKind.i64.wrap (at_ + 3) + (dq : Int) * (1 + (wq : Int))), W2) ⟨chg_take hOt (mul_nat _ _) (by omega) (by omega), hWl2, hWU2⟩) (.cons rfl (.cons rfl (.cons rfl (.cons rfl (.cons rfl (.cons rfl (.cons rfl (.cons rfl (.cons rfl (.cons rfl (.cons rfl (.cons rfl (.cons rfl (.cons rfl (.cons rfl (.cons rfl (.cons rfl (.cons rfl (.cons rfl (.cons rfl (.cons rfl (.cons rfl (.cons rfl (.cons rfl (.cons rfl (.cons rfl (.cons rfl (.cons rfl (.cons rfl (.cons rfl (.cons rfl (.cons rfl (.nil))))))))))))))))))))))))))))))))))
        | exact g_againi (joinK (false, IntKind.i64.wrap (IntKind.i64.wrap (at_ + 3) + (dq : Int) * (1 + (wq : Int))), W2) ⟨chg_none hO, hWl2, hWU2⟩) (.cons rfl (.cons rfl (.cons rfl (.cons rfl (.cons rfl (.cons rfl (.cons rfl (.cons rfl (.cons rfl (.cons rfl (.cons rfl (.cons rfl (.cons rfl (.cons rfl (.cons rfl (.cons rfl (.cons rfl (.cons rfl (.cons rfl (.cons rfl (.cons rfl (.cons rfl (.cons rfl (.cons rfl (.cons rfl (.cons rfl (.cons rfl (.cons rfl (.cons rfl (.cons rfl (.cons rfl (.cons rfl (.nil))))))))))))))))))))))))))))))))))
      intro hbr
      have hbr := of_decide_eq_false hbr
      refine g_region ?_
      refine l_move rfl rfl ?_
      refine l_fieldAddr rfl fa_54_1 rfl ?_
      first | refine l_ld rfl Try.isAgg3 rfl rfl ?_ | refine l_ldw rfl Try.isAgg3 rfl (by omega) ?_
      refine l_fieldAddr rfl fa_54_2 rfl ?_
      first | refine l_ld rfl Try.isAgg3 rfl rfl ?_ | refine l_ldw rfl Try.isAgg3 rfl (by omega) ?_
      refine l_fieldAddr rfl fa_54_3 rfl ?_
      first | refine l_ld rfl Try.isAgg3 rfl rfl ?_ | refine l_ldw rfl Try.isAgg3 rfl (by omega) ?_
      refine l_fronto g ?_
      refine l_frontb b ?_
      refine l_call rfl Try.call8 rfl (staged_all _ _ wq dq (by omega) (by omega) (by omega) (by omega) b g n c W hWl hc (by omega) hWU at_ o1.1 o1.2) ?_; rintro _ _ ⟨W2, hO, rfl⟩
      have hWl2 : W2.length = n := by rw [hO]; exact hWl
      have hWU2 : W32s W2 := by rw [hO]; exact hWU
      refine l_nil ?_
      refine g_inBlock ?_
      (first
      | ((have h1 : ok = true := hb102); (obtain rfl : e = 0 := hoe h1); subst h1; exact g_againi (joinK (true, IntKind.i64.wrap (IntKind.i64.wrap (IntKind.i64.wrap (at_ + 3) + (dq : Int) * (1 + (wq : Int))) - 2), W2) ⟨chg_put hOp (mul_nat _ _) (by omega) (by omega), hWl2, hWU2⟩) (.cons rfl (.cons rfl (.cons rfl (.cons rfl (.cons rfl (.cons rfl (.cons rfl (.cons rfl (.cons rfl (.cons rfl (.cons rfl (.cons rfl (.cons rfl (.cons rfl (.cons rfl (.cons rfl (.cons rfl (.cons rfl (.cons rfl (.cons rfl (.cons rfl (.cons rfl (.cons rfl (.cons rfl (.cons rfl (.cons rfl (.cons rfl (.cons rfl (.cons rfl (.cons rfl (.cons rfl (.cons rfl (.nil))))))))))))))))))))))))))))))))))
      | ((have h1 : ok = false := hb102); subst h1; exact g_againi (joinK (false, IntKind.i64.wrap (IntKind.i64.wrap (IntKind.i64.wrap (at_ + 3) + (dq : Int) * (1 + (wq : Int))) - 2), W2) ⟨chg_put hOp (mul_nat _ _) (by omega) (by omega), hWl2, hWU2⟩) (.cons rfl (.cons rfl (.cons rfl (.cons rfl (.cons rfl (.cons rfl (.cons rfl (.cons rfl (.cons rfl (.cons rfl (.cons rfl (.cons rfl (.cons rfl (.cons rfl (.cons rfl (.cons rfl (.cons rfl (.cons rfl (.cons rfl (.cons rfl (.cons rfl (.cons rfl (.cons rfl (.cons rfl (.cons rfl (.cons rfl (.cons rfl (.cons rfl (.cons rfl (.cons rfl (.cons rfl (.cons rfl (.nil))))))))))))))))))))))))))))))))))
      | ((have h1 : ok = true := hb122); (obtain rfl : e = 0 := hoe h1); subst h1; exact g_againi (joinK (true, IntKind.i64.wrap (IntKind.i64.wrap (at_ + 3) + (dq : Int) * (1 + (wq : Int))), W2) ⟨chg_take hOt (mul_nat _ _) (by omega) (by omega), hWl2, hWU2⟩) (.cons rfl (.cons rfl (.cons rfl (.cons rfl (.cons rfl (.cons rfl (.cons rfl (.cons rfl (.cons rfl (.cons rfl (.cons rfl (.cons rfl (.cons rfl (.cons rfl (.cons rfl (.cons rfl (.cons rfl (.cons rfl (.cons rfl (.cons rfl (.cons rfl (.cons rfl (.cons rfl (.cons rfl (.cons rfl (.cons rfl (.cons rfl (.cons rfl (.cons rfl (.cons rfl (.cons rfl (.cons rfl (.nil))))))))))))))))))))))))))))))))))
      | ((have h1 : ok = false := hb122); subst h1; exact g_againi (joinK (false, IntKind.i64.wrap (IntKind.i64.wrap (at_ + 3) + (dq : Int) * (1 + (wq : Int))), W2) ⟨chg_take hOt (mul_nat _ _) (by omega) (by omega), hWl2, hWU2⟩) (.cons rfl (.cons rfl (.cons rfl (.cons rfl (.cons rfl (.cons rfl (.cons rfl (.cons rfl (.cons rfl (.cons rfl (.cons rfl (.cons rfl (.cons rfl (.cons rfl (.cons rfl (.cons rfl (.cons rfl (.cons rfl (.cons rfl (.cons rfl (.cons rfl (.cons rfl (.cons rfl (.cons rfl (.cons rfl (.cons rfl (.cons rfl (.cons rfl (.cons rfl (.cons rfl (.cons rfl (.cons rfl (.nil))))))))))))))))))))))))))))))))))
      | exact g_againi (joinK (false, IntKind.i64.wrap (IntKind.i64.wrap (at_ + 3) + (dq : Int) * (1 + (wq : Int))), W2) ⟨chg_none hO, hWl2, hWU2⟩) (.cons rfl (.cons rfl (.cons rfl (.cons rfl (.cons rfl (.cons rfl (.cons rfl (.cons rfl (.cons rfl (.cons rfl (.cons rfl (.cons rfl (.cons rfl (.cons rfl (.cons rfl (.cons rfl (.cons rfl (.cons rfl (.cons rfl (.cons rfl (.cons rfl (.cons rfl (.cons rfl (.cons rfl (.cons rfl (.cons rfl (.cons rfl (.cons rfl (.cons rfl (.cons rfl (.cons rfl (.cons rfl (.nil))))))))))))))))))))))))))))))))))
    intro joinJ
    dsimp only [List.cons_append, List.nil_append] at joinJ
    refine g_region ?_
    refine l_fieldAddr rfl fa_54_2 rfl ?_
    first | refine l_ld rfl Try.isAgg3 rfl rfl ?_ | refine l_ldw rfl Try.isAgg3 rfl (by omega) ?_
    refine l_lss rfl rfl rfl ?_
    refine l_move rfl rfl ?_
    refine l_split 44 rfl ?_ ?_
    · intro hbr
      have hbr := of_decide_eq_true hbr
      refine l_guard_no rfl rfl rfl ?_
      refine l_guard_no rfl rfl rfl ?_
      refine l_guard_no rfl rfl rfl ?_
      refine l_pick_t rfl rfl rfl ?_
      refine l_move rfl rfl ?_
      refine l_guard_no rfl rfl rfl ?_
      refine l_guard_no rfl rfl rfl ?_
      refine l_guard_no rfl rfl rfl ?_
      refine l_pick_t rfl rfl rfl ?_
      refine l_move rfl rfl ?_
      refine l_guard_no rfl rfl rfl ?_
      refine l_guard_no rfl rfl rfl ?_
      refine l_guard_no rfl rfl rfl ?_
      refine l_pick_t rfl rfl rfl ?_
      refine l_nil ?_
      refine g_cond_t rfl ?_
      refine g_seq ?_
      refine g_region ?_
      refine l_fieldAddr rfl fa_54_2 rfl ?_
      first | refine l_st Try.sizeOf3 rfl rfl rfl rfl ?_ | refine l_stw Try.sizeOf3 rfl rfl (by omega) ?_
      refine l_nil ?_
      refine g_region ?_
      refine l_fieldAddr rfl fa_54_3 rfl ?_
      first | refine l_st Try.sizeOf3 rfl rfl rfl rfl ?_ | refine l_stw Try.sizeOf3 rfl rfl (by omega) ?_
      refine l_nil ?_
      (first | exact g_againi (joinJ (1, 1) ⟨by decide, by decide, by decide, by decide⟩) (.cons rfl (.cons rfl (.cons rfl (.cons rfl (.cons rfl (.cons rfl (.cons rfl (.cons rfl (.cons rfl (.cons rfl (.cons rfl (.cons rfl (.cons rfl (.cons rfl (.nil))))))))))))))) | (obtain ⟨wq, rfl⟩ := Int.eq_ofNat_of_zero_le (show 0 ≤ wd by omega); obtain ⟨dq, rfl⟩ := Int.eq_ofNat_of_zero_le (show 0 ≤ dp by omega); exact g_againi (joinJ (wq, dq) ⟨by simp only; omega, by simp only; omega, by simp only; omega, by simp only; omega⟩) (.cons rfl (.cons rfl (.cons rfl (.cons rfl (.cons rfl (.cons rfl (.cons rfl (.cons rfl (.cons rfl (.cons rfl (.cons rfl (.cons rfl (.cons rfl (.cons rfl (.nil)))))))))))))))))
    intro hbr
    have hbr := of_decide_eq_false hbr
    refine l_guard_yes rfl rfl ?_
    refine l_fieldAddr rfl fa_54_2 rfl ?_
    refine l_guard_yes rfl rfl ?_
    first | refine l_ld rfl Try.isAgg3 rfl rfl ?_ | refine l_ldw rfl Try.isAgg3 rfl (by omega) ?_
    refine l_guard_yes rfl rfl ?_
    refine l_gtr rfl rfl rfl ?_
    refine l_pick_f rfl rfl rfl ?_
    refine l_move rfl rfl ?_
    refine l_split 49 rfl ?_ ?_
    · intro hbr
      have hbr := of_decide_eq_true hbr
      refine l_guard_no rfl rfl rfl ?_
      refine l_guard_no rfl rfl rfl ?_
      refine l_guard_no rfl rfl rfl ?_
      refine l_pick_t rfl rfl rfl ?_
      refine l_move rfl rfl ?_
      refine l_guard_no rfl rfl rfl ?_
      refine l_guard_no rfl rfl rfl ?_
      refine l_guard_no rfl rfl rfl ?_
      refine l_pick_t rfl rfl rfl ?_
      refine l_nil ?_
      refine g_cond_t rfl ?_
      refine g_seq ?_
      refine g_region ?_
      refine l_fieldAddr rfl fa_54_2 rfl ?_
      first | refine l_st Try.sizeOf3 rfl rfl rfl rfl ?_ | refine l_stw Try.sizeOf3 rfl rfl (by omega) ?_
      refine l_nil ?_
      refine g_region ?_
      refine l_fieldAddr rfl fa_54_3 rfl ?_
      first | refine l_st Try.sizeOf3 rfl rfl rfl rfl ?_ | refine l_stw Try.sizeOf3 rfl rfl (by omega) ?_
      refine l_nil ?_
      (first | exact g_againi (joinJ (1, 1) ⟨by decide, by decide, by decide, by decide⟩) (.cons rfl (.cons rfl (.cons rfl (.cons rfl (.cons rfl (.cons rfl (.cons rfl (.cons rfl (.cons rfl (.cons rfl (.cons rfl (.cons rfl (.cons rfl (.cons rfl (.nil))))))))))))))) | (obtain ⟨wq, rfl⟩ := Int.eq_ofNat_of_zero_le (show 0 ≤ wd by omega); obtain ⟨dq, rfl⟩ := Int.eq_ofNat_of_zero_le (show 0 ≤ dp by omega); exact g_againi (joinJ (wq, dq) ⟨by simp only; omega, by simp only; omega, by simp only; omega, by simp only; omega⟩) (.cons rfl (.cons rfl (.cons rfl (.cons rfl (.cons rfl (.cons rfl (.cons rfl (.cons rfl (.cons rfl (.cons rfl (.cons rfl (.cons rfl (.cons rfl (.cons rfl (.nil)))))))))))))))))
    intro hbr
    have hbr := of_decide_eq_false hbr
    refine l_guard_yes rfl rfl ?_
    refine l_fieldAddr rfl fa_54_3 rfl ?_
    refine l_guard_yes rfl rfl ?_
    first | refine l_ld rfl Try.isAgg3 rfl rfl ?_ | refine l_ldw rfl Try.isAgg3 rfl (by omega) ?_
    refine l_guard_yes rfl rfl ?_
    refine l_lss rfl rfl rfl ?_
    refine l_pick_f rfl rfl rfl ?_
    refine l_move rfl rfl ?_
    refine l_split 54 rfl ?_ ?_
    · intro hbr
      have hbr := of_decide_eq_true hbr
      refine l_guard_no rfl rfl rfl ?_
      refine l_guard_no rfl rfl rfl ?_
      refine l_guard_no rfl rfl rfl ?_
      refine l_pick_t rfl rfl rfl ?_
      refine l_nil ?_
      refine g_cond_t rfl ?_
      refine g_seq ?_
      refine g_region ?_
      refine l_fieldAddr rfl fa_54_2 rfl ?_
      first | refine l_st Try.sizeOf3 rfl rfl rfl rfl ?_ | refine l_stw Try.sizeOf3 rfl rfl (by omega) ?_
      refine l_nil ?_
      refine g_region ?_
      refine l_fieldAddr rfl fa_54_3 rfl ?_
      first | refine l_st Try.sizeOf3 rfl rfl rfl rfl ?_ | refine l_stw Try.sizeOf3 rfl rfl (by omega) ?_
      refine l_nil ?_
      (first | exact g_againi (joinJ (1, 1) ⟨by decide, by decide, by decide, by decide⟩) (.cons rfl (.cons rfl (.cons rfl (.cons rfl (.cons rfl (.cons rfl (.cons rfl (.cons rfl (.cons rfl (.cons rfl (.cons rfl (.cons rfl (.cons rfl (.cons rfl (.nil))))))))))))))) | (obtain ⟨wq, rfl⟩ := Int.eq_ofNat_of_zero_le (show 0 ≤ wd by omega); obtain ⟨dq, rfl⟩ := Int.eq_ofNat_of_zero_le (show 0 ≤ dp by omega); exact g_againi (joinJ (wq, dq) ⟨by simp only; omega, by simp only; omega, by simp only; omega, by simp only; omega⟩) (.cons rfl (.cons rfl (.cons rfl (.cons rfl (.cons rfl (.cons rfl (.cons rfl (.cons rfl (.cons rfl (.cons rfl (.cons rfl (.cons rfl (.cons rfl (.cons rfl (.nil)))))))))))))))))
    intro hbr
    have hbr := of_decide_eq_false hbr
    refine l_guard_yes rfl rfl ?_
    refine l_fieldAddr rfl fa_54_3 rfl ?_
    refine l_guard_yes rfl rfl ?_
    first | refine l_ld rfl Try.isAgg3 rfl rfl ?_ | refine l_ldw rfl Try.isAgg3 rfl (by omega) ?_
    refine l_guard_yes rfl rfl ?_
    refine l_gtr rfl rfl rfl ?_
    refine l_pick_f rfl rfl rfl ?_
    refine l_nil ?_
    refine g_cond rfl ?_ ?_
    · intro hbr
      have hbr := of_decide_eq_true hbr
      refine g_seq ?_
      refine g_region ?_
      refine l_fieldAddr rfl fa_54_2 rfl ?_
      first | refine l_st Try.sizeOf3 rfl rfl rfl rfl ?_ | refine l_stw Try.sizeOf3 rfl rfl (by omega) ?_
      refine l_nil ?_
      refine g_region ?_
      refine l_fieldAddr rfl fa_54_3 rfl ?_
      first | refine l_st Try.sizeOf3 rfl rfl rfl rfl ?_ | refine l_stw Try.sizeOf3 rfl rfl (by omega) ?_
      refine l_nil ?_
      (first | exact g_againi (joinJ (1, 1) ⟨by decide, by decide, by decide, by decide⟩) (.cons rfl (.cons rfl (.cons rfl (.cons rfl (.cons rfl (.cons rfl (.cons rfl (.cons rfl (.cons rfl (.cons rfl (.cons rfl (.cons rfl (.cons rfl (.cons rfl (.nil))))))))))))))) | (obtain ⟨wq, rfl⟩ := Int.eq_ofNat_of_zero_le (show 0 ≤ wd by omega); obtain ⟨dq, rfl⟩ := Int.eq_ofNat_of_zero_le (show 0 ≤ dp by omega); exact g_againi (joinJ (wq, dq) ⟨by simp only; omega, by simp only; omega, by simp only; omega, by simp only; omega⟩) (.cons rfl (.cons rfl (.cons rfl (.cons rfl (.cons rfl (.cons rfl (.cons rfl (.cons rfl (.cons rfl (.cons rfl (.cons rfl (.cons rfl (.cons rfl (.cons rfl (.nil)))))))))))))))))
    intro hbr
    have hbr := of_decide_eq_false hbr
    refine g_skip ?_
    (first | exact g_againi (joinJ (1, 1) ⟨by decide, by decide, by decide, by decide⟩) (.cons rfl (.cons rfl (.cons rfl (.cons rfl (.cons rfl (.cons rfl (.cons rfl (.cons rfl (.cons rfl (.cons rfl (.cons rfl (.cons rfl (.cons rfl (.cons rfl (.nil))))))))))))))) | (obtain ⟨wq, rfl⟩ := Int.eq_ofNat_of_zero_le (show 0 ≤ wd by omega); obtain ⟨dq, rfl⟩ := Int.eq_ofNat_of_zero_le (show 0 ≤ dp by omega); exact g_againi (joinJ (wq, dq) ⟨by simp only; omega, by simp only; omega, by simp only; omega, by simp only; omega⟩) (.cons rfl (.cons rfl (.cons rfl (.cons rfl (.cons rfl (.cons rfl (.cons rfl (.cons rfl (.cons rfl (.cons rfl (.cons rfl (.cons rfl (.cons rfl (.cons rfl (.nil)))))))))))))))))
  intro hbr
  have hbr := of_decide_eq_false hbr
  refine g_exit rfl ?_
  refine g_seq ?_
  refine g_region ?_
  refine l_call rfl Try.call22 rfl (awake_ok _ _) ?_; rintro _ _ ⟨rfl, rfl⟩
  refine l_assign rfl rfl ?_
  refine l_nil ?_
  refine g_ret Try.func6 rfl (.tmp rfl .nil) ?_
  exact Gives.mki ⟨rfl, rfl⟩
end Go.Proofs.Ytecibldbnekgbaa.Fw
