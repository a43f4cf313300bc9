import Derived.Test.YtfccfjgnoeocnaaShare2
import Derived.Test.YtfccfjgnoeocnaaRounds
namespace Go.Proofs.Ytfccfjgnoeocnaa.Fw
open Go Go.Proofs
set_option linter.unusedVariables false
set_option linter.unusedSimpArgs false
set_option maxRecDepth 10000
theorem bd_40_0_1_2 (a0_0 : Int) (a1_0 : Int) (a2_0 : Int) (w : World) : (Instr.build 40 #[(0, .int .i64 a0_0), (1, .int .i64 a1_0), (2, .int .i64 a2_0)]).run Try.prog w = .ok (.agg #[.int .i64 a0_0, .int .i64 a1_0, .int .i64 a2_0]) w := by kernel_rfl
theorem bd_27_1_4_5 (a1_0 : Int) (a4_0 : Option Addr) (n4_0 c4_0 : Nat) (a5_0 : Option Addr) (n5_0 c5_0 : Nat) (w : World) : (Instr.build 27 #[(1, .int .i64 a1_0), (4, .slice a4_0 n4_0 c4_0), (5, .slice a5_0 n5_0 c5_0)]).run Try.prog w = .ok (.agg #[.int .i64 0, .int .i64 a1_0, .int .i64 0, .int .i64 0, .slice a4_0 n4_0 c4_0, .slice a5_0 n5_0 c5_0, .slice none 0 0]) w := by kernel_rfl
theorem sq_30 (x0 : Int) (x1 : Int) (x2 : Int) (x3 : Int) (y0 : Int) (y1 : Int) (y2 : Int) (y3 : Int) (w : World) : (Op.equalIn 10000 30 (.agg #[.int .i64 x0, .int .i64 x1, .int .i64 x2, .int .i64 x3]) (.agg #[.int .i64 y0, .int .i64 y1, .int .i64 y2, .int .i64 y3])).run Try.prog w = .ok (decide (x0 = y0) && decide (x1 = y1) && decide (x2 = y2) && decide (x3 = y3)) w := by
  rw [run_equalIn_struct w 9999 30 _ _ (by simp [Program.fieldsOf, Try.underlying30]) Try.stoodInHeld30]
  have e0 := fun w => run_equalIn_int (P := Try.prog) w 9998 3 .i64 .i64 x0 y0 Try.underlying3
  have e1 := fun w => run_equalIn_int (P := Try.prog) w 9998 3 .i64 .i64 x1 y1 Try.underlying3
  have e2 := fun w => run_equalIn_int (P := Try.prog) w 9998 3 .i64 .i64 x2 y2 Try.underlying3
  have e3 := fun w => run_equalIn_int (P := Try.prog) w 9998 3 .i64 .i64 x3 y3 Try.underlying3
  simp [Program.fieldsOf, Try.underlying30, Op.eqFields, part, Try.isAgg3, e0, e1, e2, e3, Sem.run_bind, Sem.run_pure, Sem.run_ite]
  by_cases h0 : x0 = y0 <;> by_cases h1 : x1 = y1 <;> by_cases h2 : x2 = y2 <;> by_cases h3 : x3 = y3 <;> simp [*]
theorem sqe_30 (x0 : Int) (x1 : Int) (x2 : Int) (x3 : Int) (y0 : Int) (y1 : Int) (y2 : Int) (y3 : Int) (w : World) : (binOp .eql 30 (.agg #[.int .i64 x0, .int .i64 x1, .int .i64 x2, .int .i64 x3]) (.agg #[.int .i64 y0, .int .i64 y1, .int .i64 y2, .int .i64 y3])).run Try.prog w = .ok (.bool ((decide (x0 = y0) && decide (x1 = y1) && decide (x2 = y2) && decide (x3 = y3)))) w := by
  rw [run_eql_struct, sq_30]; rfl
theorem aw_may : May [(0, 60, 40)] := ⟨by decide, by decide, fun i hi => by
  have : i = 0 := by simp at hi; omega
  subst this
  unfold okW
  decide⟩
theorem aw_all (b7 : Nat) : AllMay [⟨some ⟨b7, 0, none⟩, 1, 1, [(0, 60, 40)]⟩] 1 := fun k hk => by
  have : k = 0 := by omega
  subst this
  exact aw_may
theorem aw_full (b7 : Nat) : Full [⟨some ⟨b7, 0, none⟩, 1, 1, [(0, 60, 40)]⟩] 1 100 := ⟨aw_all b7, by decide, by decide, fun k hk => by
  have : k = 0 := by omega
  subst this
  rfl⟩
theorem aw_CR {w0 : World} {F : List Atom} {b7 b8 : Nat} {x7 x8 : List Value} [h7 : OwnIn F b7 40 3 1 1 x7] [h8 : OwnIn F b8 38 1 1 1 x8] (e7 : x7 = [.int .i64 0, .int .i64 60, .int .i64 40]) (e8 : x8 = [.slice (some ⟨b7, 0, none⟩) 1 1]) :
    CR w0 F (some ⟨b8, 0, none⟩) 1 [⟨some ⟨b7, 0, none⟩, 1, 1, [(0, 60, 40)]⟩] := by
  subst e7 e8
  refine ⟨rfl, fun i hi => ?_, .inr ⟨b8, 0, rfl, .own h8.mem⟩⟩
  have : i = 0 := by omega
  subst this
  refine ⟨⟨rfl, fun i hi => ?_, .inr ⟨b7, 0, rfl, .own h7.mem⟩⟩, show (1 : Nat) ≤ 9223372036854775807 by decide⟩
  have : i = 0 := by simp [kat] at hi; omega
  subst this
  show I64 0 ∧ I64 60 ∧ I64 40
  unfold I64
  omega
theorem aw_at (w0 : World) (F : List Atom) (b7 b8 b9 : Nat) (hC : CR w0 F (some ⟨b8, 0, none⟩) 1 [⟨some ⟨b7, 0, none⟩, 1, 1, [(0, 60, 40)]⟩]) : CallK Try.prog 13 [.agg [Value.int .i64 0, .int .i64 100, .int .i64 0, .int .i64 0, .slice (some ⟨b8, 0, none⟩) 1 1, .slice (some ⟨b9, 0, none⟩) 1 1, .slice none 0 0].toArray, .int .i64 0, .int .i64 61] w0 F (Gives w0 fun v F2 => v = .tuple #[.agg #[.int .i64 0, .int .i64 0, .int .i64 61, .int .i64 100], .int .i64 0] ∧ F2 = F) :=
  (at_found w0 F 0 100 0 0 (some ⟨b8, 0, none⟩) (some ⟨b9, 0, none⟩) none 1 1 1 1 0 0 [⟨some ⟨b7, 0, none⟩, 1, 1, [(0, 60, 40)]⟩] hC (by omega) (by omega) (by unfold I64; omega) 0 (by omega) (by omega) 61 (by omega) (by omega) (by omega) (some ⟨b7, 0, none⟩) 1 1 [(0, 60, 40)] rfl aw_may 0 (by omega) (by simp [bg]) (by simp [bg, wat])).gmono fun v F2 ⟨h1, h2⟩ => ⟨h1.trans (by simp [bg, wat]), h2⟩
theorem aw_f60 : floatOfInt .f64 60 = 4633641066610819072 := by kernel_rfl
theorem aw_f100 : floatOfInt .f64 100 = 4636737291354636288 := by kernel_rfl
theorem aw_fq : floatBits .quo .f64 4633641066610819072 4636737291354636288 = some 4603579539098121011 := by kernel_rfl
theorem aw_us (b7 : Nat) : usL [⟨some ⟨b7, 0, none⟩, 1, 1, [(0, 60, 40)]⟩] (spC 0 [⟨some ⟨b7, 0, none⟩, 1, 1, [(0, 60, 40)]⟩] 1) (spC 0 [⟨some ⟨b7, 0, none⟩, 1, 1, [(0, 60, 40)]⟩] 1).length = 60 := by simp [spC, spK, kat, wat, usL, sat]
theorem aw_quo (b7 : Nat) : floatBits .quo .f64 (floatOfInt .f64 (usL [⟨some ⟨b7, 0, none⟩, 1, 1, [(0, 60, 40)]⟩] (spC 0 [⟨some ⟨b7, 0, none⟩, 1, 1, [(0, 60, 40)]⟩] 1) (spC 0 [⟨some ⟨b7, 0, none⟩, 1, 1, [(0, 60, 40)]⟩] 1).length)) (floatOfInt .f64 100) = some 4603579539098121011 := by
  rw [aw_us, aw_f60, aw_f100]
  exact aw_fq
theorem aw_share (w0 : World) (F : List Atom) (b7 b8 b9 : Nat) (hC : CR w0 F (some ⟨b8, 0, none⟩) 1 [⟨some ⟨b7, 0, none⟩, 1, 1, [(0, 60, 40)]⟩]) : CallK Try.prog 27 [.agg [Value.int .i64 0, .int .i64 100, .int .i64 0, .int .i64 0, .slice (some ⟨b8, 0, none⟩) 1 1, .slice (some ⟨b9, 0, none⟩) 1 1, .slice none 0 0].toArray, .int .i64 0] w0 F (Gives w0 fun v F2 => v = .tuple #[.float .f64 4603579539098121011, .int .i64 0] ∧ F2 = F) :=
  (share_any w0 F 0 100 0 0 (some ⟨b8, 0, none⟩) (some ⟨b9, 0, none⟩) none 1 1 1 1 0 0 [⟨some ⟨b7, 0, none⟩, 1, 1, [(0, 60, 40)]⟩] hC (by omega) (by omega) (by unfold I64; omega) 0 (by omega) (by omega) (by omega) 4603579539098121011 (fun _ => aw_quo b7)).gmono fun v F2 ⟨x, e, h1, h2, h3, h4⟩ => by
    by_cases he : e = 0
    · subst he
      obtain ⟨_, _, rfl⟩ := h3 rfl
      exact ⟨h1, h2⟩
    · rcases (h4 he).2 with ⟨_, h⟩ | ⟨_, _, h⟩
      · exact absurd ⟨by omega, by omega⟩ h
      · exact absurd (aw_full b7) h
theorem aw_rounds (w0 : World) (F : List Atom) (b7 b8 b9 : Nat) (hC : CR w0 F (some ⟨b8, 0, none⟩) 1 [⟨some ⟨b7, 0, none⟩, 1, 1, [(0, 60, 40)]⟩]) : CallK Try.prog 16 [.agg [Value.int .i64 0, .int .i64 100, .int .i64 0, .int .i64 0, .slice (some ⟨b8, 0, none⟩) 1 1, .slice (some ⟨b9, 0, none⟩) 1 1, .slice none 0 0].toArray] w0 F (Gives w0 fun v F2 => v = .int .i64 102 ∧ F2 = F) :=
  (rounds_any w0 F 0 100 0 0 (some ⟨b8, 0, none⟩) (some ⟨b9, 0, none⟩) none 1 1 1 1 0 0 [⟨some ⟨b7, 0, none⟩, 1, 1, [(0, 60, 40)]⟩] hC (by omega) (by omega) (by unfold I64; omega)).gmono fun v F2 ⟨x, h1, h2, h3, _⟩ => by
    have := h3 ⟨by omega, by omega, aw_all b7⟩
    subst this
    exact ⟨h1.trans (by simp [mx, rs, kat, wat]; omega), h2⟩
theorem aw_order : (FloatKind.f64.format.order 4603579539098121011 4603579539098121011 == some .eq) = true := by kernel_rfl
theorem awake_ok (w0 : World) (F : List Atom)  :
    CallK Try.prog 11 [] w0 (F) (Gives w0 fun v F2 => v = .bool true ∧ F2 = F) := by
  refine c_enter Try.func11 rfl rfl rfl ?_
  refine g_seq ?_
  refine g_region ?_
  refine l_assign rfl rfl ?_
  refine l_nil ?_
  refine g_seq ?_
  refine g_region ?_
  refine l_build rfl rfl (fun w => bd_40_0_1_2 _ _ _ w) ?_
  refine l_buildSlice rfl Try.underlying38 Try.sizeOf40 Try.zeroValue40 rfl rfl rfl rfl rfl rfl ?_; intro b7
  refine l_buildSlice rfl Try.underlying23 Try.sizeOf38 Try.zeroValue38 rfl rfl rfl rfl rfl rfl ?_; intro b8
  refine l_makes (sz := 8) (zl := [.string ⟨#[]⟩, .int .i64 0, .int .i64 0, .int .i64 0, .int .i64 0, .int .i64 0, .slice none 0 0, .slice none 0 0]) rfl Try.underlying24 Try.type69 rfl rfl rfl (by decide) rfl rfl (by decide) (by decide) (by decide) ?_; intro b9
  refine l_build rfl rfl (fun w => bd_27_1_4_5 _ _ _ _ _ _ _ w) ?_
  refine l_allocs rfl Try.zeroValue27 ?_; intro b1
  refine l_sts Try.sizeOf27 rfl rfl rfl rfl rfl ?_
  refine l_nil ?_
  refine g_seq ?_
  refine g_region ?_
  refine l_lds rfl Try.isAgg27 Try.sizeOf27 rfl rfl ?_
  refine l_call rfl Try.call13 rfl (aw_at _ _ b7 b8 b9 (aw_CR rfl rfl)) ?_; rintro _ _ ⟨rfl, rfl⟩
  refine l_move rfl rfl ?_
  refine l_extract rfl rfl rfl ?_
  refine l_extract rfl rfl rfl ?_
  refine l_allocs rfl Try.zeroValue30 ?_; intro b2
  refine l_sts Try.sizeOf30 rfl rfl rfl rfl rfl ?_
  refine l_assign rfl rfl ?_
  refine l_nil ?_
  refine g_seq ?_
  refine g_region ?_
  refine l_lds rfl Try.isAgg27 Try.sizeOf27 rfl rfl ?_
  refine l_call rfl Try.call27 rfl (aw_share _ _ b7 b8 b9 (aw_CR rfl rfl)) ?_; rintro _ _ ⟨rfl, rfl⟩
  refine l_move rfl rfl ?_
  refine l_extract rfl rfl rfl ?_
  refine l_extract rfl rfl rfl ?_
  refine l_assign rfl rfl ?_
  refine l_assign rfl rfl ?_
  refine l_nil ?_
  refine g_seq ?_
  refine g_region ?_
  refine l_lds rfl Try.isAgg30 Try.sizeOf30 rfl rfl ?_
  refine l_build rfl rfl (fun w => bd_30_0_1_2_3 _ _ _ _ w) ?_
  refine l_bin rfl rfl rfl (fun w => run_eqGuard_agg w _ _ _ _ _ _ Try.eqGuardType30) (fun w => sqe_30 _ _ _ _ _ _ _ _ w) ?_
  refine l_move rfl rfl ?_
  refine l_split 24 rfl ?_ ?_
  · intro hbr
    have hb24 := hbr
    refine l_guard_yes rfl rfl ?_
    refine l_move rfl rfl ?_
    refine l_guard_yes rfl rfl ?_
    refine l_eql rfl rfl rfl ?_
    refine l_pick_t rfl rfl rfl ?_
    refine l_move rfl rfl ?_
    refine l_split 28 rfl ?_ ?_
    · intro hbr
      have hbr := of_decide_eq_true hbr
      refine l_guard_yes rfl rfl ?_
      refine l_move rfl rfl ?_
      refine l_guard_yes rfl rfl ?_
      refine l_feqlt rfl rfl rfl aw_order ?_
      refine l_pick_t rfl rfl rfl ?_
      refine l_move rfl rfl ?_
      refine l_guard_yes rfl rfl ?_
      refine l_move rfl rfl ?_
      refine l_guard_yes rfl rfl ?_
      refine l_eql rfl rfl rfl ?_
      refine l_pick_t rfl rfl rfl ?_
      refine l_move rfl rfl ?_
      refine l_split 36 rfl ?_ ?_
      · intro hbr
        have hbr := of_decide_eq_true hbr
        refine l_guard_yes rfl rfl ?_
        refine l_lds rfl Try.isAgg27 Try.sizeOf27 rfl rfl ?_
        refine l_guard_yes rfl rfl ?_
        refine l_call rfl Try.call16 rfl (aw_rounds _ _ b7 b8 b9 (aw_CR rfl rfl)) ?_; rintro _ _ ⟨rfl, rfl⟩
        refine l_guard_yes rfl rfl ?_
        refine l_eql rfl rfl rfl ?_
        refine l_pick_t rfl rfl rfl ?_
        refine l_assign rfl rfl ?_
        refine l_nil ?_
        refine g_ret Try.func11 rfl (.tmp rfl .nil) ?_
        exact Gives.mki ⟨rfl, rfl⟩
      · intro hbr
        have hbr := of_decide_eq_false hbr
        (exfalso; omega)
    · intro hbr
      have hbr := of_decide_eq_false hbr
      (exfalso; omega)
  · intro hbr
    first | (exfalso; simp at hbr; done) | (exfalso; simp at hbr; omega)
end Go.Proofs.Ytfccfjgnoeocnaa.Fw
