import Derived.Test.YthemlddepepekaaBook
namespace Go.Proofs.Ythemlddepepekaa.Fw
open Go Go.Proofs
set_option linter.unusedVariables false
set_option linter.unusedSimpArgs false
set_option maxRecDepth 10000
theorem fa_61_0 (a : Addr) (w : World) : (Instr.fieldAt 61 (.pointer (some a)) 0).run Try.prog w = .ok (.pointer (some (a.add 0))) w := by
  simp [Instr.fieldAt, Try.runUnderlying61, Instr.sureAddr, fieldPlace, Try.sizeOf58, Sem.run_bind, Sem.run_pure]
theorem fa_111_0 (a : Addr) (w : World) : (Instr.fieldAt 111 (.pointer (some a)) 0).run Try.prog w = .ok (.pointer (some (a.add 0))) w := by
  simp [Instr.fieldAt, Try.runUnderlying111, Instr.sureAddr, fieldPlace, Try.sizeOf38, Sem.run_bind, Sem.run_pure]
theorem fa_111_1 (a : Addr) (w : World) : (Instr.fieldAt 111 (.pointer (some a)) 1).run Try.prog w = .ok (.pointer (some (a.add 1))) w := by
  simp [Instr.fieldAt, Try.runUnderlying111, Instr.sureAddr, fieldPlace, Try.sizeOf38, Sem.run_bind, Sem.run_pure]
theorem fa_61_1 (a : Addr) (w : World) : (Instr.fieldAt 61 (.pointer (some a)) 1).run Try.prog w = .ok (.pointer (some (a.add 1))) w := by
  simp [Instr.fieldAt, Try.runUnderlying61, Instr.sureAddr, fieldPlace, Try.sizeOf59, Sem.run_bind, Sem.run_pure]
theorem fa_111_2 (a : Addr) (w : World) : (Instr.fieldAt 111 (.pointer (some a)) 2).run Try.prog w = .ok (.pointer (some (a.add 2))) w := by
  simp [Instr.fieldAt, Try.runUnderlying111, Instr.sureAddr, fieldPlace, Try.sizeOf38, Sem.run_bind, Sem.run_pure]
theorem fa_111_3 (a : Addr) (w : World) : (Instr.fieldAt 111 (.pointer (some a)) 3).run Try.prog w = .ok (.pointer (some (a.add 3))) w := by
  simp [Instr.fieldAt, Try.runUnderlying111, Instr.sureAddr, fieldPlace, Try.sizeOf38, Sem.run_bind, Sem.run_pure]
def mk0 (i : Int) : Int := (2 * i % 4294967296 + 2684354561) % 4294967296
def mg0 (i : Int) : Int := (2 * i % 4294967296 + 2684354562) % 4294967296
/-- The lists that were told, marked; and what stands then. -/
def apA (B : Nat → BK) (c : Nat → List Int) : Nat → Atom := fun k => Own 51 1 (.slice (B k).la (B k).n (B k).lc) (B k).n (ints .u32 (c k))
def apZ (n : Nat) (k : Nat) : List Value := ints .u32 (List.replicate n (mk0 k) ++ List.replicate 64 (mg0 k))
def apB (B : Nat → BK) (i : Nat) (X Y : Nat → Value) : Nat → Atom := fun k => if k < i then Fam 51 1 (apZ (B k).n k) [(Y k, (B k).n + 64), (X k, (B k).n + 17), (.slice (B k).la (B k).n (B k).lc, (B k).n)] else Own 51 1 (.slice (B k).la (B k).n (B k).lc) (B k).n (ints .u32 (List.replicate (B k).n (mk0 k)))
theorem apB_now {B : Nat → BK} {i : Nat} {X Y : Nat → Value} {la lc wa wc n c} (hk : B i = ⟨la, lc, wa, wc, n, c⟩) : apB B i X Y i = Own 51 1 (.slice la n lc) n (ints .u32 (List.replicate n (mk0 i))) := by
  unfold apB
  rw [if_neg (by omega), hk]
theorem apB_done {B : Nat → BK} {i : Nat} {X Y : Nat → Value} {x y : Value} {la lc wa wc n c} (hk : B i = ⟨la, lc, wa, wc, n, c⟩) : apB B (i + 1) (upF X i x) (upF Y i y) i = Fam 51 1 (ints .u32 (List.replicate n (mk0 i) ++ List.replicate 64 (mg0 i))) [(y, n + 64), (x, n + 17), (.slice la n lc, n)] := by
  unfold apB apZ
  rw [if_pos (by omega), upF_at, upF_at, hk]
theorem apB_keep {B : Nat → BK} {i k : Nat} {X Y : Nat → Value} {x y : Value} (h : k ≠ i) : apB B (i + 1) (upF X i x) (upF Y i y) k = apB B i X Y k := by
  unfold apB
  by_cases hk : k < i
  · rw [if_pos (by omega), if_pos hk, upF_ne h, upF_ne h]
  · rw [if_neg (by omega), if_neg hk]
theorem apB_read {B : Nat → BK} {N i : Nat} {X Y : Nat → Value} {la lc wa wc n c} (hk : B i = ⟨la, lc, wa, wc, n, c⟩) (hi : i < N) : apB B N X Y i = Fam 51 1 (ints .u32 (List.replicate n (mk0 i) ++ List.replicate 64 (mg0 i))) [(Y i, n + 64), (X i, n + 17), (.slice la n lc, n)] := by
  unfold apB apZ
  rw [if_pos hi, hk]
/-- The rows, with what has grown. -/
def bkR2 (B : Nat → BK) (X Y : Nat → Value) (k : Nat) : List Value := [.slice (B k).la (B k).n (B k).lc, .slice (B k).wa (B k).n (B k).wc, X k, Y k]
theorem bkR2_len (B : Nat → BK) (X Y : Nat → Value) (N : Nat) : ∀ q, q < N → (bkR2 B X Y q).length = 4 := fun q _ => rfl
theorem bkR2_X {B : Nat → BK} {X Y : Nat → Value} {N i : Nat} {x : Value} (hi : i < N) : (rowsN N (bkR2 B X Y)).set (0 + i * 4 + 2) x = rowsN N (bkR2 B (upF X i x) Y) := by
  rw [show 0 + i * 4 + 2 = i * 4 + 2 by omega, rowsN_set (bkR2_len B X Y N) hi (by decide)]
  refine rowsN_congr fun k hk => ?_
  by_cases e : k = i
  · subst e; simp [bkR2, upF_at]
  · rw [if_neg e]; simp [bkR2, upF_ne e]
theorem bkR2_Y {B : Nat → BK} {X Y : Nat → Value} {N i : Nat} {y : Value} (hi : i < N) : (rowsN N (bkR2 B X Y)).set (0 + i * 4 + 3) y = rowsN N (bkR2 B X (upF Y i y)) := by
  rw [show 0 + i * 4 + 3 = i * 4 + 3 by omega, rowsN_set (bkR2_len B X Y N) hi (by decide)]
  refine rowsN_congr fun k hk => ?_
  by_cases e : k = i
  · subst e; simp [bkR2, upF_at]
  · rw [if_neg e]; simp [bkR2, upF_ne e]
theorem rr_len (n : Nat) (x y : Int) (m : Nat) : (ints .u32 (List.replicate n x ++ List.replicate m y)).length = n + m := by rw [ints_length, List.length_append, List.length_replicate, List.length_replicate]
theorem rr_get {n m q : Nat} {x y : Int} (h : q < n + m) : (ints .u32 (List.replicate n x ++ List.replicate m y))[q]? = some (.int .u32 (if q < n then x else y)) := by
  rw [ints_get (by rw [← ints_length .u32, rr_len]; exact h), getD_repapp h]
theorem r_get {m q : Nat} {y : Int} (h : q < m) : (ints .u32 (List.replicate m y))[q]? = some (.int .u32 y) := by
  simp [ints, h]
class FrontF (F : List Atom) (B : outParam Atom) (F' : outParam (List Atom)) : Prop where
  perm : F.Perm (B :: F')
instance (priority := 2000) frontF_here {E sz : Nat} {Z : List Value} {vs : List (Value × Nat)} {F : List Atom} : FrontF (Fam E sz Z vs :: F) (Fam E sz Z vs) F := ⟨.refl _⟩
instance frontF_there {A B : Atom} {F F' : List Atom} [h : FrontF F B F'] : FrontF (A :: F) B (A :: F') := ⟨(h.perm.cons A).trans (.swap _ _ _)⟩
section
variable {P : Program} {f : Fr} {w0 : World} {K : Post} {n : Nat} {d : List Deferred} {ops : Array Oper} {rest : List Oper} {k : List Item} {e : Env} {F : List Atom}
theorem l_frontf {B F'} [h : FrontF F B F'] (hk : GL P f w0 K n d ops rest k e (B :: F')) : GL P f w0 K n d ops rest k e F := gl_heap (fun w hw => hw.perm h.perm) hk
theorem gp_frontf {D A : List Nat} {B F'} [h : FrontF F B F'] (hk : GP P f w0 K n d ops k D A e (B :: F')) : GP P f w0 K n d ops k D A e F := fun hreg hac hPA hp => by
  intro X hX fuel listed a w h1 h2 h3 h4 hw
  exact hk hreg hac hPA (hp.perm h.perm) X hX fuel listed a w h1 h2 h3 h4 (hw.perm h.perm)
theorem g_frontv_fam {B F'} [h : FrontF F B F'] (hk : G P f w0 K n d k e (B :: F')) : G P f w0 K n d k e F := g_heap (fun w hw => hw.perm h.perm) hk
end
set_option maxHeartbeats 8000000 in
theorem settled_ok (w0 : World) (F : List Atom) (kb : Nat) (v0 v1 v2 v3 v4 : Value) (ka : Option Addr) (K kc : Nat) (B : Nat → BK) (hB : ∀ j, j < K → BkOk (B j)) (hK : K ≤ 1099511627776) (hka : K = 0 ∨ ∃ g, ka = some ⟨g, 0, none⟩) :
    CallK Try.prog 25 [.pointer (some ⟨kb, 5, none⟩)] w0 (Blk kb (.cells [v0, v1, v2, v3, v4, .slice ka K kc, .slice none 0 0].toArray 63 (0, 0)) :: Own 111 4 (.slice ka K kc) K (rowsN K (fun j => bkR (B j))) :: BigF K (fun j => bkA (B j)) :: F) (Gives w0 fun v F2 => v = .bool true ∧ F2 = F) := by
  refine c_enter Try.func25 rfl rfl rfl ?_
  refine g_seq ?_
  refine g_region ?_
  refine l_assign rfl rfl ?_
  refine l_nil ?_
  refine g_seq ?_
  refine g_region ?_
  refine l_assign rfl rfl ?_
  refine l_nil ?_
  refine g_seq ?_
  refine g_seq ?_
  refine g_region ?_
  refine l_assign rfl rfl ?_
  refine l_nil ?_
  refine g_block ?_
  refine g_loopc (X := Int) [(0, _), (2, _)] (.cons rfl (.cons rfl (.nil))) (fun i => 0 ≤ i ∧ i ≤ K) (fun i => ((K : Int) - i).toNat) (fun i => [(3, .bool true), (4, .int .i64 i)]) (0) (by omega) (.cons rfl (.cons rfl .nil)) ?_
  rintro i ⟨i0, i1⟩ ih
  dsimp only [List.cons_append, List.nil_append] at ih ⊢
  refine g_seq ?_
  refine g_seq ?_
  refine g_region ?_
  refine l_move rfl rfl ?_
  refine l_move rfl rfl ?_
  refine l_nilCheck rfl rfl ?_
  refine l_fieldAddr rfl fa_61_0 rfl ?_
  refine l_ld rfl Try.isAgg58 rfl rfl ?_
  refine l_len rfl Try.underlying58 rfl ?_
  refine l_lss rfl rfl rfl ?_
  refine l_nil ?_
  refine g_cond rfl ?_ ?_
  · intro hbr
    have hbr := of_decide_eq_true hbr
    refine g_skip ?_
    refine g_seq ?_
    refine g_block ?_
    refine g_seq ?_
    refine gp_start mo (by kernel_rfl) (by kernel_rfl) ?_
    obtain ⟨gk, rfl⟩ := hka.resolve_left (by omega)
    have hbk := hB i.toNat (by omega)
    refine gp_quiet 0 rfl rfl rfl rfl rfl rfl (q_move rfl) ?_
    refine gp_quiet 1 rfl rfl rfl rfl rfl rfl (q_nilCheck rfl) ?_
    refine gp_quiet 2 rfl rfl rfl rfl rfl rfl (q_fieldAddr fa_61_0 rfl) ?_
    refine gp_quiet 3 rfl rfl rfl rfl rfl rfl (q_ld Try.isAgg58 rfl rfl) ?_
    refine gp_quiet 4 rfl rfl rfl rfl rfl rfl (q_move rfl) ?_
    refine gp_quiet 5 rfl rfl rfl rfl rfl rfl (q_ixs Try.underlying58 Try.sizeOf111 rfl rfl (by omega) (by omega)) ?_
    refine gp_quiet 6 rfl rfl rfl rfl rfl rfl (q_fieldAddr fa_111_0 rfl) ?_
    refine gp_quiet 7 rfl rfl rfl rfl rfl rfl (q_loadc (v := .slice (B i.toNat).la (B i.toNat).n (B i.toNat).lc) Try.isAgg38 rfl (rn_cell (f := fun j => bkR (B j)) (k := i.toNat) (j := 0) (by first | exact mem_getO 0 rfl | exact mem_getO 1 rfl | exact mem_getO 2 rfl | exact mem_getO 3 rfl | exact mem_getO 4 rfl | exact mem_getO 5 rfl | exact mem_getO 6 rfl | exact mem_getO 7 rfl) (bkR_len B K) (by omega) (by decide) rfl)) ?_
    refine gp_quiet 8 rfl rfl rfl rfl rfl rfl (q_move rfl) ?_
    refine gp_quiet 9 rfl rfl rfl rfl rfl rfl (q_nilCheck rfl) ?_
    refine gp_quiet 10 rfl rfl rfl rfl rfl rfl (q_fieldAddr fa_61_0 rfl) ?_
    refine gp_quiet 11 rfl rfl rfl rfl rfl rfl (q_ld Try.isAgg58 rfl rfl) ?_
    refine gp_quiet 12 rfl rfl rfl rfl rfl rfl (q_move rfl) ?_
    refine gp_quiet 13 rfl rfl rfl rfl rfl rfl (q_ixs Try.underlying58 Try.sizeOf111 rfl rfl (by omega) (by omega)) ?_
    refine gp_quiet 14 rfl rfl rfl rfl rfl rfl (q_fieldAddr fa_111_1 rfl) ?_
    refine gp_quiet 15 rfl rfl rfl rfl rfl rfl (q_loadc (v := .slice (B i.toNat).wa (B i.toNat).n (B i.toNat).wc) Try.isAgg38 rfl (rn_cell (f := fun j => bkR (B j)) (k := i.toNat) (j := 1) (by first | exact mem_getO 0 rfl | exact mem_getO 1 rfl | exact mem_getO 2 rfl | exact mem_getO 3 rfl | exact mem_getO 4 rfl | exact mem_getO 5 rfl | exact mem_getO 6 rfl | exact mem_getO 7 rfl) (bkR_len B K) (by omega) (by decide) rfl)) ?_
    refine gp_effa 16 [7, 15] [14, 13, 12, 11, 10, 9, 8, 6, 5, 4, 3, 2, 1, 0] rfl rfl rfl rfl rfl rfl rfl (does_call Try.call24 rfl (samew_ok _ _ _ _ _ _ _ (B i.toNat).c (bk_ir (by first | exact mem_getO 0 rfl | exact mem_getO 1 rfl | exact mem_getO 2 rfl | exact mem_getO 3 rfl | exact mem_getO 4 rfl | exact mem_getO 5 rfl | exact mem_getO 6 rfl | exact mem_getO 7 rfl | exact mem_getO 8 rfl | exact mem_getO 9 rfl | exact mem_getO 10 rfl | exact mem_getO 11 rfl) (by omega) hbk).1 (bk_ir (by first | exact mem_getO 0 rfl | exact mem_getO 1 rfl | exact mem_getO 2 rfl | exact mem_getO 3 rfl | exact mem_getO 4 rfl | exact mem_getO 5 rfl | exact mem_getO 6 rfl | exact mem_getO 7 rfl | exact mem_getO 8 rfl | exact mem_getO 9 rfl | exact mem_getO 10 rfl | exact mem_getO 11 rfl) (by omega) hbk).2 hbk.2.2.1 (by have := hbk.2.1; omega))) ?_
    rintro _ _ ⟨rfl, rfl⟩
    refine ⟨?_, ?_⟩
    · refine .cons rfl rfl rfl rfl rfl (q_fieldAddr fa_111_1 rfl) ?_
      refine .cons rfl rfl rfl rfl rfl (q_ixs Try.underlying58 Try.sizeOf111 rfl rfl (by omega) (by omega)) ?_
      refine .cons rfl rfl rfl rfl rfl (q_move rfl) ?_
      refine .cons rfl rfl rfl rfl rfl (q_ld Try.isAgg58 rfl rfl) ?_
      refine .cons rfl rfl rfl rfl rfl (q_fieldAddr fa_61_0 rfl) ?_
      refine .cons rfl rfl rfl rfl rfl (q_nilCheck rfl) ?_
      refine .cons rfl rfl rfl rfl rfl (q_move rfl) ?_
      refine .cons rfl rfl rfl rfl rfl (q_fieldAddr fa_111_0 rfl) ?_
      refine .cons rfl rfl rfl rfl rfl (q_ixs Try.underlying58 Try.sizeOf111 rfl rfl (by omega) (by omega)) ?_
      refine .cons rfl rfl rfl rfl rfl (q_move rfl) ?_
      refine .cons rfl rfl rfl rfl rfl (q_ld Try.isAgg58 rfl rfl) ?_
      refine .cons rfl rfl rfl rfl rfl (q_fieldAddr fa_61_0 rfl) ?_
      refine .cons rfl rfl rfl rfl rfl (q_nilCheck rfl) ?_
      refine .cons rfl rfl rfl rfl rfl (q_move rfl) ?_
      exact .nil
    refine gp_quiet 17 rfl rfl rfl rfl rfl rfl (q_assign rfl) ?_
    refine gp_end rfl rfl ?_
    refine g_region ?_
    refine l_move rfl rfl ?_
    refine l_move rfl rfl ?_
    refine l_split 57 rfl ?_ ?_
    · intro hbr
      refine l_guard_yes rfl rfl ?_
      refine l_move rfl rfl ?_
      refine l_pick_t rfl rfl rfl ?_
      refine l_assign rfl rfl ?_
      refine l_nil ?_
      refine g_inBlock ?_
      refine g_region ?_
      refine l_move rfl rfl ?_
      first | refine l_add rfl rfl rfl (w_i64 (by omega) (by omega)) ?_ | refine l_addw rfl rfl rfl ?_
      refine l_assign rfl rfl ?_
      refine l_nil ?_
      exact g_againi (ih (i + 1) (by omega) (by omega)) (.cons rfl (.cons rfl (.cons rfl (.cons rfl (.nil)))))
    · intro hbr
      first | (exfalso; simp at hbr; done) | (exfalso; simp at hbr; omega) | (exfalso; first | omega | (simp at hbr; done))
  intro hbr
  have hbr := of_decide_eq_false hbr
  refine g_exit rfl ?_
  refine g_heap (F' := Blk kb (.cells [v0, v1, v2, v3, v4, .slice ka K kc, .slice none 0 0].toArray 63 (0, 0)) :: Own 111 4 (.slice ka K kc) K (rowsN K (bkR2 B (fun _ => Value.slice none 0 0) (fun _ => Value.slice none 0 0))) :: BigF K (apA B (fun k => (B k).c)) :: F) (fun w hw => ?_) ?_
  · have h1 : Holds w0 (BigF K (fun j => bkA (B j)) :: Blk kb (.cells [v0, v1, v2, v3, v4, .slice ka K kc, .slice none 0 0].toArray 63 (0, 0)) :: Own 111 4 (.slice ka K kc) K (rowsN K (fun j => bkR (B j))) :: F) w := SPI.holds hw
    exact (SPI.holds (BigF.mono (B := apA B (fun k => (B k).c)) h1 (fun k hk ho => ho.1) (fun k hk b hb => .inl hb)) : Holds w0 (Blk kb (.cells [v0, v1, v2, v3, v4, .slice ka K kc, .slice none 0 0].toArray 63 (0, 0)) :: Own 111 4 (.slice ka K kc) K (rowsN K (fun j => bkR (B j))) :: BigF K (apA B (fun k => (B k).c)) :: F) w)
  refine g_seq ?_
  refine g_seq ?_
  refine g_region ?_
  refine l_assign rfl rfl ?_
  refine l_nil ?_
  refine g_block ?_
  refine g_unroll ?_
  refine g_seq ?_
  refine g_seq ?_
  refine g_region ?_
  refine l_move rfl rfl ?_
  refine l_move rfl rfl ?_
  refine l_nilCheck rfl rfl ?_
  refine l_fieldAddr rfl fa_61_1 rfl ?_
  refine l_ld rfl Try.isAgg59 rfl rfl ?_
  refine l_len rfl Try.underlying59 rfl ?_
  refine l_lss rfl rfl rfl ?_
  refine l_nil ?_
  first | refine g_cond_f rfl ?_ | refine g_cond_f (congrArg (fun b => some (Value.bool b)) (decide_eq_false hbr)) ?_
  refine g_exit rfl ?_
  refine g_seq ?_
  refine g_seq ?_
  refine g_region ?_
  refine l_assign rfl rfl ?_
  refine l_nil ?_
  refine g_block ?_
  refine g_loopk (X := Int × (Nat → List Int)) [(0, _), (2, _), (3, _)] (.cons rfl (.cons rfl (.cons rfl (.nil)))) (fun z => 0 ≤ z.1 ∧ z.1 ≤ K ∧ ∀ k : Nat, (k : Int) < z.1 → z.2 k = List.replicate (B k).n (mk0 k)) (fun z => ((K : Int) - z.1).toNat) (fun z => [(8, .int .i64 z.1)]) (fun z => Blk kb (.cells [v0, v1, v2, v3, v4, .slice ka K kc, .slice none 0 0].toArray 63 (0, 0)) :: Own 111 4 (.slice ka K kc) K (rowsN K (bkR2 B (fun _ => Value.slice none 0 0) (fun _ => Value.slice none 0 0))) :: BigF K (apA B z.2) :: F) ((0, fun k => (B k).c)) (⟨by simp only; omega, by simp only; omega, fun k hk => by simp only at hk; omega⟩) (.cons rfl .nil) (fun w hw => SPI.holds hw) ?_
  rintro ⟨i, c⟩ ⟨i0, i1, hc⟩ ih
  dsimp only [List.cons_append, List.nil_append] at ih ⊢
  simp only at i0 i1 hc
  refine g_seq ?_
  refine g_seq ?_
  refine g_region ?_
  refine l_move rfl rfl ?_
  refine l_move rfl rfl ?_
  refine l_nilCheck rfl rfl ?_
  refine l_fieldAddr rfl fa_61_0 rfl ?_
  refine l_ld rfl Try.isAgg58 rfl rfl ?_
  refine l_len rfl Try.underlying58 rfl ?_
  refine l_lss rfl rfl rfl ?_
  refine l_nil ?_
  refine g_cond rfl ?_ ?_
  · intro hbr
    have hbr := of_decide_eq_true hbr
    refine g_skip ?_
    refine g_seq ?_
    refine g_block ?_
    refine g_seq ?_
    refine g_region ?_
    refine l_assign rfl rfl ?_
    refine l_nil ?_
    refine g_block ?_
    obtain ⟨gk, rfl⟩ := hka.resolve_left (by omega)
    obtain ⟨⟨la, lc, wa, wc, n, c9⟩, hk⟩ : ∃ x, B i.toNat = x := ⟨_, rfl⟩
    have hbk := hB i.toNat (by omega)
    rw [hk] at hbk
    obtain ⟨hb1, hb2, _, hla, _⟩ := hbk
    simp only at hb1 hb2 hla
    refine g_take (BigF K (apA B c)) ?_
    refine g_focus i.toNat (by omega) ?_
    rw [show apA B c i.toNat = Own 51 1 (.slice la n lc) n (ints .u32 (c i.toNat)) by simp [apA, hk]]
    refine g_fact (fun w hw => Own.len hw (mem_getO 0 rfl)) ?_
    intro hcl
    rw [ints_length, Nat.mul_one] at hcl
    refine g_loopk (X := Int × List Int) [(0, _), (2, _), (3, _), (8, _), (90, _), (91, _), (92, _), (93, _), (94, _), (95, _), (96, _)] (.cons rfl (.cons rfl (.cons rfl (.cons rfl (.cons rfl (.cons rfl (.cons rfl (.cons rfl (.cons rfl (.cons rfl (.cons rfl (.nil)))))))))))) (fun z => 0 ≤ z.1 ∧ z.1 ≤ n ∧ z.2.length = n ∧ ∀ q, q < z.1.toNat → z.2.getD q 0 = mk0 i) (fun z => (n - z.1).toNat) (fun z => [(9, .int .i64 z.1)]) (fun z => Own 51 1 (.slice la n lc) n (ints .u32 z.2) :: BigBut K i.toNat (apA B c) :: Blk kb (.cells [v0, v1, v2, v3, v4, .slice (some ⟨gk, 0, none⟩) K kc, .slice none 0 0].toArray 63 (0, 0)) :: Own 111 4 (.slice (some ⟨gk, 0, none⟩) K kc) K (rowsN K (bkR2 B (fun _ => Value.slice none 0 0) (fun _ => Value.slice none 0 0))) :: F) ((0, c i.toNat)) (⟨by simp only; omega, by simp only; omega, hcl, fun q hq => by simp only at hq; omega⟩) (.cons rfl .nil) (fun w hw => SPI.holds hw) ?_
    rintro ⟨j, W⟩ ⟨j0, j1, hWl, hq⟩ ihj
    dsimp only [List.cons_append, List.nil_append] at ihj ⊢
    simp only at j0 j1 hWl hq
    refine g_seq ?_
    refine g_seq ?_
    refine g_region ?_
    refine l_move rfl rfl ?_
    refine l_move rfl rfl ?_
    refine l_nilCheck rfl rfl ?_
    refine l_fieldAddr rfl fa_61_0 rfl ?_
    refine l_ld rfl Try.isAgg58 rfl rfl ?_
    refine l_move rfl rfl ?_
    refine l_ixs rfl Try.underlying58 Try.sizeOf111 rfl rfl (by omega) (by omega) ?_
    refine l_fieldAddr rfl fa_111_0 rfl ?_
    refine l_loadc (v := .slice la n lc) rfl Try.isAgg38 rfl (rn_cell (k := i.toNat) (j := 0) (by first | exact mem_getO 0 rfl | exact mem_getO 1 rfl | exact mem_getO 2 rfl | exact mem_getO 3 rfl | exact mem_getO 4 rfl | exact mem_getO 5 rfl | exact mem_getO 6 rfl | exact mem_getO 7 rfl) (bkR2_len B _ _ K) (by omega) (by decide) (by simp [bkR2, hk])) ?_
    refine l_len rfl Try.underlying38 rfl ?_
    refine l_lss rfl rfl rfl ?_
    refine l_nil ?_
    refine g_cond rfl ?_ ?_
    · intro hbr
      have hbr := of_decide_eq_true hbr
      refine g_skip ?_
      refine g_seq ?_
      refine g_block ?_
      refine g_region ?_
      refine l_move rfl rfl ?_
      refine l_nilCheck rfl rfl ?_
      refine l_fieldAddr rfl fa_61_0 rfl ?_
      refine l_ld rfl Try.isAgg58 rfl rfl ?_
      refine l_move rfl rfl ?_
      refine l_ixs rfl Try.underlying58 Try.sizeOf111 rfl rfl (by omega) (by omega) ?_
      refine l_fieldAddr rfl fa_111_0 rfl ?_
      refine l_loadc (v := .slice la n lc) rfl Try.isAgg38 rfl (rn_cell (k := i.toNat) (j := 0) (by first | exact mem_getO 0 rfl | exact mem_getO 1 rfl | exact mem_getO 2 rfl | exact mem_getO 3 rfl | exact mem_getO 4 rfl | exact mem_getO 5 rfl | exact mem_getO 6 rfl | exact mem_getO 7 rfl) (bkR2_len B _ _ K) (by omega) (by decide) (by simp [bkR2, hk])) ?_
      refine l_move rfl rfl ?_
      refine l_move rfl rfl ?_
      refine l_mul rfl rfl rfl (w_i64 (by omega) (by omega)) ?_
      refine l_convm (m := 4294967296) rfl wr_u32 Try.underlying3 Try.underlying51 rfl ?_
      refine l_addm (m := 4294967296) rfl wr_u32 rfl rfl ?_
      rw [show (2 * i % 4294967296 + 2684354561) % 4294967296 = mk0 i from rfl]
      obtain ⟨g9, rfl⟩ := hla.resolve_left (by omega)
      refine l_ixs rfl Try.underlying38 Try.sizeOf51 rfl rfl (by omega) (by omega) ?_
      refine l_take (Own 51 1 (.slice (some ⟨g9, 0, none⟩) n lc) n (ints .u32 W)) ?_
      refine l_storew 0 Try.sizeOf51 rfl rfl rfl (by omega) rfl ?_
      refine l_nil ?_
      refine g_inBlock ?_
      refine g_region ?_
      refine l_move rfl rfl ?_
      first | refine l_add rfl rfl rfl (w_i64 (by omega) (by omega)) ?_ | refine l_addw rfl rfl rfl ?_
      refine l_assign rfl rfl ?_
      refine l_nil ?_
      have hrn := rep_next hWl hq (show j.toNat < n by omega)
      rw [show j.toNat + 1 = (j + 1).toNat by omega] at hrn
      exact g_againi (ihj (j + 1, W.set j.toNat (mk0 i)) ⟨by simp only; omega, by simp only; omega, by simpa using hWl, hrn⟩ (by simp only; omega)) (.cons rfl (.cons rfl (.cons rfl (.cons rfl (.cons rfl (.cons rfl (.cons rfl (.cons rfl (.cons rfl (.cons rfl (.cons rfl (.cons rfl (.nil)))))))))))))
    intro hbr
    have hbr := of_decide_eq_false hbr
    refine g_exit rfl ?_
    obtain rfl : j = n := by omega
    rw [Int.toNat_natCast] at hq
    have hWr := rep_full hWl hq
    subst hWr
    refine g_take (BigBut K i.toNat (apA B c)) ?_
    refine g_take (Own 51 1 (.slice la n lc) n (ints .u32 (List.replicate n (mk0 i)))) ?_
    refine g_unfocus (apA B (fun k => if k = i.toNat then List.replicate n (mk0 i) else c k)) (by simp [apA, hk]) (fun k _ hki => by simp [apA, hki]) ?_
    refine g_inBlock ?_
    refine g_region ?_
    refine l_move rfl rfl ?_
    first | refine l_add rfl rfl rfl (w_i64 (by omega) (by omega)) ?_ | refine l_addw rfl rfl rfl ?_
    refine l_assign rfl rfl ?_
    refine l_nil ?_
    refine g_againi (ih (i + 1, fun k => if k = i.toNat then List.replicate n (mk0 i) else c k) ⟨by simp only; omega, by simp only; omega, fun k hk2 => ?_⟩ (by simp only; omega)) (.cons rfl (.cons rfl (.cons rfl (.cons rfl (.nil)))))
    simp only at hk2 ⊢
    by_cases hki : k = i.toNat
    · subst hki
      rw [if_pos rfl, hk, Int.toNat_of_nonneg i0]
    · rw [if_neg hki]; exact hc k (by omega)
  intro hbr
  have hbr := of_decide_eq_false hbr
  refine g_exit rfl ?_
  obtain rfl : i = K := by omega
  refine g_take (BigF K (apA B c)) ?_
  refine g_bigcongr (apB B 0 (fun _ => Value.slice none 0 0) (fun _ => Value.slice none 0 0)) (fun k hk => by simp [apA, apB, hc k (by omega)]) ?_
  refine g_seq ?_
  refine g_seq ?_
  refine g_region ?_
  refine l_assign rfl rfl ?_
  refine l_nil ?_
  refine g_block ?_
  refine g_unroll ?_
  refine g_seq ?_
  refine g_seq ?_
  refine g_region ?_
  refine l_move rfl rfl ?_
  refine l_move rfl rfl ?_
  refine l_nilCheck rfl rfl ?_
  refine l_fieldAddr rfl fa_61_1 rfl ?_
  refine l_ld rfl Try.isAgg59 rfl rfl ?_
  refine l_len rfl Try.underlying59 rfl ?_
  refine l_lss rfl rfl rfl ?_
  refine l_nil ?_
  first | refine g_cond_f rfl ?_ | refine g_cond_f (congrArg (fun b => some (Value.bool b)) (decide_eq_false hbr)) ?_
  refine g_exit rfl ?_
  refine g_seq ?_
  refine g_seq ?_
  refine g_region ?_
  refine l_assign rfl rfl ?_
  refine l_nil ?_
  refine g_block ?_
  refine g_loopk (X := Int × (Nat → Value) × (Nat → Value)) [(0, _), (2, _), (3, _)] (.cons rfl (.cons rfl (.cons rfl (.nil)))) (fun z => 0 ≤ z.1 ∧ z.1 ≤ K) (fun z => ((K : Int) - z.1).toNat) (fun z => [(12, .int .i64 z.1)]) (fun z => Blk kb (.cells [v0, v1, v2, v3, v4, .slice ka K kc, .slice none 0 0].toArray 63 (0, 0)) :: Own 111 4 (.slice ka K kc) K (rowsN K (bkR2 B z.2.1 z.2.2)) :: BigF K (apB B z.1.toNat z.2.1 z.2.2) :: F) ((0, (fun _ => Value.slice none 0 0), (fun _ => Value.slice none 0 0))) (⟨by simp only; omega, by simp only; omega⟩) (.cons rfl .nil) (fun w hw => (SPI.holds hw : Holds w0 (Blk kb (.cells [v0, v1, v2, v3, v4, .slice ka K kc, .slice none 0 0].toArray 63 (0, 0)) :: Own 111 4 (.slice ka K kc) K (rowsN K (bkR2 B (fun _ => Value.slice none 0 0) (fun _ => Value.slice none 0 0))) :: BigF K (apB B 0 (fun _ => Value.slice none 0 0) (fun _ => Value.slice none 0 0)) :: F) w)) ?_
  rintro ⟨i, X, Y⟩ ⟨i0, i1⟩ ih
  dsimp only [List.cons_append, List.nil_append] at ih ⊢
  simp only at i0 i1
  refine g_seq ?_
  refine g_seq ?_
  refine g_region ?_
  refine l_move rfl rfl ?_
  refine l_move rfl rfl ?_
  refine l_nilCheck rfl rfl ?_
  refine l_fieldAddr rfl fa_61_0 rfl ?_
  refine l_ld rfl Try.isAgg58 rfl rfl ?_
  refine l_len rfl Try.underlying58 rfl ?_
  refine l_lss rfl rfl rfl ?_
  refine l_nil ?_
  refine g_cond rfl ?_ ?_
  · intro hbr
    have hbr := of_decide_eq_true hbr
    refine g_skip ?_
    refine g_seq ?_
    refine g_block ?_
    refine g_seq ?_
    refine g_region ?_
    obtain ⟨gk, rfl⟩ := hka.resolve_left (by omega)
    obtain ⟨⟨la, lc, wa, wc, n, c9⟩, hk⟩ : ∃ x, B i.toNat = x := ⟨_, rfl⟩
    have hbk := hB i.toNat (by omega)
    rw [hk] at hbk
    obtain ⟨hb1, hb2, _, hla, _⟩ := hbk
    simp only at hb1 hb2 hla
    refine l_move rfl rfl ?_
    refine l_nilCheck rfl rfl ?_
    refine l_fieldAddr rfl fa_61_0 rfl ?_
    refine l_ld rfl Try.isAgg58 rfl rfl ?_
    refine l_move rfl rfl ?_
    refine l_ixs rfl Try.underlying58 Try.sizeOf111 rfl rfl (by omega) (by omega) ?_
    refine l_fieldAddr rfl fa_111_0 rfl ?_
    refine l_loadc (v := .slice la n lc) rfl Try.isAgg38 rfl (rn_cell (k := i.toNat) (j := 0) (by first | exact mem_getO 0 rfl | exact mem_getO 1 rfl | exact mem_getO 2 rfl | exact mem_getO 3 rfl | exact mem_getO 4 rfl | exact mem_getO 5 rfl | exact mem_getO 6 rfl | exact mem_getO 7 rfl) (bkR2_len B _ _ K) (by omega) (by decide) (by simp [bkR2, hk])) ?_
    refine l_assign rfl rfl ?_
    refine l_nil ?_
    refine g_seq ?_
    refine g_region ?_
    refine l_assign rfl rfl ?_
    refine l_nil ?_
    refine g_seq ?_
    refine g_seq ?_
    refine g_region ?_
    refine l_assign rfl rfl ?_
    refine l_nil ?_
    refine g_block ?_
    refine g_take (BigF K (apB B i.toNat X Y)) ?_
    refine g_focus i.toNat (by omega) ?_
    rw [apB_now hk, Int.toNat_of_nonneg i0]
    refine g_fam (ints .u32 (List.replicate n (mk0 i) ++ List.replicate 64 (mg0 i))) (fun q hq => by rw [rr_get (by omega), if_pos (by omega), r_get (by omega)]) (by rw [rr_len]; omega) ?_
    refine g_heap (fun w hw => Fam.mono (vs' := [(.slice la n lc, n + min (0 : Int).toNat 17), (.slice la n lc, n)]) hw (fun p hp => by simpa using hp)) ?_
    refine g_own_nil 51 1 ?_
    refine g_loopk (X := Int × Value × Value) [(0, _), (2, _), (3, _), (12, _), (161, _), (162, _), (163, _), (164, _), (165, _), (166, _), (167, _), (170, _), (171, _), (172, _), (173, _), (174, _), (175, _), (176, _), (177, _)] (.cons rfl (.cons rfl (.cons rfl (.cons rfl (.cons rfl (.cons rfl (.cons rfl (.cons rfl (.cons rfl (.cons rfl (.cons rfl (.cons rfl (.cons rfl (.cons rfl (.cons rfl (.cons rfl (.cons rfl (.cons rfl (.cons rfl (.nil)))))))))))))))))))) (fun z => 0 ≤ z.1 ∧ z.1 ≤ 64) (fun z => (64 - z.1).toNat) (fun z => [(13, z.2.1), (14, z.2.2), (15, .int .i64 z.1)]) (fun z => Fam 51 1 (ints .u32 (List.replicate n (mk0 i) ++ List.replicate 64 (mg0 i))) [(z.2.1, n + min z.1.toNat 17), (.slice la n lc, n)] :: Own 51 1 z.2.2 z.1.toNat (ints .u32 (List.replicate z.1.toNat (mg0 i))) :: BigBut K i.toNat (apB B i.toNat X Y) :: Blk kb (.cells [v0, v1, v2, v3, v4, .slice (some ⟨gk, 0, none⟩) K kc, .slice none 0 0].toArray 63 (0, 0)) :: Own 111 4 (.slice (some ⟨gk, 0, none⟩) K kc) K (rowsN K (bkR2 B X Y)) :: F) ((0, .slice la n lc, .slice none 0 0)) (⟨by simp only; omega, by simp only; omega⟩) (.cons rfl (.cons rfl (.cons rfl .nil))) (fun w hw => (SPI.holds hw : Holds w0 (Fam 51 1 (ints .u32 (List.replicate n (mk0 i) ++ List.replicate 64 (mg0 i))) [(.slice la n lc, n + min (0 : Int).toNat 17), (.slice la n lc, n)] :: Own 51 1 (.slice none 0 0) 0 [] :: BigBut K i.toNat (apB B i.toNat X Y) :: Blk kb (.cells [v0, v1, v2, v3, v4, .slice (some ⟨gk, 0, none⟩) K kc, .slice none 0 0].toArray 63 (0, 0)) :: Own 111 4 (.slice (some ⟨gk, 0, none⟩) K kc) K (rowsN K (bkR2 B X Y)) :: F) w)) ?_
    rintro ⟨j, g, mo⟩ ⟨j0, j1⟩ ihj
    dsimp only [List.cons_append, List.nil_append] at ihj ⊢
    simp only at j0 j1
    refine g_seq ?_
    refine g_seq ?_
    refine g_region ?_
    refine l_move rfl rfl ?_
    refine l_lss rfl rfl rfl ?_
    refine l_nil ?_
    refine g_cond rfl ?_ ?_
    · intro hbr
      have hbr := of_decide_eq_true hbr
      refine g_skip ?_
      refine g_seq ?_
      refine g_block ?_
      refine g_seq ?_
      refine g_seq ?_
      refine g_region ?_
      refine l_move rfl rfl ?_
      refine l_lss rfl rfl rfl ?_
      refine l_nil ?_
      refine g_cond rfl ?_ ?_
      · intro hbr
        have hbr := of_decide_eq_true hbr
        refine g_region ?_
        refine l_move rfl rfl ?_
        refine l_move rfl rfl ?_
        refine l_mul rfl rfl rfl (w_i64 (by omega) (by omega)) ?_
        refine l_convm (m := 4294967296) rfl wr_u32 Try.underlying3 Try.underlying51 rfl ?_
        refine l_addm (m := 4294967296) rfl wr_u32 rfl rfl ?_
        rw [show (2 * i % 4294967296 + 2684354562) % 4294967296 = mg0 i from rfl]
        refine l_buildSlice rfl Try.underlying38 Try.sizeOf51 Try.zeroValue51 rfl rfl rfl rfl rfl rfl ?_; intro b189
        refine l_append_fam 1 (sz := 1) (by_ := 4) (m := n + min j.toNat 17) (m2 := 1) (news := [.int .u32 (mg0 i)]) rfl Try.underlying38 Try.type51 rfl rfl rfl rfl rfl rfl rfl rfl (List.mem_cons_self ..) ⟨rfl, .inl ⟨_, _, _, rfl, .own (mem_getO 0 rfl)⟩⟩ (by omega) rfl (fun q hq => by
          have : q = 0 := by simp at hq; omega
          subst this
          rw [rr_get (by omega), if_neg (by omega)]; rfl) (by rw [rr_len]; omega) (by omega) (by simp only [maxLen]; omega) (fun _ => rfl) ?_; intro v190
        refine l_assign rfl rfl ?_
        refine l_nil ?_
        refine g_region ?_
        refine l_move rfl rfl ?_
        refine l_move rfl rfl ?_
        refine l_mul rfl rfl rfl (w_i64 (by omega) (by omega)) ?_
        refine l_convm (m := 4294967296) rfl wr_u32 Try.underlying3 Try.underlying51 rfl ?_
        refine l_addm (m := 4294967296) rfl wr_u32 rfl rfl ?_
        rw [show (2 * i % 4294967296 + 2684354562) % 4294967296 = mg0 i from rfl]
        refine l_buildSlice rfl Try.underlying38 Try.sizeOf51 Try.zeroValue51 rfl rfl rfl rfl rfl rfl ?_; intro b196
        refine l_fronto b196 ?_
        refine l_frontv mo ?_
        refine l_appendw 0 (by_ := 4) (W := [mg0 i]) (V := List.replicate j.toNat (mg0 i)) (m3 := (j + 1).toNat) (V3 := List.replicate (j + 1).toNat (mg0 i)) rfl Try.underlying38 Try.type51 rfl rfl rfl rfl rfl rfl rfl ⟨rfl, .inl ⟨_, _, _, rfl, .own (mem_getO 1 rfl)⟩⟩ (by omega) (by simp only [maxLen]; omega) (by omega) (by rw [show (j + 1).toNat = j.toNat + 1 by omega]; exact rep_snoc _ _) (fun _ => rfl) ?_; intro v197 hv119
        refine l_assign rfl rfl ?_
        refine l_nil ?_
        refine g_inBlock ?_
        refine g_region ?_
        refine l_move rfl rfl ?_
        first | refine l_add rfl rfl rfl (w_i64 (by omega) (by omega)) ?_ | refine l_addw rfl rfl rfl ?_
        refine l_assign rfl rfl ?_
        refine l_nil ?_
        (first
          | (have hmn : n + min j.toNat 17 + 1 = n + min (j + 1).toNat 17 := by omega
             refine g_frontv_fam ?_
             rw [hmn]
             refine g_famsub (vs' := [(v190, n + min (j + 1).toNat 17), (.slice la n lc, n)]) (fun p hp => by rcases List.mem_cons.1 hp with rfl | hp <;> simp_all) ?_
             exact g_againi (ihj (j + 1, v190, v197) ⟨by simp only; omega, by simp only; omega⟩ (by simp only; omega)) (.cons rfl (.cons rfl (.cons rfl (.cons rfl (.cons rfl (.cons rfl (.cons rfl (.cons rfl (.cons rfl (.cons rfl (.cons rfl (.cons rfl (.cons rfl (.cons rfl (.cons rfl (.cons rfl (.cons rfl (.cons rfl (.cons rfl (.cons rfl (.cons rfl (.cons rfl (.nil))))))))))))))))))))))))
          | (have hmn : n + min j.toNat 17 = n + min (j + 1).toNat 17 := by omega
             rw [hmn]
             exact g_againi (ihj (j + 1, g, v197) ⟨by simp only; omega, by simp only; omega⟩ (by simp only; omega)) (.cons rfl (.cons rfl (.cons rfl (.cons rfl (.cons rfl (.cons rfl (.cons rfl (.cons rfl (.cons rfl (.cons rfl (.cons rfl (.cons rfl (.cons rfl (.cons rfl (.cons rfl (.cons rfl (.cons rfl (.cons rfl (.cons rfl (.cons rfl (.cons rfl (.cons rfl (.nil)))))))))))))))))))))))))
      intro hbr
      have hbr := of_decide_eq_false hbr
      refine g_skip ?_
      refine g_region ?_
      refine l_move rfl rfl ?_
      refine l_move rfl rfl ?_
      refine l_mul rfl rfl rfl (w_i64 (by omega) (by omega)) ?_
      refine l_convm (m := 4294967296) rfl wr_u32 Try.underlying3 Try.underlying51 rfl ?_
      refine l_addm (m := 4294967296) rfl wr_u32 rfl rfl ?_
      rw [show (2 * i % 4294967296 + 2684354562) % 4294967296 = mg0 i from rfl]
      refine l_buildSlice rfl Try.underlying38 Try.sizeOf51 Try.zeroValue51 rfl rfl rfl rfl rfl rfl ?_; intro b196
      refine l_fronto b196 ?_
      refine l_frontv mo ?_
      refine l_appendw 0 (by_ := 4) (W := [mg0 i]) (V := List.replicate j.toNat (mg0 i)) (m3 := (j + 1).toNat) (V3 := List.replicate (j + 1).toNat (mg0 i)) rfl Try.underlying38 Try.type51 rfl rfl rfl rfl rfl rfl rfl ⟨rfl, .inl ⟨_, _, _, rfl, .own (mem_getO 1 rfl)⟩⟩ (by omega) (by simp only [maxLen]; omega) (by omega) (by rw [show (j + 1).toNat = j.toNat + 1 by omega]; exact rep_snoc _ _) (fun _ => rfl) ?_; intro v197 hv119
      refine l_assign rfl rfl ?_
      refine l_nil ?_
      refine g_inBlock ?_
      refine g_region ?_
      refine l_move rfl rfl ?_
      first | refine l_add rfl rfl rfl (w_i64 (by omega) (by omega)) ?_ | refine l_addw rfl rfl rfl ?_
      refine l_assign rfl rfl ?_
      refine l_nil ?_
      (first
        | (have hmn : n + min j.toNat 17 + 1 = n + min (j + 1).toNat 17 := by omega
           refine g_frontv_fam ?_
           rw [hmn]
           refine g_famsub (vs' := [(v190, n + min (j + 1).toNat 17), (.slice la n lc, n)]) (fun p hp => by rcases List.mem_cons.1 hp with rfl | hp <;> simp_all) ?_
           exact g_againi (ihj (j + 1, v190, v197) ⟨by simp only; omega, by simp only; omega⟩ (by simp only; omega)) (.cons rfl (.cons rfl (.cons rfl (.cons rfl (.cons rfl (.cons rfl (.cons rfl (.cons rfl (.cons rfl (.cons rfl (.cons rfl (.cons rfl (.cons rfl (.cons rfl (.cons rfl (.cons rfl (.cons rfl (.cons rfl (.cons rfl (.cons rfl (.cons rfl (.cons rfl (.nil))))))))))))))))))))))))
        | (have hmn : n + min j.toNat 17 = n + min (j + 1).toNat 17 := by omega
           rw [hmn]
           exact g_againi (ihj (j + 1, g, v197) ⟨by simp only; omega, by simp only; omega⟩ (by simp only; omega)) (.cons rfl (.cons rfl (.cons rfl (.cons rfl (.cons rfl (.cons rfl (.cons rfl (.cons rfl (.cons rfl (.cons rfl (.cons rfl (.cons rfl (.cons rfl (.cons rfl (.cons rfl (.cons rfl (.cons rfl (.cons rfl (.cons rfl (.cons rfl (.cons rfl (.cons rfl (.nil)))))))))))))))))))))))))
    intro hbr
    have hbr := of_decide_eq_false hbr
    refine g_exit rfl ?_
    obtain rfl : j = 64 := by omega
    refine g_fact (fam_slice (mem_getO 0 rfl) (List.mem_cons_self ..)) ?_
    rintro ⟨ag, cg, rfl, hag, hgl, hgm⟩
    refine g_fact (own_slice (mem_getO 1 rfl)) ?_
    rintro ⟨am, cm, rfl, ham⟩
    obtain ⟨gm, rfl⟩ := ham.resolve_left (by decide)
    rw [show min (64 : Int).toNat 17 = 17 by decide] at hag hgl hgm ⊢
    rw [show (64 : Int).toNat = 64 by decide]
    refine g_seq ?_
    refine g_region ?_
    refine l_move rfl rfl ?_
    refine l_nilCheck rfl rfl ?_
    refine l_fieldAddr rfl fa_61_0 rfl ?_
    refine l_ld rfl Try.isAgg58 rfl rfl ?_
    refine l_move rfl rfl ?_
    refine l_move rfl rfl ?_
    refine l_ixs rfl Try.underlying58 Try.sizeOf111 rfl rfl (by omega) (by omega) ?_
    refine l_fieldAddr rfl fa_111_2 rfl ?_
    refine l_take (Own 111 4 (.slice (some ⟨gk, 0, none⟩) K kc) K (rowsN K (bkR2 B X Y))) ?_
    refine l_storeo 0 Try.sizeOf38 rfl rfl rfl rfl (by rw [rowsN_len (bkR2_len B X Y K)]; omega) rfl ?_
    rw [bkR2_X (by omega)]
    refine l_nil ?_
    refine gp_start mo (by kernel_rfl) (by kernel_rfl) ?_
    refine gp_quiet 0 rfl rfl rfl rfl rfl rfl (q_move rfl) ?_
    refine gp_quiet 1 rfl rfl rfl rfl rfl rfl (q_nilCheck rfl) ?_
    refine gp_quiet 2 rfl rfl rfl rfl rfl rfl (q_fieldAddr fa_61_0 rfl) ?_
    refine gp_quiet 3 rfl rfl rfl rfl rfl rfl (q_ld Try.isAgg58 rfl rfl) ?_
    refine gp_quiet 4 rfl rfl rfl rfl rfl rfl (q_move rfl) ?_
    refine gp_quiet 5 rfl rfl rfl rfl rfl rfl (q_move rfl) ?_
    refine gp_quiet 6 rfl rfl rfl rfl rfl rfl (q_nilCheck rfl) ?_
    refine gp_quiet 7 rfl rfl rfl rfl rfl rfl (q_fieldAddr fa_61_0 rfl) ?_
    refine gp_quiet 8 rfl rfl rfl rfl rfl rfl (q_ld Try.isAgg58 rfl rfl) ?_
    refine gp_quiet 9 rfl rfl rfl rfl rfl rfl (q_move rfl) ?_
    refine gp_quiet 10 rfl rfl rfl rfl rfl rfl (q_ixs Try.underlying58 Try.sizeOf111 rfl rfl (by omega) (by omega)) ?_
    refine gp_quiet 11 rfl rfl rfl rfl rfl rfl (q_fieldAddr fa_111_0 rfl) ?_
    refine gp_quiet 12 rfl rfl rfl rfl rfl rfl (q_loadc (v := .slice la n lc) Try.isAgg38 rfl (rn_cell (k := i.toNat) (j := 0) (by first | exact mem_getO 0 rfl | exact mem_getO 1 rfl | exact mem_getO 2 rfl | exact mem_getO 3 rfl | exact mem_getO 4 rfl | exact mem_getO 5 rfl | exact mem_getO 6 rfl | exact mem_getO 7 rfl) (bkR2_len B _ _ K) (by omega) (by decide) (by simp [bkR2, hk]))) ?_
    refine gp_quiet 13 rfl rfl rfl rfl rfl rfl (q_move rfl) ?_
    refine gp_frontf ?_
    refine gp_effa 14 [12, 13] [11, 10, 9, 8, 7, 6, 5, 4, 3, 2, 1, 0] rfl rfl rfl rfl rfl rfl rfl (does_append_fam 0 (sz := 1) (by_ := 4) (m := n) (m2 := 64) (m3 := n + 64) (news := ints .u32 (List.replicate 64 (mg0 i))) Try.underlying38 Try.type51 rfl rfl rfl rfl rfl rfl rfl rfl (List.mem_cons_of_mem _ (List.mem_cons_self ..)) ⟨rfl, .inl ⟨_, _, _, rfl, .own (OwnIn.mem (g := gm))⟩⟩ (by omega) (ints_scalar _ _) (fun q hq => by rw [ints_length, List.length_replicate] at hq; rw [rr_get (by omega), if_neg (by omega), r_get hq]) (by rw [rr_len]; omega) (by omega) (by simp only [maxLen]; omega) rfl (fun _ => rfl)) ?_
    rintro _ _ ⟨a5, c5, rfl, ha5, rfl⟩
    refine ⟨?_, ?_⟩
    · refine .cons rfl rfl rfl rfl rfl (q_fieldAddr fa_111_0 rfl) ?_
      refine .cons rfl rfl rfl rfl rfl (q_ixs Try.underlying58 Try.sizeOf111 rfl rfl (by omega) (by omega)) ?_
      refine .cons rfl rfl rfl rfl rfl (q_move rfl) ?_
      refine .cons rfl rfl rfl rfl rfl (q_ld Try.isAgg58 rfl rfl) ?_
      refine .cons rfl rfl rfl rfl rfl (q_fieldAddr fa_61_0 rfl) ?_
      refine .cons rfl rfl rfl rfl rfl (q_nilCheck rfl) ?_
      refine .cons rfl rfl rfl rfl rfl (q_move rfl) ?_
      refine .cons rfl rfl rfl rfl rfl (q_move rfl) ?_
      refine .cons rfl rfl rfl rfl rfl (q_ld Try.isAgg58 rfl rfl) ?_
      refine .cons rfl rfl rfl rfl rfl (q_fieldAddr fa_61_0 rfl) ?_
      refine .cons rfl rfl rfl rfl rfl (q_nilCheck rfl) ?_
      refine .cons rfl rfl rfl rfl rfl (q_move rfl) ?_
      exact .nil
    refine gp_quiet 15 rfl rfl rfl rfl rfl rfl (q_ixs Try.underlying58 Try.sizeOf111 rfl rfl (by omega) (by omega)) ?_
    refine gp_quiet 16 rfl rfl rfl rfl rfl rfl (q_fieldAddr fa_111_3 rfl) ?_
    refine gp_take (Own 111 4 (.slice (some ⟨gk, 0, none⟩) K kc) K (rowsN K (bkR2 B (upF X i.toNat (.slice ag (n + 17) cg)) Y))) ?_
    refine gp_effa 17 [0, 1, 2, 3, 4, 5, 6, 7, 8, 9, 10, 11, 16] [15] rfl rfl rfl rfl rfl rfl rfl (does_storeo 0 Try.sizeOf38 rfl rfl rfl rfl (by rw [rowsN_len (bkR2_len B _ _ K)]; omega) rfl) ?_
    rintro _ _ ⟨rfl, rfl⟩
    rw [bkR2_Y (by omega)]
    refine ⟨?_, ?_⟩
    · refine .cons rfl rfl rfl rfl rfl (q_ixs Try.underlying58 Try.sizeOf111 rfl rfl (by omega) (by omega)) ?_
      exact .nil
    refine gp_end rfl rfl ?_
    refine g_inBlock ?_
    refine g_region ?_
    refine l_move rfl rfl ?_
    first | refine l_add rfl rfl rfl (w_i64 (by omega) (by omega)) ?_ | refine l_addw rfl rfl rfl ?_
    refine l_assign rfl rfl ?_
    refine l_nil ?_
    have hin : i.toNat + 1 = (i + 1).toNat := by omega
    refine g_take (BigBut K i.toNat (apB B i.toNat X Y)) ?_
    refine g_frontv_fam ?_
    refine g_famsub (vs' := [(.slice a5 (n + 64) c5, n + 64), (.slice ag (n + 17) cg, n + 17), (.slice la n lc, n)]) (fun p hp => by simp only [List.mem_cons, List.not_mem_nil, or_false] at hp ⊢; rcases hp with rfl | rfl | rfl <;> simp) ?_
    refine g_unfocus (apB B (i + 1).toNat (upF X i.toNat (.slice ag (n + 17) cg)) (upF Y i.toNat (.slice a5 (n + 64) c5))) (by rw [← hin, apB_done hk, Int.toNat_of_nonneg i0]) (fun k _ hki => by rw [← hin]; exact apB_keep hki) ?_
    exact g_againi (ih (i + 1, upF X i.toNat (.slice ag (n + 17) cg), upF Y i.toNat (.slice a5 (n + 64) c5)) ⟨by simp only; omega, by simp only; omega⟩ (by simp only; omega)) (.cons rfl (.cons rfl (.cons rfl (.cons rfl (.nil)))))
  intro hbr
  have hbr := of_decide_eq_false hbr
  refine g_exit rfl ?_
  obtain rfl : i = K := by omega
  rw [Int.toNat_natCast]
  refine g_seq ?_
  refine g_seq ?_
  refine g_region ?_
  refine l_assign rfl rfl ?_
  refine l_nil ?_
  refine g_block ?_
  refine g_unroll ?_
  refine g_seq ?_
  refine g_seq ?_
  refine g_region ?_
  refine l_move rfl rfl ?_
  refine l_move rfl rfl ?_
  refine l_nilCheck rfl rfl ?_
  refine l_fieldAddr rfl fa_61_1 rfl ?_
  refine l_ld rfl Try.isAgg59 rfl rfl ?_
  refine l_len rfl Try.underlying59 rfl ?_
  refine l_lss rfl rfl rfl ?_
  refine l_nil ?_
  first | refine g_cond_f rfl ?_ | refine g_cond_f (congrArg (fun b => some (Value.bool b)) (decide_eq_false hbr)) ?_
  refine g_exit rfl ?_
  refine g_seq ?_
  refine g_seq ?_
  refine g_region ?_
  refine l_assign rfl rfl ?_
  refine l_nil ?_
  refine g_block ?_
  refine g_loopc (X := Int) [(0, _), (2, _)] (.cons rfl (.cons rfl (.nil))) (fun i => 0 ≤ i ∧ i ≤ K) (fun i => ((K : Int) - i).toNat) (fun i => [(3, .bool true), (20, .int .i64 i)]) (0) (by omega) (.cons rfl (.cons rfl .nil)) ?_
  rintro i ⟨i0, i1⟩ iha
  dsimp only [List.cons_append, List.nil_append] at iha ⊢
  refine g_seq ?_
  refine g_seq ?_
  refine g_region ?_
  refine l_move rfl rfl ?_
  refine l_move rfl rfl ?_
  refine l_nilCheck rfl rfl ?_
  refine l_fieldAddr rfl fa_61_0 rfl ?_
  refine l_ld rfl Try.isAgg58 rfl rfl ?_
  refine l_len rfl Try.underlying58 rfl ?_
  refine l_lss rfl rfl rfl ?_
  refine l_nil ?_
  refine g_cond rfl ?_ ?_
  · intro hbr
    have hbr := of_decide_eq_true hbr
    refine g_skip ?_
    refine g_seq ?_
    refine g_block ?_
    refine g_seq ?_
    refine g_region ?_
    obtain ⟨gk, rfl⟩ := hka.resolve_left (by omega)
    obtain ⟨⟨la, lc, wa, wc, n, c9⟩, hk⟩ : ∃ x, B i.toNat = x := ⟨_, rfl⟩
    have hbk := hB i.toNat (by omega)
    rw [hk] at hbk
    obtain ⟨hb1, hb2, _, hla, _⟩ := hbk
    simp only at hb1 hb2 hla
    refine l_take (BigF K (apB B K X Y)) ?_
    refine l_focus i.toNat (by omega) ?_
    rw [apB_read hk (by omega), Int.toNat_of_nonneg i0]
    refine l_fact (fam_slice (mem_getO 0 rfl) (List.mem_cons_self ..)) ?_
    rintro ⟨a5, c5, hv5, ha5, _, _⟩
    refine l_fact (fam_slice (mem_getO 0 rfl) (List.mem_cons_of_mem _ (List.mem_cons_self ..))) ?_
    rintro ⟨ag, cg, hvg, hag, _, _⟩
    rw [hv5, hvg]
    refine l_move rfl rfl ?_
    refine l_nilCheck rfl rfl ?_
    refine l_fieldAddr rfl fa_61_0 rfl ?_
    refine l_ld rfl Try.isAgg58 rfl rfl ?_
    refine l_move rfl rfl ?_
    refine l_ixs rfl Try.underlying58 Try.sizeOf111 rfl rfl (by omega) (by omega) ?_
    refine l_fieldAddr rfl fa_111_0 rfl ?_
    refine l_loadc (v := .slice la n lc) rfl Try.isAgg38 rfl (rn_cell (k := i.toNat) (j := 0) (by first | exact mem_getO 0 rfl | exact mem_getO 1 rfl | exact mem_getO 2 rfl | exact mem_getO 3 rfl | exact mem_getO 4 rfl | exact mem_getO 5 rfl | exact mem_getO 6 rfl | exact mem_getO 7 rfl) (bkR2_len B _ _ K) (by omega) (by decide) (by simp [bkR2, hk])) ?_
    refine l_len rfl Try.underlying38 rfl ?_
    refine l_assign rfl rfl ?_
    refine l_nil ?_
    refine g_seq ?_
    refine g_region ?_
    refine l_move rfl rfl ?_
    refine l_nilCheck rfl rfl ?_
    refine l_fieldAddr rfl fa_61_0 rfl ?_
    refine l_ld rfl Try.isAgg58 rfl rfl ?_
    refine l_move rfl rfl ?_
    refine l_ixs rfl Try.underlying58 Try.sizeOf111 rfl rfl (by omega) (by omega) ?_
    refine l_fieldAddr rfl fa_111_0 rfl ?_
    refine l_loadc (v := .slice la n lc) rfl Try.isAgg38 rfl (rn_cell (k := i.toNat) (j := 0) (by first | exact mem_getO 0 rfl | exact mem_getO 1 rfl | exact mem_getO 2 rfl | exact mem_getO 3 rfl | exact mem_getO 4 rfl | exact mem_getO 5 rfl | exact mem_getO 6 rfl | exact mem_getO 7 rfl) (bkR2_len B _ _ K) (by omega) (by decide) (by simp [bkR2, hk])) ?_
    refine l_move rfl rfl ?_
    refine l_move rfl rfl ?_
    refine l_mul rfl rfl rfl (w_i64 (by omega) (by omega)) ?_
    refine l_convm (m := 4294967296) rfl wr_u32 Try.underlying3 Try.underlying51 rfl ?_
    refine l_addm (m := 4294967296) rfl wr_u32 rfl rfl ?_
    rw [show (2 * i % 4294967296 + 2684354561) % 4294967296 = mk0 i from rfl]
    refine l_move rfl rfl ?_
    refine l_mul rfl rfl rfl (w_i64 (by omega) (by omega)) ?_
    refine l_convm (m := 4294967296) rfl wr_u32 Try.underlying3 Try.underlying51 rfl ?_
    refine l_addm (m := 4294967296) rfl wr_u32 rfl rfl ?_
    rw [show (2 * i % 4294967296 + 2684354562) % 4294967296 = mg0 i from rfl]
    refine l_frontf ?_
    refine l_call rfl Try.call58 rfl (allw_ok _ _ la n lc n (mk0 i) (mg0 i) _ (IR.fam (mem_getO 0 rfl) (List.mem_cons_of_mem _ (List.mem_cons_of_mem _ (List.mem_cons_self ..))) (by rw [← ints_length .u32, rr_len]; omega) (hla.imp id id)) (by omega) (by omega) (fun q hq => by rw [getD_take (by omega), getD_repapp (by omega)])) ?_; rintro _ _ ⟨rfl, rfl⟩
    refine l_assign rfl rfl ?_
    refine l_nil ?_
    refine g_seq ?_
    refine g_region ?_
    refine l_move rfl rfl ?_
    refine l_nilCheck rfl rfl ?_
    refine l_fieldAddr rfl fa_61_0 rfl ?_
    refine l_ld rfl Try.isAgg58 rfl rfl ?_
    refine l_move rfl rfl ?_
    refine l_ixs rfl Try.underlying58 Try.sizeOf111 rfl rfl (by omega) (by omega) ?_
    refine l_fieldAddr rfl fa_111_2 rfl ?_
    refine l_loadc (v := .slice ag (n + 17) cg) rfl Try.isAgg38 rfl (rn_cell (k := i.toNat) (j := 2) (by first | exact mem_getO 0 rfl | exact mem_getO 1 rfl | exact mem_getO 2 rfl | exact mem_getO 3 rfl | exact mem_getO 4 rfl | exact mem_getO 5 rfl | exact mem_getO 6 rfl | exact mem_getO 7 rfl) (bkR2_len B _ _ K) (by omega) (by decide) (by simp [bkR2, hvg])) ?_
    refine l_move rfl rfl ?_
    refine l_move rfl rfl ?_
    refine l_mul rfl rfl rfl (w_i64 (by omega) (by omega)) ?_
    refine l_convm (m := 4294967296) rfl wr_u32 Try.underlying3 Try.underlying51 rfl ?_
    refine l_addm (m := 4294967296) rfl wr_u32 rfl rfl ?_
    rw [show (2 * i % 4294967296 + 2684354561) % 4294967296 = mk0 i from rfl]
    refine l_move rfl rfl ?_
    refine l_mul rfl rfl rfl (w_i64 (by omega) (by omega)) ?_
    refine l_convm (m := 4294967296) rfl wr_u32 Try.underlying3 Try.underlying51 rfl ?_
    refine l_addm (m := 4294967296) rfl wr_u32 rfl rfl ?_
    rw [show (2 * i % 4294967296 + 2684354562) % 4294967296 = mg0 i from rfl]
    refine l_frontf ?_
    refine l_call rfl Try.call58 rfl (allw_ok _ _ ag (n + 17) cg n (mk0 i) (mg0 i) _ (IR.fam (mem_getO 0 rfl) (List.mem_cons_of_mem _ (List.mem_cons_self ..)) (by rw [← ints_length .u32, rr_len]; omega) (hag.imp id id)) (by omega) (by omega) (fun q hq => by rw [getD_take (by omega), getD_repapp (by omega)])) ?_; rintro _ _ ⟨rfl, rfl⟩
    refine l_assign rfl rfl ?_
    refine l_nil ?_
    refine g_seq ?_
    refine g_region ?_
    refine l_move rfl rfl ?_
    refine l_nilCheck rfl rfl ?_
    refine l_fieldAddr rfl fa_61_0 rfl ?_
    refine l_ld rfl Try.isAgg58 rfl rfl ?_
    refine l_move rfl rfl ?_
    refine l_ixs rfl Try.underlying58 Try.sizeOf111 rfl rfl (by omega) (by omega) ?_
    refine l_fieldAddr rfl fa_111_3 rfl ?_
    refine l_loadc (v := .slice a5 (n + 64) c5) rfl Try.isAgg38 rfl (rn_cell (k := i.toNat) (j := 3) (by first | exact mem_getO 0 rfl | exact mem_getO 1 rfl | exact mem_getO 2 rfl | exact mem_getO 3 rfl | exact mem_getO 4 rfl | exact mem_getO 5 rfl | exact mem_getO 6 rfl | exact mem_getO 7 rfl) (bkR2_len B _ _ K) (by omega) (by decide) (by simp [bkR2, hv5])) ?_
    refine l_move rfl rfl ?_
    refine l_move rfl rfl ?_
    refine l_mul rfl rfl rfl (w_i64 (by omega) (by omega)) ?_
    refine l_convm (m := 4294967296) rfl wr_u32 Try.underlying3 Try.underlying51 rfl ?_
    refine l_addm (m := 4294967296) rfl wr_u32 rfl rfl ?_
    rw [show (2 * i % 4294967296 + 2684354561) % 4294967296 = mk0 i from rfl]
    refine l_move rfl rfl ?_
    refine l_mul rfl rfl rfl (w_i64 (by omega) (by omega)) ?_
    refine l_convm (m := 4294967296) rfl wr_u32 Try.underlying3 Try.underlying51 rfl ?_
    refine l_addm (m := 4294967296) rfl wr_u32 rfl rfl ?_
    rw [show (2 * i % 4294967296 + 2684354562) % 4294967296 = mg0 i from rfl]
    refine l_frontf ?_
    refine l_call rfl Try.call58 rfl (allw_ok _ _ a5 (n + 64) c5 n (mk0 i) (mg0 i) _ (IR.fam (mem_getO 0 rfl) (List.mem_cons_self ..) (by rw [← ints_length .u32, rr_len]; omega) (ha5.imp id id)) (by omega) (by omega) (fun q hq => by rw [getD_take (by omega), getD_repapp (by omega)])) ?_; rintro _ _ ⟨rfl, rfl⟩
    refine l_assign rfl rfl ?_
    refine l_nil ?_
    refine g_region ?_
    refine l_move rfl rfl ?_
    refine l_move rfl rfl ?_
    refine l_split 356 rfl ?_ ?_
    · intro hbr
      refine l_guard_yes rfl rfl ?_
      refine l_move rfl rfl ?_
      refine l_pick_t rfl rfl rfl ?_
      refine l_move rfl rfl ?_
      refine l_guard_yes rfl rfl ?_
      refine l_move rfl rfl ?_
      refine l_pick_t rfl rfl rfl ?_
      refine l_move rfl rfl ?_
      refine l_guard_yes rfl rfl ?_
      refine l_move rfl rfl ?_
      refine l_pick_t rfl rfl rfl ?_
      refine l_assign rfl rfl ?_
      refine l_nil ?_
      refine g_inBlock ?_
      refine g_region ?_
      refine l_move rfl rfl ?_
      first | refine l_add rfl rfl rfl (w_i64 (by omega) (by omega)) ?_ | refine l_addw rfl rfl rfl ?_
      refine l_assign rfl rfl ?_
      refine l_nil ?_
      refine g_take (BigBut K i.toNat (apB B K X Y)) ?_
      refine g_frontv_fam ?_
      rw [← hv5, ← hvg]
      refine g_unfocus (apB B K X Y) (by rw [apB_read hk (by omega), Int.toNat_of_nonneg i0]) (fun k _ _ => rfl) ?_
      exact g_againi (iha (i + 1) (by omega) (by omega)) (.cons rfl (.cons rfl (.cons rfl (.cons rfl (.nil)))))
    · intro hbr
      first | (exfalso; simp at hbr; done) | (exfalso; simp at hbr; omega) | (exfalso; first | omega | (simp at hbr; done))
  intro hbr
  have hbr := of_decide_eq_false hbr
  refine g_exit rfl ?_
  refine g_seq ?_
  refine g_seq ?_
  refine g_region ?_
  refine l_assign rfl rfl ?_
  refine l_nil ?_
  refine g_block ?_
  refine g_unroll ?_
  refine g_seq ?_
  refine g_seq ?_
  refine g_region ?_
  refine l_move rfl rfl ?_
  refine l_move rfl rfl ?_
  refine l_nilCheck rfl rfl ?_
  refine l_fieldAddr rfl fa_61_1 rfl ?_
  refine l_ld rfl Try.isAgg59 rfl rfl ?_
  refine l_len rfl Try.underlying59 rfl ?_
  refine l_lss rfl rfl rfl ?_
  refine l_nil ?_
  first | refine g_cond_f rfl ?_ | refine g_cond_f (congrArg (fun b => some (Value.bool b)) (decide_eq_false hbr)) ?_
  refine g_exit rfl ?_
  refine g_seq ?_
  refine g_region ?_
  refine l_move rfl rfl ?_
  refine l_assign rfl rfl ?_
  refine l_nil ?_
  refine g_ret Try.func25 rfl (.tmp rfl .nil) ?_
  exact Gives.mki ⟨rfl, rfl⟩
end Go.Proofs.Ythemlddepepekaa.Fw
