import Derived.Test.YtlgcghhjgcdigaaMakes
import Derived.Test.YtlgcghhjgcdigaaDiff5
namespace Go.Proofs.Ytlgcghhjgcdigaa.Fw
open Go Go.Proofs
set_option linter.unusedVariables false
set_option linter.unusedSimpArgs false
set_option maxRecDepth 10000
theorem bd_74_z  (w : World) : (Instr.build 74 #[]).run Try.prog w = .ok (.agg #[.slice none 0 0, .slice none 0 0, .slice none 0 0]) w := by kernel_rfl
theorem bd_65_0_3_6 (a0_0 : Int) (a3_0 : Int) (a6_0 : Int) (w : World) : (Instr.build 65 #[(0, .int .i64 a0_0), (3, .int .i64 a3_0), (6, .int .u32 a6_0)]).run Try.prog w = .ok (.agg #[.int .i64 a0_0, .int .i64 0, .int .i64 0, .int .i64 a3_0, .int .i64 0, .int .i64 0, .int .u32 a6_0, .slice none 0 0]) w := by kernel_rfl
theorem bd_65_0_3 (a0_0 : Int) (a3_0 : Int) (w : World) : (Instr.build 65 #[(0, .int .i64 a0_0), (3, .int .i64 a3_0)]).run Try.prog w = .ok (.agg #[.int .i64 a0_0, .int .i64 0, .int .i64 0, .int .i64 a3_0, .int .i64 0, .int .i64 0, .int .u32 0, .slice none 0 0]) w := by kernel_rfl
theorem bd_65_2_5 (a2_0 : Int) (a5_0 : Int) (w : World) : (Instr.build 65 #[(2, .int .i64 a2_0), (5, .int .i64 a5_0)]).run Try.prog w = .ok (.agg #[.int .i64 0, .int .i64 0, .int .i64 a2_0, .int .i64 0, .int .i64 0, .int .i64 a5_0, .int .u32 0, .slice none 0 0]) w := by kernel_rfl
def S00 : WS := ⟨0, fun _ => ⟨0, 0, 0, 0, 0, 0, 0, []⟩, none, 0, 0, fun _ => ⟨0, 0, 0, 0, 0, 0⟩, none, 0, 0, fun _ => ⟨none, 0, none, 0, 0, []⟩, none, 0⟩
theorem s00_ok : SOk S00 := ⟨by decide, fun j hj => absurd hj (Nat.not_lt_zero _), .inl rfl, fun j hj => absurd hj (Nat.not_lt_zero _), .inl rfl, fun j hj => absurd hj (Nat.not_lt_zero _), .inl rfl⟩
theorem world0 {w0 : World} {F : List Atom} {w : World} {wb : Nat} (hw : Holds w0 (Blk wb (.cells [Value.slice none 0 0, .slice none 0 0, .slice none 0 0].toArray 74 (0, 0)) :: F) w) : Holds w0 (Blk wb (.cells [Value.slice S00.la S00.N S00.lc, .slice S00.ia S00.J S00.ic, .slice S00.ka S00.K S00.kc].toArray 74 (0, 0)) :: Own 94 2 (.slice S00.la S00.N S00.lc) S00.N (rowsN S00.N (fun j => mpR (S00.M j))) :: BigF S00.N (fun j => mpA (S00.M j)) :: Own 102 3 (.slice S00.ia S00.J S00.ic) S00.J (rowsN S00.J (fun j => kiR (S00.T j))) :: BigF S00.J (fun j => kiA (S00.T j)) :: Own 107 4 (.slice S00.ka S00.K S00.kc) S00.K (rowsN S00.K (fun j => bkR (S00.B j))) :: BigF S00.K (fun j => bkA (S00.B j)) :: F) w := by
  have h := BigF.zero ((BigF.zero ((BigF.zero (hw.own_nil 94 2) (fun j => mpA (S00.M j))).own_nil 102 3) (fun j => kiA (S00.T j))).own_nil 107 4) (fun j => bkA (S00.B j))
  have h2 : Holds w0 (Blk wb (.cells [Value.slice none 0 0, .slice none 0 0, .slice none 0 0].toArray 74 (0, 0)) :: Own 94 2 (.slice none 0 0) 0 [] :: BigF 0 (fun j => mpA (S00.M j)) :: Own 102 3 (.slice none 0 0) 0 [] :: BigF 0 (fun j => kiA (S00.T j)) :: Own 107 4 (.slice none 0 0) 0 [] :: BigF 0 (fun j => bkA (S00.B j)) :: F) w := SPI.holds h
  exact h2
set_option maxHeartbeats 4000000 in
theorem made_new (w0 : World) (F : List Atom) (wb : Nat) (S : WS) (hS : SOk S) (x g c y h d n : Nat) (V : List Int) (hm : MOk ⟨x, g, c, y, h, d, n, V⟩) (h12 : S.N < 12) :
    CallK Try.prog 40 [.pointer (some ⟨wb, 0, none⟩), .pointer (some ⟨x, 0, none⟩), .int .i64 0, .pointer (some ⟨y, 0, none⟩), .int .i64 0] w0 (Blk x (.cells [Value.slice (some ⟨g, 0, none⟩) n c].toArray 77 (0, 0)) :: Own 30 1 (.slice (some ⟨g, 0, none⟩) n c) n (ints .u32 V) :: Blk y (.cells [Value.slice (some ⟨h, 0, none⟩) n d].toArray 104 (0, 0)) :: Own 30 1 (.slice (some ⟨h, 0, none⟩) n d) n (ints .u32 V) :: Blk wb (.cells [Value.slice S.la S.N S.lc, .slice S.ia S.J S.ic, .slice S.ka S.K S.kc].toArray 74 (0, 0)) :: Own 94 2 (.slice S.la S.N S.lc) S.N (rowsN S.N (fun j => mpR (S.M j))) :: BigF S.N (fun j => mpA (S.M j)) :: Own 102 3 (.slice S.ia S.J S.ic) S.J (rowsN S.J (fun j => kiR (S.T j))) :: BigF S.J (fun j => kiA (S.T j)) :: Own 107 4 (.slice S.ka S.K S.kc) S.K (rowsN S.K (fun j => bkR (S.B j))) :: BigF S.K (fun j => bkA (S.B j)) :: F) (Gives w0 fun v F2 => ∃ S' : WS, v = .bool true ∧ SOk S' ∧ (S'.N = S.N + 1 ∧ S'.M S.N = ⟨x, g, c, y, h, d, n, V⟩ ∧ S'.J = S.J ∧ S'.K = S.K) ∧ F2 = Blk wb (.cells [Value.slice S'.la S'.N S'.lc, .slice S'.ia S'.J S'.ic, .slice S'.ka S'.K S'.kc].toArray 74 (0, 0)) :: Own 94 2 (.slice S'.la S'.N S'.lc) S'.N (rowsN S'.N (fun j => mpR (S'.M j))) :: BigF S'.N (fun j => mpA (S'.M j)) :: Own 102 3 (.slice S'.ia S'.J S'.ic) S'.J (rowsN S'.J (fun j => kiR (S'.T j))) :: BigF S'.J (fun j => kiA (S'.T j)) :: Own 107 4 (.slice S'.ka S'.K S'.kc) S'.K (rowsN S'.K (fun j => bkR (S'.B j))) :: BigF S'.K (fun j => bkA (S'.B j)) :: F) := by
  have hN := hS.hN
  refine c_enter Try.func40 rfl rfl rfl ?_
  refine g_seq ?_
  refine g_region ?_
  refine l_assign rfl rfl ?_
  refine l_nil ?_
  refine g_seq ?_
  refine g_seq ?_
  refine g_region ?_
  refine l_move rfl rfl ?_
  refine l_move rfl rfl ?_
  refine l_neq rfl rfl rfl ?_
  refine l_move rfl rfl ?_
  refine l_split 14 rfl ?_ ?_
  · intro hbr
    have hbr := of_decide_eq_true hbr
    (exfalso; first | omega | (simp at hbr; done))
  intro hbr
  have hbr := of_decide_eq_false hbr
  refine l_guard_yes rfl rfl ?_
  refine l_move rfl rfl ?_
  refine l_guard_yes rfl rfl ?_
  refine l_eqpn rfl Try.underlying25 rfl rfl ?_
  refine l_guard_yes rfl rfl ?_
  refine l_move rfl rfl ?_
  refine l_guard_yes rfl rfl ?_
  refine l_eqpn rfl Try.underlying87 rfl rfl ?_
  refine l_guard_yes rfl rfl ?_
  refine l_neqb rfl Try.underlying4 rfl rfl ?_
  refine l_pick_f rfl rfl rfl ?_
  refine l_nil ?_
  refine g_cond rfl ?_ ?_
  · intro hbr
    first | (exfalso; simp at hbr; done) | (exfalso; simp at hbr; omega) | (exfalso; first | omega | (simp at hbr; done))
  intro hbr
  have hb20 := hbr
  refine g_skip ?_
  refine g_seq ?_
  refine g_seq ?_
  refine g_region ?_
  refine l_move rfl rfl ?_
  refine l_nepn rfl Try.underlying87 rfl rfl ?_
  refine l_move rfl rfl ?_
  refine l_guard_yes rfl rfl ?_
  refine l_move rfl rfl ?_
  refine l_guard_yes rfl rfl ?_
  refine l_nilCheck rfl rfl ?_
  refine l_guard_yes rfl rfl ?_
  refine l_fieldAddr rfl fa_74_0 rfl ?_
  refine l_guard_yes rfl rfl ?_
  refine l_ld rfl Try.isAgg68 rfl rfl ?_
  refine l_guard_yes rfl rfl ?_
  refine l_len rfl Try.underlying68 rfl ?_
  refine l_guard_yes rfl rfl ?_
  refine l_lss rfl rfl rfl ?_
  refine l_pick_t rfl rfl rfl ?_
  refine l_nil ?_
  refine g_cond rfl ?_ ?_
  · intro hbr
    have hbr := of_decide_eq_true hbr
    refine g_region ?_
    refine l_move rfl rfl ?_
    refine l_move rfl rfl ?_
    refine l_nilCheck rfl rfl ?_
    refine l_fieldAddr rfl fa_74_0 rfl ?_
    refine l_ld rfl Try.isAgg68 rfl rfl ?_
    refine l_move rfl rfl ?_
    refine l_move rfl rfl ?_
    refine l_build rfl rfl (fun w => bd_94_0_1 _ _ w) ?_
    refine l_buildSlice rfl Try.underlying68 Try.sizeOf94 Try.zeroValue94 rfl rfl rfl rfl rfl rfl ?_; intro b39
    refine l_fronto b39 ?_
    refine l_frontv (.slice S.la S.N S.lc) ?_
    refine l_append 0 (sz := 2) (by_ := 16) (m2 := 1) (news := mpR ⟨x, g, c, y, h, d, n, V⟩) rfl Try.underlying68 Try.type94 rfl rfl rfl rfl rfl rfl rfl rfl ⟨rfl, .inl ⟨_, _, _, rfl, .own (mem_getO 1 rfl)⟩⟩ rfl (by omega) (by simp only [maxLen]; omega) (fun _ => rfl) ?_; intro v40 hv40
    rw [rowsN_push (r := mpR) (K := S.N) (B := S.M) (x := ⟨x, g, c, y, h, d, n, V⟩)]
    refine l_fact (own_slice (mem_getO 0 rfl)) ?_
    rintro ⟨a40, c40, rfl, ha40⟩
    obtain ⟨g40, rfl⟩ := ha40.resolve_left (by omega)
    refine l_nilCheck rfl rfl ?_
    refine l_fieldAddr rfl fa_74_0 rfl ?_
    refine l_st Try.sizeOf68 rfl rfl rfl rfl ?_
    refine l_nil ?_
    refine g_seq ?_
    refine g_region ?_
    refine l_assign rfl rfl ?_
    refine l_nil ?_
    refine g_take (BigF S.N (fun j => mpA (S.M j))) ?_
    refine g_take (Own 30 1 (.slice (some ⟨h, 0, none⟩) n d) n (ints .u32 V)) ?_
    refine g_take (Blk y (.cells [Value.slice (some ⟨h, 0, none⟩) n d].toArray 104 (0, 0))) ?_
    refine g_take (Own 30 1 (.slice (some ⟨g, 0, none⟩) n c) n (ints .u32 V)) ?_
    refine g_take (Blk x (.cells [Value.slice (some ⟨g, 0, none⟩) n c].toArray 77 (0, 0))) ?_
    refine g_unquad ?_
    refine g_snocb (fun j => mpA (upF S.M S.N ⟨x, g, c, y, h, d, n, V⟩ j)) (by simp only [upF_at]; rfl) (fun k hk => by simp only [upF_ne (show k ≠ S.N by omega)]) ?_
    refine g_ret Try.func40 rfl (.tmp rfl .nil) ?_
    exact Gives.mki ⟨⟨S.N + 1, upF S.M S.N ⟨x, g, c, y, h, d, n, V⟩, some ⟨g40, 0, none⟩, c40, S.J, S.T, S.ia, S.ic, S.K, S.B, S.ka, S.kc⟩, rfl, hS.new (by omega) hm g40 c40, ⟨rfl, upF_at, rfl, rfl⟩, rfl⟩
  · intro hbr
    have hbr := of_decide_eq_false hbr
    (exfalso; first | omega | (simp at hbr; done))
set_option maxHeartbeats 8000000 in
theorem begun_ok (w0 : World) (F : List Atom)  :
    CallK Try.prog 22 [] w0 (F) (Gives w0 fun v F2 => ∃ (wb : Nat) (S : WS), v = .tuple #[.pointer (some ⟨wb, 0, none⟩), .bool true] ∧ SOk S ∧ 1 ≤ S.N ∧ S.J ≤ 2 ∧ S.K ≤ 8 ∧ F2 = Blk wb (.cells [Value.slice S.la S.N S.lc, .slice S.ia S.J S.ic, .slice S.ka S.K S.kc].toArray 74 (0, 0)) :: Own 94 2 (.slice S.la S.N S.lc) S.N (rowsN S.N (fun j => mpR (S.M j))) :: BigF S.N (fun j => mpA (S.M j)) :: Own 102 3 (.slice S.ia S.J S.ic) S.J (rowsN S.J (fun j => kiR (S.T j))) :: BigF S.J (fun j => kiA (S.T j)) :: Own 107 4 (.slice S.ka S.K S.kc) S.K (rowsN S.K (fun j => bkR (S.B j))) :: BigF S.K (fun j => bkA (S.B j)) :: F) := by
  refine c_enter Try.func22 rfl rfl rfl ?_
  refine g_seq ?_
  refine g_region ?_
  refine l_assign rfl rfl ?_
  refine l_assign rfl rfl ?_
  refine l_nil ?_
  refine g_seq ?_
  refine g_region ?_
  refine l_build rfl rfl (fun w => bd_74_z w) ?_
  refine l_boxs rfl rfl ?_; intro b13
  refine l_assign rfl rfl ?_
  refine l_nil ?_
  refine g_seq ?_
  refine g_region ?_
  refine gl_heap (F' := Blk b13 (.cells [Value.slice S00.la S00.N S00.lc, .slice S00.ia S00.J S00.ic, .slice S00.ka S00.K S00.kc].toArray 74 (0, 0)) :: Own 94 2 (.slice S00.la S00.N S00.lc) S00.N (rowsN S00.N (fun j => mpR (S00.M j))) :: BigF S00.N (fun j => mpA (S00.M j)) :: Own 102 3 (.slice S00.ia S00.J S00.ic) S00.J (rowsN S00.J (fun j => kiR (S00.T j))) :: BigF S00.J (fun j => kiA (S00.T j)) :: Own 107 4 (.slice S00.ka S00.K S00.kc) S00.K (rowsN S00.K (fun j => bkR (S00.B j))) :: BigF S00.K (fun j => bkA (S00.B j)) :: F) (fun w hw => world0 hw) ?_
  refine l_call rfl Try.call9 rfl (new_ok _ _ 2 (by omega) (by omega)) ?_; rintro _ _ ⟨b1, g1, c1, rfl, hc1, rfl⟩
  rw [show ((2 : Int) * 16).toNat = 32 by decide] at hc1 ⊢
  refine l_move rfl rfl ?_
  refine l_extract rfl rfl rfl ?_
  refine l_extract rfl rfl rfl ?_
  refine l_assign rfl rfl ?_
  refine l_assign rfl rfl ?_
  refine l_nil ?_
  refine g_seq ?_
  refine g_region ?_
  refine l_call rfl Try.call39 rfl (rnew5_ok _ _ 2 (by omega) (by omega)) ?_; rintro _ _ ⟨b2, g2, c2, rfl, hc2, rfl⟩
  rw [show ((2 : Int) * 16).toNat = 32 by decide] at hc2 ⊢
  refine l_move rfl rfl ?_
  refine l_extract rfl rfl rfl ?_
  refine l_extract rfl rfl rfl ?_
  refine l_assign rfl rfl ?_
  refine l_assign rfl rfl ?_
  refine l_nil ?_
  refine g_seq ?_
  refine g_region ?_
  refine l_move rfl rfl ?_
  refine l_move rfl rfl ?_
  refine l_move rfl rfl ?_
  refine l_move rfl rfl ?_
  refine l_move rfl rfl ?_
  refine l_take (BigF S00.K (fun j => bkA (S00.B j))) ?_
  refine l_take (Own 107 4 (.slice S00.ka S00.K S00.kc) S00.K (rowsN S00.K (fun j => bkR (S00.B j)))) ?_
  refine l_take (BigF S00.J (fun j => kiA (S00.T j))) ?_
  refine l_take (Own 102 3 (.slice S00.ia S00.J S00.ic) S00.J (rowsN S00.J (fun j => kiR (S00.T j)))) ?_
  refine l_take (BigF S00.N (fun j => mpA (S00.M j))) ?_
  refine l_take (Own 94 2 (.slice S00.la S00.N S00.lc) S00.N (rowsN S00.N (fun j => mpR (S00.M j)))) ?_
  refine l_take (Blk b13 (.cells [Value.slice S00.la S00.N S00.lc, .slice S00.ia S00.J S00.ic, .slice S00.ka S00.K S00.kc].toArray 74 (0, 0))) ?_
  refine l_take (Own 30 1 (.slice (some ⟨g2, 0, none⟩) 32 c2) 32 (ints .u32 (List.replicate 32 0))) ?_
  refine l_take (Blk b2 (.cells [Value.slice (some ⟨g2, 0, none⟩) 32 c2].toArray 104 (0, 0))) ?_
  refine l_take (Own 30 1 (.slice (some ⟨g1, 0, none⟩) 32 c1) 32 (ints .u32 (List.replicate 32 0))) ?_
  refine l_take (Blk b1 (.cells [Value.slice (some ⟨g1, 0, none⟩) 32 c1].toArray 77 (0, 0))) ?_
  refine l_call rfl Try.call40 rfl (made_new _ _ b13 S00 s00_ok b1 g1 c1 b2 g2 c2 32 (List.replicate 32 0) ⟨by simp, hc1, hc2, by simp only; omega, by simp only; omega, .rep _ ⟨by decide, by decide⟩⟩ (by decide)) ?_; rintro _ _ ⟨S1, rfl, hS1, ⟨hN1, hm1, hJ1, hK1⟩, rfl⟩
  have hN1 : S1.N = 1 := hN1
  have hm1 : S1.M 0 = ⟨b1, g1, c1, b2, g2, c2, 32, (List.replicate 32 0)⟩ := hm1
  have hJ1 : S1.J = 0 := hJ1
  have hK1 : S1.K = 0 := hK1
  refine l_assign rfl rfl ?_
  refine l_nil ?_
  refine g_seq ?_
  refine g_seq ?_
  refine g_region ?_
  refine l_move rfl rfl ?_
  refine l_not rfl rfl ?_
  refine l_nil ?_
  first | refine g_cond_f rfl ?_ | refine g_cond_f (congrArg (fun b => some (Value.bool b)) (decide_eq_false hbr)) ?_
  refine g_skip ?_
  refine g_seq ?_
  refine g_region ?_
  refine l_take (BigF S1.N (fun j => mpA (S1.M j))) ?_
  refine l_openm (i := 0) (by omega) hm1 ?_
  refine l_move rfl rfl ?_
  refine l_take (Own 30 1 (.slice (some ⟨g1, 0, none⟩) 32 c1) 32 (ints .u32 (List.replicate 32 0))) ?_
  refine l_take (Blk b1 (.cells [Value.slice (some ⟨g1, 0, none⟩) 32 c1].toArray 77 (0, 0))) ?_
  refine l_call rfl Try.call19 rfl (clonem_ok _ _ b1 g1 32 c1 (List.replicate 32 0) (by simp) hc1 (by omega)) ?_; rintro _ _ ⟨b3, g3, c3, rfl, hc3, rfl⟩
  refine l_assign rfl rfl ?_
  refine l_nil ?_
  refine g_seq ?_
  refine g_region ?_
  refine l_move rfl rfl ?_
  refine l_move rfl rfl ?_
  refine l_move rfl rfl ?_
  refine l_take (Own 30 1 (.slice (some ⟨g2, 0, none⟩) 32 c2) 32 (ints .u32 (List.replicate 32 0))) ?_
  refine l_take (Blk b2 (.cells [Value.slice (some ⟨g2, 0, none⟩) 32 c2].toArray 104 (0, 0))) ?_
  refine l_call rfl Try.call41 rfl (rclone_ok _ _ b2 g2 32 c2 (List.replicate 32 0) (by simp) hc2 (by omega) (by omega)) ?_; rintro _ _ ⟨b4, g4, c4, rfl, hc4, rfl⟩
  refine l_take (BigBut S1.N 0 (fun j => mpA (S1.M j))) ?_
  refine l_take (Own 30 1 (.slice (some ⟨g2, 0, none⟩) 32 c2) 32 (ints .u32 (List.replicate 32 0))) ?_
  refine l_take (Blk b2 (.cells [Value.slice (some ⟨g2, 0, none⟩) 32 c2].toArray 104 (0, 0))) ?_
  refine l_take (Own 30 1 (.slice (some ⟨g1, 0, none⟩) 32 c1) 32 (ints .u32 (List.replicate 32 0))) ?_
  refine l_take (Blk b1 (.cells [Value.slice (some ⟨g1, 0, none⟩) 32 c1].toArray 77 (0, 0))) ?_
  refine l_closem (V2 := (List.replicate 32 0)) ?_
  rw [mp_rows (i := 0) (m := ⟨b1, g1, c1, b2, g2, c2, 32, (List.replicate 32 0)⟩) (by rw [hm1] <;> rfl)]
  refine l_take (BigF S1.K (fun j => bkA (S1.B j))) ?_
  refine l_take (Own 107 4 (.slice S1.ka S1.K S1.kc) S1.K (rowsN S1.K (fun j => bkR (S1.B j)))) ?_
  refine l_take (BigF S1.J (fun j => kiA (S1.T j))) ?_
  refine l_take (Own 102 3 (.slice S1.ia S1.J S1.ic) S1.J (rowsN S1.J (fun j => kiR (S1.T j)))) ?_
  refine l_take (BigF S1.N (fun j => mpA (upF S1.M 0 ⟨b1, g1, c1, b2, g2, c2, 32, (List.replicate 32 0)⟩ j))) ?_
  refine l_take (Own 94 2 (.slice S1.la S1.N S1.lc) S1.N (rowsN S1.N (fun j => mpR (upF S1.M 0 ⟨b1, g1, c1, b2, g2, c2, 32, (List.replicate 32 0)⟩ j)))) ?_
  refine l_take (Blk b13 (.cells [Value.slice S1.la S1.N S1.lc, .slice S1.ia S1.J S1.ic, .slice S1.ka S1.K S1.kc].toArray 74 (0, 0))) ?_
  refine l_take (Own 30 1 (.slice (some ⟨g4, 0, none⟩) 32 c4) 32 (ints .u32 (List.replicate 32 0))) ?_
  refine l_take (Blk b4 (.cells [Value.slice (some ⟨g4, 0, none⟩) 32 c4].toArray 104 (0, 0))) ?_
  refine l_take (Own 30 1 (.slice (some ⟨g3, 0, none⟩) 32 c3) 32 (ints .u32 (List.replicate 32 0))) ?_
  refine l_take (Blk b3 (.cells [Value.slice (some ⟨g3, 0, none⟩) 32 c3].toArray 77 (0, 0))) ?_
  refine l_call rfl Try.call40 rfl (made_ok _ _ b13 (⟨S1.N, upF S1.M 0 ⟨b1, g1, c1, b2, g2, c2, 32, (List.replicate 32 0)⟩, S1.la, S1.lc, S1.J, S1.T, S1.ia, S1.ic, S1.K, S1.B, S1.ka, S1.kc⟩ : WS) (hS1.put (i := 0) (m := ⟨b1, g1, c1, b2, g2, c2, 32, (List.replicate 32 0)⟩) ⟨by simp, hc1, hc2, by simp only; omega, by simp only; omega, .rep _ ⟨by decide, by decide⟩⟩ (by rw [hm1])) b3 g3 c3 b4 g4 c4 32 (List.replicate 32 0) ⟨by simp, hc3, hc4, by simp only; omega, by simp only; omega, .rep _ ⟨by decide, by decide⟩⟩) ?_; rintro _ _ ⟨S2, rfl, hS2, hN2, hN3, hJ2, hK2, rfl⟩
  simp only at hN2 hJ2 hK2
  refine l_assign rfl rfl ?_
  refine l_nil ?_
  refine g_seq ?_
  refine g_seq ?_
  refine g_region ?_
  refine l_move rfl rfl ?_
  refine l_not rfl rfl ?_
  refine l_nil ?_
  first | refine g_cond_f rfl ?_ | refine g_cond_f (congrArg (fun b => some (Value.bool b)) (decide_eq_false hbr)) ?_
  refine g_skip ?_
  refine g_seq ?_
  refine g_region ?_
  refine l_move rfl rfl ?_
  refine l_build rfl rfl (fun w => bd_65_0_3_6 _ _ _ w) ?_
  refine l_take (BigF S2.K (fun j => bkA (S2.B j))) ?_
  refine l_take (Own 107 4 (.slice S2.ka S2.K S2.kc) S2.K (rowsN S2.K (fun j => bkR (S2.B j)))) ?_
  refine l_take (BigF S2.J (fun j => kiA (S2.T j))) ?_
  refine l_take (Own 102 3 (.slice S2.ia S2.J S2.ic) S2.J (rowsN S2.J (fun j => kiR (S2.T j)))) ?_
  refine l_take (BigF S2.N (fun j => mpA (S2.M j))) ?_
  refine l_take (Own 94 2 (.slice S2.la S2.N S2.lc) S2.N (rowsN S2.N (fun j => mpR (S2.M j)))) ?_
  refine l_take (Blk b13 (.cells [Value.slice S2.la S2.N S2.lc, .slice S2.ia S2.J S2.ic, .slice S2.ka S2.K S2.kc].toArray 74 (0, 0))) ?_
  refine l_call rfl Try.call27 rfl (works_ok _ _ b13 S2 hS2 (by omega) (by omega) 4 (by omega) (by omega) 0 (by omega) (by omega) 0 (by omega) (by omega) 31 (by omega) (by omega) 0 (by omega) (by omega) 0 (by omega) (by omega) 7 (by omega) (by omega) none 0 0 [] rfl (by omega) ⟨rfl, .inl rfl⟩ (fun i => by simp)) ?_; rintro _ _ ⟨S3, rfl, hS3, hN3b, hJ3, hK3, rfl⟩
  refine l_assign rfl rfl ?_
  refine l_nil ?_
  refine g_seq ?_
  refine g_region ?_
  refine l_move rfl rfl ?_
  refine l_build rfl rfl (fun w => bd_65_0_3 _ _ w) ?_
  refine l_take (BigF S3.K (fun j => bkA (S3.B j))) ?_
  refine l_take (Own 107 4 (.slice S3.ka S3.K S3.kc) S3.K (rowsN S3.K (fun j => bkR (S3.B j)))) ?_
  refine l_take (BigF S3.J (fun j => kiA (S3.T j))) ?_
  refine l_take (Own 102 3 (.slice S3.ia S3.J S3.ic) S3.J (rowsN S3.J (fun j => kiR (S3.T j)))) ?_
  refine l_take (BigF S3.N (fun j => mpA (S3.M j))) ?_
  refine l_take (Own 94 2 (.slice S3.la S3.N S3.lc) S3.N (rowsN S3.N (fun j => mpR (S3.M j)))) ?_
  refine l_take (Blk b13 (.cells [Value.slice S3.la S3.N S3.lc, .slice S3.ia S3.J S3.ic, .slice S3.ka S3.K S3.kc].toArray 74 (0, 0))) ?_
  refine l_call rfl Try.call27 rfl (works_ok _ _ b13 S3 hS3 (by omega) (by omega) 3 (by omega) (by omega) 0 (by omega) (by omega) 0 (by omega) (by omega) 31 (by omega) (by omega) 0 (by omega) (by omega) 0 (by omega) (by omega) 0 (by omega) (by omega) none 0 0 [] rfl (by omega) ⟨rfl, .inl rfl⟩ (fun i => by simp)) ?_; rintro _ _ ⟨S4, rfl, hS4, hN4, hJ4, hK4, rfl⟩
  refine l_assign rfl rfl ?_
  refine l_nil ?_
  refine g_seq ?_
  refine g_region ?_
  refine l_move rfl rfl ?_
  refine l_build rfl rfl (fun w => bd_65_2_5 _ _ w) ?_
  refine l_take (BigF S4.K (fun j => bkA (S4.B j))) ?_
  refine l_take (Own 107 4 (.slice S4.ka S4.K S4.kc) S4.K (rowsN S4.K (fun j => bkR (S4.B j)))) ?_
  refine l_take (BigF S4.J (fun j => kiA (S4.T j))) ?_
  refine l_take (Own 102 3 (.slice S4.ia S4.J S4.ic) S4.J (rowsN S4.J (fun j => kiR (S4.T j)))) ?_
  refine l_take (BigF S4.N (fun j => mpA (S4.M j))) ?_
  refine l_take (Own 94 2 (.slice S4.la S4.N S4.lc) S4.N (rowsN S4.N (fun j => mpR (S4.M j)))) ?_
  refine l_take (Blk b13 (.cells [Value.slice S4.la S4.N S4.lc, .slice S4.ia S4.J S4.ic, .slice S4.ka S4.K S4.kc].toArray 74 (0, 0))) ?_
  refine l_call rfl Try.call24 rfl (differs_ok _ _ b13 S4 hS4 (by omega) 0 (by omega) (by omega) 0 (by omega) (by omega) 1 (by omega) (by omega) 0 (by omega) (by omega) 0 (by omega) (by omega) 3 (by omega) (by omega) 0 (by omega) (by omega) none 0 0 [] rfl (by omega) ⟨rfl, .inl rfl⟩ (fun i => by simp)) ?_; rintro _ _ ⟨rfl, rfl⟩
  refine l_assign rfl rfl ?_
  refine l_nil ?_
  refine g_seq ?_
  refine g_region ?_
  refine l_move rfl rfl ?_
  refine l_move rfl rfl ?_
  refine l_move rfl rfl ?_
  refine l_guard_yes rfl rfl ?_
  refine l_move rfl rfl ?_
  refine l_pick_t rfl rfl rfl ?_
  refine l_move rfl rfl ?_
  refine l_guard_yes rfl rfl ?_
  refine l_move rfl rfl ?_
  refine l_pick_t rfl rfl rfl ?_
  refine l_assign rfl rfl ?_
  refine l_assign rfl rfl ?_
  refine l_nil ?_
  refine g_ret Try.func22 rfl (.tmp rfl (.tmp rfl .nil)) ?_
  exact Gives.mki ⟨b13, S4, rfl, hS4, by omega, by omega, by omega, rfl⟩
end Go.Proofs.Ytlgcghhjgcdigaa.Fw
