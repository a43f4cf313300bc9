import Derived.Test.YthemlddepepekaaMakes
import Derived.Test.YthemlddepepekaaDoes
namespace Go.Proofs.Ythemlddepepekaa.Fw
open Go Go.Proofs
set_option linter.unusedVariables false
set_option linter.unusedSimpArgs false
set_option maxRecDepth 10000
theorem bd_63_z  (w : World) : (Instr.build 63 #[]).run Try.prog w = .ok (.agg #[.pointer none, .pointer none, .pointer none, .pointer none, .slice none 0 0, .slice none 0 0, .slice none 0 0]) w := by kernel_rfl
theorem fa_63_2 (a : Addr) (w : World) : (Instr.fieldAt 63 (.pointer (some a)) 2).run Try.prog w = .ok (.pointer (some (a.add 2))) w := by
  simp [Instr.fieldAt, Try.runUnderlying63, Instr.sureAddr, fieldPlace, Try.sizeOf24, Sem.run_bind, Sem.run_pure]
theorem fa_63_3 (a : Addr) (w : World) : (Instr.fieldAt 63 (.pointer (some a)) 3).run Try.prog w = .ok (.pointer (some (a.add 3))) w := by
  simp [Instr.fieldAt, Try.runUnderlying63, Instr.sureAddr, fieldPlace, Try.sizeOf56, Sem.run_bind, Sem.run_pure]
theorem bd_53_0_6 (a0_0 : Int) (a6_0 : Option Addr) (n6_0 c6_0 : Nat) (w : World) : (Instr.build 53 #[(0, .int .i64 a0_0), (6, .slice a6_0 n6_0 c6_0)]).run Try.prog w = .ok (.agg #[.int .i64 a0_0, .int .i64 0, .int .i64 0, .int .i64 0, .bool false, .int .u32 0, .slice a6_0 n6_0 c6_0, .slice none 0 0]) w := by kernel_rfl
theorem bd_53_0_1 (a0_0 : Int) (a1_0 : Int) (w : World) : (Instr.build 53 #[(0, .int .i64 a0_0), (1, .int .i64 a1_0)]).run Try.prog w = .ok (.agg #[.int .i64 a0_0, .int .i64 a1_0, .int .i64 0, .int .i64 0, .bool false, .int .u32 0, .slice none 0 0, .slice none 0 0]) w := by kernel_rfl
def S00 (m p : MP) : WS := ⟨m, p, 0, fun _ => ⟨0, none, 0, none, 0, 0, none, 0, none, 0, [], 0, false, []⟩, none, 0, 0, fun _ => ⟨none, 0, none, 0, 0, []⟩, none, 0⟩
theorem s00_ok {m p : MP} (hm : MOk m) (hp : MOk p) : SOk (S00 m p) := ⟨hm, hp, fun j hj => absurd hj (Nat.not_lt_zero _), .inl rfl, fun j hj => absurd hj (Nat.not_lt_zero _), .inl rfl⟩
theorem world0 {w0 : World} {F : List Atom} {w : World} {wb : Nat} {m p : MP} (h : Holds w0 (Blk wb (.cells [Value.pointer (some ⟨m.x, 0, none⟩), .pointer (some ⟨m.y, 0, none⟩), .pointer (some ⟨p.x, 0, none⟩), .pointer (some ⟨p.y, 0, none⟩), .slice none 0 0, .slice none 0 0, .slice none 0 0].toArray 63 (0, 0)) :: Blk m.x (.cells [Value.slice (some ⟨m.g, 0, none⟩) 32 m.c].toArray 81 (0, 0)) :: Own 51 1 (.slice (some ⟨m.g, 0, none⟩) 32 m.c) 32 (ints .u32 m.W) :: Blk m.y (.cells [Value.slice (some ⟨m.h, 0, none⟩) 32 m.d].toArray 67 (0, 0)) :: Own 51 1 (.slice (some ⟨m.h, 0, none⟩) 32 m.d) 32 (ints .u32 m.W) :: Blk p.x (.cells [Value.slice (some ⟨p.g, 0, none⟩) 32 p.c].toArray 81 (0, 0)) :: Own 51 1 (.slice (some ⟨p.g, 0, none⟩) 32 p.c) 32 (ints .u32 p.W) :: Blk p.y (.cells [Value.slice (some ⟨p.h, 0, none⟩) 32 p.d].toArray 67 (0, 0)) :: Own 51 1 (.slice (some ⟨p.h, 0, none⟩) 32 p.d) 32 (ints .u32 p.W) :: F) w) : Holds w0 (Blk wb (.cells [Value.pointer (some ⟨(S00 m p).m.x, 0, none⟩), .pointer (some ⟨(S00 m p).m.y, 0, none⟩), .pointer (some ⟨(S00 m p).p.x, 0, none⟩), .pointer (some ⟨(S00 m p).p.y, 0, none⟩), .slice (S00 m p).la (S00 m p).N (S00 m p).lc, .slice (S00 m p).ka (S00 m p).K (S00 m p).kc, .slice none 0 0].toArray 63 (0, 0)) :: mpA (S00 m p).m :: mpA (S00 m p).p :: Own 95 2 (.slice (S00 m p).la (S00 m p).N (S00 m p).lc) (S00 m p).N (rowsN (S00 m p).N (fun j => chR ((S00 m p).C j))) :: BigF (S00 m p).N (fun j => chA ((S00 m p).C j)) :: Own 111 4 (.slice (S00 m p).ka (S00 m p).K (S00 m p).kc) (S00 m p).K (rowsN (S00 m p).K (fun j => bkR ((S00 m p).B j))) :: BigF (S00 m p).K (fun j => bkA ((S00 m p).B j)) :: F) w := by
  have h1 : Holds w0 (Blk m.x (.cells [Value.slice (some ⟨m.g, 0, none⟩) 32 m.c].toArray 81 (0, 0)) :: Own 51 1 (.slice (some ⟨m.g, 0, none⟩) 32 m.c) 32 (ints .u32 m.W) :: Blk m.y (.cells [Value.slice (some ⟨m.h, 0, none⟩) 32 m.d].toArray 67 (0, 0)) :: Own 51 1 (.slice (some ⟨m.h, 0, none⟩) 32 m.d) 32 (ints .u32 m.W) :: Blk wb (.cells [Value.pointer (some ⟨m.x, 0, none⟩), .pointer (some ⟨m.y, 0, none⟩), .pointer (some ⟨p.x, 0, none⟩), .pointer (some ⟨p.y, 0, none⟩), .slice none 0 0, .slice none 0 0, .slice none 0 0].toArray 63 (0, 0)) :: Blk p.x (.cells [Value.slice (some ⟨p.g, 0, none⟩) 32 p.c].toArray 81 (0, 0)) :: Own 51 1 (.slice (some ⟨p.g, 0, none⟩) 32 p.c) 32 (ints .u32 p.W) :: Blk p.y (.cells [Value.slice (some ⟨p.h, 0, none⟩) 32 p.d].toArray 67 (0, 0)) :: Own 51 1 (.slice (some ⟨p.h, 0, none⟩) 32 p.d) 32 (ints .u32 p.W) :: F) w := SPI.holds h
  have h2 : Holds w0 (mpA m :: Blk wb (.cells [Value.pointer (some ⟨m.x, 0, none⟩), .pointer (some ⟨m.y, 0, none⟩), .pointer (some ⟨p.x, 0, none⟩), .pointer (some ⟨p.y, 0, none⟩), .slice none 0 0, .slice none 0 0, .slice none 0 0].toArray 63 (0, 0)) :: Blk p.x (.cells [Value.slice (some ⟨p.g, 0, none⟩) 32 p.c].toArray 81 (0, 0)) :: Own 51 1 (.slice (some ⟨p.g, 0, none⟩) 32 p.c) 32 (ints .u32 p.W) :: Blk p.y (.cells [Value.slice (some ⟨p.h, 0, none⟩) 32 p.d].toArray 67 (0, 0)) :: Own 51 1 (.slice (some ⟨p.h, 0, none⟩) 32 p.d) 32 (ints .u32 p.W) :: F) w := Quad.mk h1
  have h3 : Holds w0 (Blk p.x (.cells [Value.slice (some ⟨p.g, 0, none⟩) 32 p.c].toArray 81 (0, 0)) :: Own 51 1 (.slice (some ⟨p.g, 0, none⟩) 32 p.c) 32 (ints .u32 p.W) :: Blk p.y (.cells [Value.slice (some ⟨p.h, 0, none⟩) 32 p.d].toArray 67 (0, 0)) :: Own 51 1 (.slice (some ⟨p.h, 0, none⟩) 32 p.d) 32 (ints .u32 p.W) :: mpA m :: Blk wb (.cells [Value.pointer (some ⟨m.x, 0, none⟩), .pointer (some ⟨m.y, 0, none⟩), .pointer (some ⟨p.x, 0, none⟩), .pointer (some ⟨p.y, 0, none⟩), .slice none 0 0, .slice none 0 0, .slice none 0 0].toArray 63 (0, 0)) :: F) w := SPI.holds h2
  have h4 : Holds w0 (mpA p :: mpA m :: Blk wb (.cells [Value.pointer (some ⟨m.x, 0, none⟩), .pointer (some ⟨m.y, 0, none⟩), .pointer (some ⟨p.x, 0, none⟩), .pointer (some ⟨p.y, 0, none⟩), .slice none 0 0, .slice none 0 0, .slice none 0 0].toArray 63 (0, 0)) :: F) w := Quad.mk h3
  have h5 := BigF.zero ((BigF.zero (h4.own_nil 95 2) (fun j => chA ((S00 m p).C j))).own_nil 111 4) (fun j => bkA ((S00 m p).B j))
  have h6 : Holds w0 (Blk wb (.cells [Value.pointer (some ⟨m.x, 0, none⟩), .pointer (some ⟨m.y, 0, none⟩), .pointer (some ⟨p.x, 0, none⟩), .pointer (some ⟨p.y, 0, none⟩), .slice none 0 0, .slice none 0 0, .slice none 0 0].toArray 63 (0, 0)) :: mpA m :: mpA p :: Own 95 2 (.slice none 0 0) 0 [] :: BigF 0 (fun j => chA ((S00 m p).C j)) :: Own 111 4 (.slice none 0 0) 0 [] :: BigF 0 (fun j => bkA ((S00 m p).B j)) :: F) w := SPI.holds h5
  exact h6
theorem step_one {W' T' : List Int} {h' e : Int} {q' d : Bool} (H : StepG 32 (List.replicate 32 0) [2] 0 false [] d e W' h' q' T') : W' = (List.replicate 32 0).set 2 1 ∧ h' = 0 ∧ q' = true ∧ T' = [0] := by
  rcases H with ⟨a1, _⟩ | ⟨_, a2, _⟩ | ⟨a1, a2, a3, k, a4, a5⟩
  · simp at a1
  · cases a2
  · have hx : nx (List.replicate 32 0) 2 = 0 := rfl
    have hy : tn (List.replicate 32 0) 2 = 0 := rfl
    have a4 : TakG (List.replicate 32 0) 32 2 k e W' := a4
    rcases a4 with ⟨_, b, _⟩ | ⟨_, _, b, _⟩ | ⟨b1, _, _, b4, b5⟩
    · exact absurd ⟨by decide, by decide, by decide, by decide⟩ b
    · rw [hx, hy] at b; exact absurd b (by decide)
    · rcases a5 with ⟨_, _, c3, c4⟩ | ⟨c1, _⟩
      · subst a3 c3 c4 b4 b5
        exact ⟨rfl, rfl, rfl, rfl⟩
      · exact absurd b1 c1
theorem step_two {W' T' : List Int} {h' e : Int} {q' d : Bool} (H : StepG 32 ((List.replicate 32 0).set 2 1) [2] 0 true [0] d e W' h' q' T') : h' = 1 := by
  rcases H with ⟨a1, _⟩ | ⟨a1, a2, a3, a4, a5, a6⟩ | ⟨_, a2, _⟩
  · simp at a1
  · have a5 : MinG ((List.replicate 32 0).set 2 1) 32 2 0 d e := a5
    rcases a5 with ⟨_, b, _⟩ | ⟨_, _, b⟩
    · exact absurd ⟨by decide, by decide, by decide, by decide⟩ b
    · have : d = true := b
      rcases a6 with ⟨_, c, _⟩ | ⟨c, _⟩
      · exact c
      · rw [this] at c; cases c
  · cases a2
set_option maxHeartbeats 8000000 in
theorem begun_ok (w0 : World) (F : List Atom)  :
    CallK Try.prog 17 [] w0 (F) (Gives w0 fun v F2 => ∃ (wb : Nat) (S : WS), v = .tuple #[.pointer (some ⟨wb, 0, none⟩), .bool true] ∧ SOk S ∧ 1 ≤ S.N ∧ S.N ≤ 2 ∧ S.K = 0 ∧ F2 = Blk wb (.cells [Value.pointer (some ⟨S.m.x, 0, none⟩), .pointer (some ⟨S.m.y, 0, none⟩), .pointer (some ⟨S.p.x, 0, none⟩), .pointer (some ⟨S.p.y, 0, none⟩), .slice S.la S.N S.lc, .slice S.ka S.K S.kc, .slice none 0 0].toArray 63 (0, 0)) :: mpA S.m :: mpA S.p :: Own 95 2 (.slice S.la S.N S.lc) S.N (rowsN S.N (fun j => chR (S.C j))) :: BigF S.N (fun j => chA (S.C j)) :: Own 111 4 (.slice S.ka S.K S.kc) S.K (rowsN S.K (fun j => bkR (S.B j))) :: BigF S.K (fun j => bkA (S.B j)) :: F) := by
  refine c_enter Try.func17 rfl rfl rfl ?_
  refine g_seq ?_
  refine g_region ?_
  refine l_assign rfl rfl ?_
  refine l_assign rfl rfl ?_
  refine l_nil ?_
  refine g_seq ?_
  refine g_region ?_
  refine l_build rfl rfl (fun w => bd_63_z w) ?_
  refine l_boxs rfl rfl ?_; intro b9
  refine l_assign rfl rfl ?_
  refine l_nil ?_
  refine g_seq ?_
  refine g_region ?_
  refine l_move rfl rfl ?_
  refine l_call rfl Try.call7 rfl (new_ok _ _ 2 (by omega) (by omega)) ?_; rintro _ _ ⟨b1, g1, c1, rfl, hc1, rfl⟩
  rw [show ((2 : Int) * 16).toNat = 32 by decide] at hc1 ⊢
  refine l_move rfl rfl ?_
  refine l_extract rfl rfl rfl ?_
  refine l_extract rfl rfl rfl ?_
  refine l_nilCheck rfl rfl ?_
  refine l_fieldAddr rfl fa_63_0 rfl ?_
  refine l_st Try.sizeOf24 rfl rfl rfl rfl ?_
  refine l_nil ?_
  refine g_seq ?_
  refine g_region ?_
  refine l_move rfl rfl ?_
  refine l_call rfl Try.call37 rfl (rnew5_ok _ _ 2 (by omega) (by omega)) ?_; rintro _ _ ⟨b2, g2, c2, rfl, hc2, rfl⟩
  rw [show ((2 : Int) * 16).toNat = 32 by decide] at hc2 ⊢
  refine l_move rfl rfl ?_
  refine l_extract rfl rfl rfl ?_
  refine l_extract rfl rfl rfl ?_
  refine l_nilCheck rfl rfl ?_
  refine l_fieldAddr rfl fa_63_1 rfl ?_
  refine l_st Try.sizeOf56 rfl rfl rfl rfl ?_
  refine l_nil ?_
  refine g_seq ?_
  refine g_region ?_
  refine l_move rfl rfl ?_
  refine l_call rfl Try.call7 rfl (new_ok _ _ 2 (by omega) (by omega)) ?_; rintro _ _ ⟨b3, g3, c3, rfl, hc3, rfl⟩
  rw [show ((2 : Int) * 16).toNat = 32 by decide] at hc3 ⊢
  refine l_move rfl rfl ?_
  refine l_extract rfl rfl rfl ?_
  refine l_extract rfl rfl rfl ?_
  refine l_nilCheck rfl rfl ?_
  refine l_fieldAddr rfl fa_63_2 rfl ?_
  refine l_st Try.sizeOf24 rfl rfl rfl rfl ?_
  refine l_nil ?_
  refine g_seq ?_
  refine g_region ?_
  refine l_move rfl rfl ?_
  refine l_call rfl Try.call37 rfl (rnew5_ok _ _ 2 (by omega) (by omega)) ?_; rintro _ _ ⟨b4, g4, c4, rfl, hc4, rfl⟩
  rw [show ((2 : Int) * 16).toNat = 32 by decide] at hc4 ⊢
  refine l_move rfl rfl ?_
  refine l_extract rfl rfl rfl ?_
  refine l_extract rfl rfl rfl ?_
  refine l_nilCheck rfl rfl ?_
  refine l_fieldAddr rfl fa_63_3 rfl ?_
  refine l_st Try.sizeOf56 rfl rfl rfl rfl ?_
  refine l_nil ?_
  refine g_seq ?_
  refine g_seq ?_
  refine g_region ?_
  refine l_move rfl rfl ?_
  refine l_nilCheck rfl rfl ?_
  refine l_fieldAddr rfl fa_63_0 rfl ?_
  refine l_ld rfl Try.isAgg24 rfl rfl ?_
  refine l_eqpn rfl Try.underlying24 rfl rfl ?_
  refine l_move rfl rfl ?_
  refine l_split 43 rfl ?_ ?_
  · intro hbr
    first | (exfalso; simp at hbr; done) | (exfalso; simp at hbr; omega) | (exfalso; first | omega | (simp at hbr; done))
  intro hbr
  have hb43 := hbr
  refine l_guard_yes rfl rfl ?_
  refine l_move rfl rfl ?_
  refine l_guard_yes rfl rfl ?_
  refine l_nilCheck rfl rfl ?_
  refine l_guard_yes rfl rfl ?_
  refine l_fieldAddr rfl fa_63_2 rfl ?_
  refine l_guard_yes rfl rfl ?_
  refine l_ld rfl Try.isAgg24 rfl rfl ?_
  refine l_guard_yes rfl rfl ?_
  refine l_eqpn rfl Try.underlying24 rfl rfl ?_
  refine l_pick_f rfl rfl rfl ?_
  refine l_nil ?_
  refine g_cond rfl ?_ ?_
  · intro hbr
    first | (exfalso; simp at hbr; done) | (exfalso; simp at hbr; omega) | (exfalso; first | omega | (simp at hbr; done))
  intro hbr
  have hb49 := hbr
  refine g_skip ?_
  refine g_seq ?_
  refine g_region ?_
  refine gl_heap (F' := Blk b9 (.cells [Value.pointer (some ⟨(S00 (⟨b1, g1, c1, b2, g2, c2, (List.replicate 32 0)⟩ : MP) (⟨b3, g3, c3, b4, g4, c4, (List.replicate 32 0)⟩ : MP)).m.x, 0, none⟩), .pointer (some ⟨(S00 (⟨b1, g1, c1, b2, g2, c2, (List.replicate 32 0)⟩ : MP) (⟨b3, g3, c3, b4, g4, c4, (List.replicate 32 0)⟩ : MP)).m.y, 0, none⟩), .pointer (some ⟨(S00 (⟨b1, g1, c1, b2, g2, c2, (List.replicate 32 0)⟩ : MP) (⟨b3, g3, c3, b4, g4, c4, (List.replicate 32 0)⟩ : MP)).p.x, 0, none⟩), .pointer (some ⟨(S00 (⟨b1, g1, c1, b2, g2, c2, (List.replicate 32 0)⟩ : MP) (⟨b3, g3, c3, b4, g4, c4, (List.replicate 32 0)⟩ : MP)).p.y, 0, none⟩), .slice (S00 (⟨b1, g1, c1, b2, g2, c2, (List.replicate 32 0)⟩ : MP) (⟨b3, g3, c3, b4, g4, c4, (List.replicate 32 0)⟩ : MP)).la (S00 (⟨b1, g1, c1, b2, g2, c2, (List.replicate 32 0)⟩ : MP) (⟨b3, g3, c3, b4, g4, c4, (List.replicate 32 0)⟩ : MP)).N (S00 (⟨b1, g1, c1, b2, g2, c2, (List.replicate 32 0)⟩ : MP) (⟨b3, g3, c3, b4, g4, c4, (List.replicate 32 0)⟩ : MP)).lc, .slice (S00 (⟨b1, g1, c1, b2, g2, c2, (List.replicate 32 0)⟩ : MP) (⟨b3, g3, c3, b4, g4, c4, (List.replicate 32 0)⟩ : MP)).ka (S00 (⟨b1, g1, c1, b2, g2, c2, (List.replicate 32 0)⟩ : MP) (⟨b3, g3, c3, b4, g4, c4, (List.replicate 32 0)⟩ : MP)).K (S00 (⟨b1, g1, c1, b2, g2, c2, (List.replicate 32 0)⟩ : MP) (⟨b3, g3, c3, b4, g4, c4, (List.replicate 32 0)⟩ : MP)).kc, .slice none 0 0].toArray 63 (0, 0)) :: mpA (S00 (⟨b1, g1, c1, b2, g2, c2, (List.replicate 32 0)⟩ : MP) (⟨b3, g3, c3, b4, g4, c4, (List.replicate 32 0)⟩ : MP)).m :: mpA (S00 (⟨b1, g1, c1, b2, g2, c2, (List.replicate 32 0)⟩ : MP) (⟨b3, g3, c3, b4, g4, c4, (List.replicate 32 0)⟩ : MP)).p :: Own 95 2 (.slice (S00 (⟨b1, g1, c1, b2, g2, c2, (List.replicate 32 0)⟩ : MP) (⟨b3, g3, c3, b4, g4, c4, (List.replicate 32 0)⟩ : MP)).la (S00 (⟨b1, g1, c1, b2, g2, c2, (List.replicate 32 0)⟩ : MP) (⟨b3, g3, c3, b4, g4, c4, (List.replicate 32 0)⟩ : MP)).N (S00 (⟨b1, g1, c1, b2, g2, c2, (List.replicate 32 0)⟩ : MP) (⟨b3, g3, c3, b4, g4, c4, (List.replicate 32 0)⟩ : MP)).lc) (S00 (⟨b1, g1, c1, b2, g2, c2, (List.replicate 32 0)⟩ : MP) (⟨b3, g3, c3, b4, g4, c4, (List.replicate 32 0)⟩ : MP)).N (rowsN (S00 (⟨b1, g1, c1, b2, g2, c2, (List.replicate 32 0)⟩ : MP) (⟨b3, g3, c3, b4, g4, c4, (List.replicate 32 0)⟩ : MP)).N (fun j => chR ((S00 (⟨b1, g1, c1, b2, g2, c2, (List.replicate 32 0)⟩ : MP) (⟨b3, g3, c3, b4, g4, c4, (List.replicate 32 0)⟩ : MP)).C j))) :: BigF (S00 (⟨b1, g1, c1, b2, g2, c2, (List.replicate 32 0)⟩ : MP) (⟨b3, g3, c3, b4, g4, c4, (List.replicate 32 0)⟩ : MP)).N (fun j => chA ((S00 (⟨b1, g1, c1, b2, g2, c2, (List.replicate 32 0)⟩ : MP) (⟨b3, g3, c3, b4, g4, c4, (List.replicate 32 0)⟩ : MP)).C j)) :: Own 111 4 (.slice (S00 (⟨b1, g1, c1, b2, g2, c2, (List.replicate 32 0)⟩ : MP) (⟨b3, g3, c3, b4, g4, c4, (List.replicate 32 0)⟩ : MP)).ka (S00 (⟨b1, g1, c1, b2, g2, c2, (List.replicate 32 0)⟩ : MP) (⟨b3, g3, c3, b4, g4, c4, (List.replicate 32 0)⟩ : MP)).K (S00 (⟨b1, g1, c1, b2, g2, c2, (List.replicate 32 0)⟩ : MP) (⟨b3, g3, c3, b4, g4, c4, (List.replicate 32 0)⟩ : MP)).kc) (S00 (⟨b1, g1, c1, b2, g2, c2, (List.replicate 32 0)⟩ : MP) (⟨b3, g3, c3, b4, g4, c4, (List.replicate 32 0)⟩ : MP)).K (rowsN (S00 (⟨b1, g1, c1, b2, g2, c2, (List.replicate 32 0)⟩ : MP) (⟨b3, g3, c3, b4, g4, c4, (List.replicate 32 0)⟩ : MP)).K (fun j => bkR ((S00 (⟨b1, g1, c1, b2, g2, c2, (List.replicate 32 0)⟩ : MP) (⟨b3, g3, c3, b4, g4, c4, (List.replicate 32 0)⟩ : MP)).B j))) :: BigF (S00 (⟨b1, g1, c1, b2, g2, c2, (List.replicate 32 0)⟩ : MP) (⟨b3, g3, c3, b4, g4, c4, (List.replicate 32 0)⟩ : MP)).K (fun j => bkA ((S00 (⟨b1, g1, c1, b2, g2, c2, (List.replicate 32 0)⟩ : MP) (⟨b3, g3, c3, b4, g4, c4, (List.replicate 32 0)⟩ : MP)).B j)) :: F) (fun w hw => world0 (m := (⟨b1, g1, c1, b2, g2, c2, (List.replicate 32 0)⟩ : MP)) (p := (⟨b3, g3, c3, b4, g4, c4, (List.replicate 32 0)⟩ : MP)) (SPI.holds (F := Blk (⟨b3, g3, c3, b4, g4, c4, (List.replicate 32 0)⟩ : MP).y (.cells [Value.slice (some ⟨(⟨b3, g3, c3, b4, g4, c4, (List.replicate 32 0)⟩ : MP).h, 0, none⟩) 32 (⟨b3, g3, c3, b4, g4, c4, (List.replicate 32 0)⟩ : MP).d].toArray 67 (0, 0)) :: Own 51 1 (.slice (some ⟨(⟨b3, g3, c3, b4, g4, c4, (List.replicate 32 0)⟩ : MP).h, 0, none⟩) 32 (⟨b3, g3, c3, b4, g4, c4, (List.replicate 32 0)⟩ : MP).d) 32 (ints .u32 (⟨b3, g3, c3, b4, g4, c4, (List.replicate 32 0)⟩ : MP).W) :: Blk (⟨b3, g3, c3, b4, g4, c4, (List.replicate 32 0)⟩ : MP).x (.cells [Value.slice (some ⟨(⟨b3, g3, c3, b4, g4, c4, (List.replicate 32 0)⟩ : MP).g, 0, none⟩) 32 (⟨b3, g3, c3, b4, g4, c4, (List.replicate 32 0)⟩ : MP).c].toArray 81 (0, 0)) :: Own 51 1 (.slice (some ⟨(⟨b3, g3, c3, b4, g4, c4, (List.replicate 32 0)⟩ : MP).g, 0, none⟩) 32 (⟨b3, g3, c3, b4, g4, c4, (List.replicate 32 0)⟩ : MP).c) 32 (ints .u32 (⟨b3, g3, c3, b4, g4, c4, (List.replicate 32 0)⟩ : MP).W) :: Blk (⟨b1, g1, c1, b2, g2, c2, (List.replicate 32 0)⟩ : MP).y (.cells [Value.slice (some ⟨(⟨b1, g1, c1, b2, g2, c2, (List.replicate 32 0)⟩ : MP).h, 0, none⟩) 32 (⟨b1, g1, c1, b2, g2, c2, (List.replicate 32 0)⟩ : MP).d].toArray 67 (0, 0)) :: Own 51 1 (.slice (some ⟨(⟨b1, g1, c1, b2, g2, c2, (List.replicate 32 0)⟩ : MP).h, 0, none⟩) 32 (⟨b1, g1, c1, b2, g2, c2, (List.replicate 32 0)⟩ : MP).d) 32 (ints .u32 (⟨b1, g1, c1, b2, g2, c2, (List.replicate 32 0)⟩ : MP).W) :: Blk (⟨b1, g1, c1, b2, g2, c2, (List.replicate 32 0)⟩ : MP).x (.cells [Value.slice (some ⟨(⟨b1, g1, c1, b2, g2, c2, (List.replicate 32 0)⟩ : MP).g, 0, none⟩) 32 (⟨b1, g1, c1, b2, g2, c2, (List.replicate 32 0)⟩ : MP).c].toArray 81 (0, 0)) :: Own 51 1 (.slice (some ⟨(⟨b1, g1, c1, b2, g2, c2, (List.replicate 32 0)⟩ : MP).g, 0, none⟩) 32 (⟨b1, g1, c1, b2, g2, c2, (List.replicate 32 0)⟩ : MP).c) 32 (ints .u32 (⟨b1, g1, c1, b2, g2, c2, (List.replicate 32 0)⟩ : MP).W) :: Blk b9 (.cells [Value.pointer (some ⟨b1, 0, none⟩), .pointer (some ⟨b2, 0, none⟩), .pointer (some ⟨b3, 0, none⟩), .pointer (some ⟨b4, 0, none⟩), .slice none 0 0, .slice none 0 0, .slice none 0 0].toArray 63 (0, 0)) :: F) hw)) ?_
  refine l_move rfl rfl ?_
  refine l_buildSlice rfl Try.underlying23 Try.sizeOf3 Try.zeroValue3 rfl rfl rfl rfl rfl rfl ?_; intro b52
  refine l_build rfl rfl (fun w => bd_53_0_6 _ _ _ _ w) ?_
  refine l_take (BigF (S00 (⟨b1, g1, c1, b2, g2, c2, (List.replicate 32 0)⟩ : MP) (⟨b3, g3, c3, b4, g4, c4, (List.replicate 32 0)⟩ : MP)).K (fun j => bkA ((S00 (⟨b1, g1, c1, b2, g2, c2, (List.replicate 32 0)⟩ : MP) (⟨b3, g3, c3, b4, g4, c4, (List.replicate 32 0)⟩ : MP)).B j))) ?_
  refine l_take (Own 111 4 (.slice (S00 (⟨b1, g1, c1, b2, g2, c2, (List.replicate 32 0)⟩ : MP) (⟨b3, g3, c3, b4, g4, c4, (List.replicate 32 0)⟩ : MP)).ka (S00 (⟨b1, g1, c1, b2, g2, c2, (List.replicate 32 0)⟩ : MP) (⟨b3, g3, c3, b4, g4, c4, (List.replicate 32 0)⟩ : MP)).K (S00 (⟨b1, g1, c1, b2, g2, c2, (List.replicate 32 0)⟩ : MP) (⟨b3, g3, c3, b4, g4, c4, (List.replicate 32 0)⟩ : MP)).kc) (S00 (⟨b1, g1, c1, b2, g2, c2, (List.replicate 32 0)⟩ : MP) (⟨b3, g3, c3, b4, g4, c4, (List.replicate 32 0)⟩ : MP)).K (rowsN (S00 (⟨b1, g1, c1, b2, g2, c2, (List.replicate 32 0)⟩ : MP) (⟨b3, g3, c3, b4, g4, c4, (List.replicate 32 0)⟩ : MP)).K (fun j => bkR ((S00 (⟨b1, g1, c1, b2, g2, c2, (List.replicate 32 0)⟩ : MP) (⟨b3, g3, c3, b4, g4, c4, (List.replicate 32 0)⟩ : MP)).B j)))) ?_
  refine l_take (BigF (S00 (⟨b1, g1, c1, b2, g2, c2, (List.replicate 32 0)⟩ : MP) (⟨b3, g3, c3, b4, g4, c4, (List.replicate 32 0)⟩ : MP)).N (fun j => chA ((S00 (⟨b1, g1, c1, b2, g2, c2, (List.replicate 32 0)⟩ : MP) (⟨b3, g3, c3, b4, g4, c4, (List.replicate 32 0)⟩ : MP)).C j))) ?_
  refine l_take (Own 95 2 (.slice (S00 (⟨b1, g1, c1, b2, g2, c2, (List.replicate 32 0)⟩ : MP) (⟨b3, g3, c3, b4, g4, c4, (List.replicate 32 0)⟩ : MP)).la (S00 (⟨b1, g1, c1, b2, g2, c2, (List.replicate 32 0)⟩ : MP) (⟨b3, g3, c3, b4, g4, c4, (List.replicate 32 0)⟩ : MP)).N (S00 (⟨b1, g1, c1, b2, g2, c2, (List.replicate 32 0)⟩ : MP) (⟨b3, g3, c3, b4, g4, c4, (List.replicate 32 0)⟩ : MP)).lc) (S00 (⟨b1, g1, c1, b2, g2, c2, (List.replicate 32 0)⟩ : MP) (⟨b3, g3, c3, b4, g4, c4, (List.replicate 32 0)⟩ : MP)).N (rowsN (S00 (⟨b1, g1, c1, b2, g2, c2, (List.replicate 32 0)⟩ : MP) (⟨b3, g3, c3, b4, g4, c4, (List.replicate 32 0)⟩ : MP)).N (fun j => chR ((S00 (⟨b1, g1, c1, b2, g2, c2, (List.replicate 32 0)⟩ : MP) (⟨b3, g3, c3, b4, g4, c4, (List.replicate 32 0)⟩ : MP)).C j)))) ?_
  refine l_take (mpA (S00 (⟨b1, g1, c1, b2, g2, c2, (List.replicate 32 0)⟩ : MP) (⟨b3, g3, c3, b4, g4, c4, (List.replicate 32 0)⟩ : MP)).p) ?_
  refine l_take (mpA (S00 (⟨b1, g1, c1, b2, g2, c2, (List.replicate 32 0)⟩ : MP) (⟨b3, g3, c3, b4, g4, c4, (List.replicate 32 0)⟩ : MP)).m) ?_
  refine l_take (Blk b9 (.cells [Value.pointer (some ⟨(S00 (⟨b1, g1, c1, b2, g2, c2, (List.replicate 32 0)⟩ : MP) (⟨b3, g3, c3, b4, g4, c4, (List.replicate 32 0)⟩ : MP)).m.x, 0, none⟩), .pointer (some ⟨(S00 (⟨b1, g1, c1, b2, g2, c2, (List.replicate 32 0)⟩ : MP) (⟨b3, g3, c3, b4, g4, c4, (List.replicate 32 0)⟩ : MP)).m.y, 0, none⟩), .pointer (some ⟨(S00 (⟨b1, g1, c1, b2, g2, c2, (List.replicate 32 0)⟩ : MP) (⟨b3, g3, c3, b4, g4, c4, (List.replicate 32 0)⟩ : MP)).p.x, 0, none⟩), .pointer (some ⟨(S00 (⟨b1, g1, c1, b2, g2, c2, (List.replicate 32 0)⟩ : MP) (⟨b3, g3, c3, b4, g4, c4, (List.replicate 32 0)⟩ : MP)).p.y, 0, none⟩), .slice (S00 (⟨b1, g1, c1, b2, g2, c2, (List.replicate 32 0)⟩ : MP) (⟨b3, g3, c3, b4, g4, c4, (List.replicate 32 0)⟩ : MP)).la (S00 (⟨b1, g1, c1, b2, g2, c2, (List.replicate 32 0)⟩ : MP) (⟨b3, g3, c3, b4, g4, c4, (List.replicate 32 0)⟩ : MP)).N (S00 (⟨b1, g1, c1, b2, g2, c2, (List.replicate 32 0)⟩ : MP) (⟨b3, g3, c3, b4, g4, c4, (List.replicate 32 0)⟩ : MP)).lc, .slice (S00 (⟨b1, g1, c1, b2, g2, c2, (List.replicate 32 0)⟩ : MP) (⟨b3, g3, c3, b4, g4, c4, (List.replicate 32 0)⟩ : MP)).ka (S00 (⟨b1, g1, c1, b2, g2, c2, (List.replicate 32 0)⟩ : MP) (⟨b3, g3, c3, b4, g4, c4, (List.replicate 32 0)⟩ : MP)).K (S00 (⟨b1, g1, c1, b2, g2, c2, (List.replicate 32 0)⟩ : MP) (⟨b3, g3, c3, b4, g4, c4, (List.replicate 32 0)⟩ : MP)).kc, .slice none 0 0].toArray 63 (0, 0))) ?_
  refine l_call rfl Try.call19 rfl (makes_new _ _ b9 (S00 (⟨b1, g1, c1, b2, g2, c2, (List.replicate 32 0)⟩ : MP) (⟨b3, g3, c3, b4, g4, c4, (List.replicate 32 0)⟩ : MP)) (s00_ok ⟨by simp, hc1, hc2, .rep _ ⟨by decide, by decide⟩⟩ ⟨by simp, hc3, hc4, .rep _ ⟨by decide, by decide⟩⟩) (Nat.zero_le _) (Nat.zero_le _) 5 (by decide) (by decide) 0 (by decide) (by decide) 0 (by decide) (by decide) 0 (by decide) (by decide) false 0 (by decide) (by decide) (some ⟨b52, 0, none⟩) 2 [0, 2] (by decide) ⟨rfl, .inr ⟨b52, 0, rfl, RowAt.own (E := 3) (sz := 1) (cap := 2) (n := 2) (mem_getO 0 rfl)⟩⟩ (fun i => by rcases i with _ | _ | _ | i <;> simp) none 0 [] (by decide) ⟨rfl, .inl ⟨rfl, fun _ => rfl⟩⟩ (fun i => by simp) rfl) ?_; rintro _ _ ⟨S1, rfl, hS1, ⟨hN1, hK1, hm1⟩, _, rfl⟩
  have hN1 : S1.N = 1 := hN1
  have hK1 : S1.K = 0 := hK1
  refine l_assign rfl rfl ?_
  refine l_nil ?_
  refine g_seq ?_
  refine g_region ?_
  refine l_move rfl rfl ?_
  refine l_buildSlice rfl Try.underlying23 Try.sizeOf3 Try.zeroValue3 rfl rfl rfl rfl rfl rfl ?_; intro b56
  refine l_build rfl rfl (fun w => bd_53_0_6 _ _ _ _ w) ?_
  refine l_take (BigF S1.K (fun j => bkA (S1.B j))) ?_
  refine l_take (Own 111 4 (.slice S1.ka S1.K S1.kc) S1.K (rowsN S1.K (fun j => bkR (S1.B j)))) ?_
  refine l_take (BigF S1.N (fun j => chA (S1.C j))) ?_
  refine l_take (Own 95 2 (.slice S1.la S1.N S1.lc) S1.N (rowsN S1.N (fun j => chR (S1.C j)))) ?_
  refine l_take (mpA S1.p) ?_
  refine l_take (mpA S1.m) ?_
  refine l_take (Blk b9 (.cells [Value.pointer (some ⟨S1.m.x, 0, none⟩), .pointer (some ⟨S1.m.y, 0, none⟩), .pointer (some ⟨S1.p.x, 0, none⟩), .pointer (some ⟨S1.p.y, 0, none⟩), .slice S1.la S1.N S1.lc, .slice S1.ka S1.K S1.kc, .slice none 0 0].toArray 63 (0, 0))) ?_
  refine l_call rfl Try.call19 rfl (makes_new _ _ b9 S1 hS1 (by omega) (by omega) 5 (by decide) (by decide) 0 (by decide) (by decide) 0 (by decide) (by decide) 0 (by decide) (by decide) false 0 (by decide) (by decide) (some ⟨b56, 0, none⟩) 1 [2] (by decide) ⟨rfl, .inr ⟨b56, 0, rfl, RowAt.own (E := 3) (sz := 1) (cap := 1) (n := 1) (mem_getO 0 rfl)⟩⟩ (fun i => by rcases i with _ | _ | _ | i <;> simp) none 0 [] (by decide) ⟨rfl, .inl ⟨rfl, fun _ => rfl⟩⟩ (fun i => by simp) rfl) ?_; rintro _ _ ⟨S2, rfl, hS2, ⟨hN2, hK2, hm2⟩, ⟨hL2, hh2, hq2, hT2⟩, rfl⟩
  rw [hN1] at hL2 hh2 hq2 hT2 hN2
  refine l_assign rfl rfl ?_
  refine l_nil ?_
  refine g_seq ?_
  refine g_seq ?_
  refine g_region ?_
  refine l_move rfl rfl ?_
  refine l_not rfl rfl ?_
  refine l_move rfl rfl ?_
  refine l_guard_yes rfl rfl ?_
  refine l_move rfl rfl ?_
  refine l_guard_yes rfl rfl ?_
  refine l_not rfl rfl ?_
  refine l_pick_f rfl rfl rfl ?_
  refine l_nil ?_
  first | refine g_cond_f rfl ?_ | refine g_cond_f (congrArg (fun b => some (Value.bool b)) (decide_eq_false hbr)) ?_
  refine g_skip ?_
  refine g_seq ?_
  refine g_region ?_
  refine l_move rfl rfl ?_
  refine l_build rfl rfl (fun w => bd_53_0_1 _ _ w) ?_
  refine l_take (BigF S2.K (fun j => bkA (S2.B j))) ?_
  refine l_take (Own 111 4 (.slice S2.ka S2.K S2.kc) S2.K (rowsN S2.K (fun j => bkR (S2.B j)))) ?_
  refine l_take (BigF S2.N (fun j => chA (S2.C j))) ?_
  refine l_take (Own 95 2 (.slice S2.la S2.N S2.lc) S2.N (rowsN S2.N (fun j => chR (S2.C j)))) ?_
  refine l_take (mpA S2.p) ?_
  refine l_take (mpA S2.m) ?_
  refine l_take (Blk b9 (.cells [Value.pointer (some ⟨S2.m.x, 0, none⟩), .pointer (some ⟨S2.m.y, 0, none⟩), .pointer (some ⟨S2.p.x, 0, none⟩), .pointer (some ⟨S2.p.y, 0, none⟩), .slice S2.la S2.N S2.lc, .slice S2.ka S2.K S2.kc, .slice none 0 0].toArray 63 (0, 0))) ?_
  refine l_call rfl Try.call20 rfl (does_step _ _ b9 S2 hS2 (by omega) (by omega) (by omega) 6 (by decide) (by decide) 1 (by decide) (by decide) 0 (by decide) (by decide) 0 (by decide) (by decide) false 0 (by decide) (by decide) none 0 [] (by decide) ⟨rfl, .inl ⟨rfl, fun _ => rfl⟩⟩ (fun i => by rcases i with _ | _ | _ | i <;> simp) none 0 [] (by decide) ⟨rfl, .inl ⟨rfl, fun _ => rfl⟩⟩ (fun i => by simp) rfl 1 (by rw [hN2]; rfl)) ?_; rintro _ _ ⟨S3, rfl, hS3, ⟨hN3, hK3⟩, ⟨d2, e2, hG2, hL3⟩, rfl⟩
  have hmW : S2.m.W = List.replicate 32 0 := by rw [hm2, hm1] <;> rfl
  rw [hL2, hh2, hq2, hT2, hmW] at hG2
  obtain ⟨hW3, hh3, hq3, hT3⟩ := step_one hG2
  rw [hL2] at hL3
  rw [hN2] at hN3
  refine l_assign rfl rfl ?_
  refine l_nil ?_
  refine g_seq ?_
  refine g_region ?_
  refine l_move rfl rfl ?_
  refine l_build rfl rfl (fun w => bd_53_0_1 _ _ w) ?_
  refine l_take (BigF S3.K (fun j => bkA (S3.B j))) ?_
  refine l_take (Own 111 4 (.slice S3.ka S3.K S3.kc) S3.K (rowsN S3.K (fun j => bkR (S3.B j)))) ?_
  refine l_take (BigF S3.N (fun j => chA (S3.C j))) ?_
  refine l_take (Own 95 2 (.slice S3.la S3.N S3.lc) S3.N (rowsN S3.N (fun j => chR (S3.C j)))) ?_
  refine l_take (mpA S3.p) ?_
  refine l_take (mpA S3.m) ?_
  refine l_take (Blk b9 (.cells [Value.pointer (some ⟨S3.m.x, 0, none⟩), .pointer (some ⟨S3.m.y, 0, none⟩), .pointer (some ⟨S3.p.x, 0, none⟩), .pointer (some ⟨S3.p.y, 0, none⟩), .slice S3.la S3.N S3.lc, .slice S3.ka S3.K S3.kc, .slice none 0 0].toArray 63 (0, 0))) ?_
  refine l_call rfl Try.call20 rfl (does_step _ _ b9 S3 hS3 (by omega) (by omega) (by omega) 6 (by decide) (by decide) 1 (by decide) (by decide) 0 (by decide) (by decide) 0 (by decide) (by decide) false 0 (by decide) (by decide) none 0 [] (by decide) ⟨rfl, .inl ⟨rfl, fun _ => rfl⟩⟩ (fun i => by rcases i with _ | _ | _ | i <;> simp) none 0 [] (by decide) ⟨rfl, .inl ⟨rfl, fun _ => rfl⟩⟩ (fun i => by simp) rfl 1 (by rw [hN3]; rfl)) ?_; rintro _ _ ⟨S4, rfl, hS4, ⟨hN4, hK4⟩, ⟨d3, e3, hG3, hL4⟩, rfl⟩
  rw [hL3, hh3, hq3, hT3, hW3] at hG3
  have hh4 := step_two hG3
  rw [hL3] at hL4
  rw [hN3] at hN4
  refine l_assign rfl rfl ?_
  refine l_nil ?_
  refine g_seq ?_
  refine g_region ?_
  obtain ⟨gl, hgl⟩ := hS4.hla.resolve_left (by omega)
  rw [hgl]
  obtain ⟨c, hc⟩ : ∃ q, S4.C 1 = q := ⟨_, rfl⟩
  have hco := hS4.hC 1 (by omega)
  rw [hc] at hco
  refine l_move rfl rfl ?_
  refine l_nilCheck rfl rfl ?_
  refine l_fieldAddr rfl fa_63_4 rfl ?_
  refine l_ld rfl Try.isAgg57 rfl rfl ?_
  refine l_ixs rfl Try.underlying57 Try.sizeOf95 rfl rfl (by omega) (by omega) ?_
  refine l_fieldAddr rfl fa_95_0 rfl ?_
  refine l_loadc (v := .pointer (some ⟨(S4.C 1).b, 0, none⟩)) rfl Try.isAgg28 rfl (rn_cell (f := fun j => chR (S4.C j)) (k := 1) (j := 0) (by first | exact mem_getO 0 rfl | exact mem_getO 1 rfl | exact mem_getO 2 rfl | exact mem_getO 3 rfl | exact mem_getO 4 rfl | exact mem_getO 5 rfl | exact mem_getO 6 rfl | exact mem_getO 7 rfl | exact mem_getO 8 rfl | exact mem_getO 9 rfl | exact mem_getO 10 rfl | exact mem_getO 11 rfl | exact mem_getO 12 rfl | exact mem_getO 13 rfl | exact mem_getO 14 rfl | exact mem_getO 15 rfl | exact mem_getO 16 rfl | exact mem_getO 17 rfl | exact mem_getO 18 rfl | exact mem_getO 19 rfl | exact mem_getO 20 rfl | exact mem_getO 21 rfl) (chR_len S4.C S4.N) (by omega) (by decide) rfl) ?_
  rw [hc]
  refine l_take (BigF S4.N (fun j => chA (S4.C j))) ?_
  refine l_openc (i := 1) (c := c) (by omega) hc ?_
  refine l_call rfl Try.call10 rfl (chall_ok _ _ c.b c.al c.cl c.L c.h c.q c.tt c.T.length c.ct (by have := hco.len; omega) hco.ok.1 hco.ok.2.1) ?_; rintro _ _ ⟨rfl, rfl⟩
  rw [decide_eq_true (show c.h = (c.L.length : Int) by rw [← hc, hh4, hL4]; rfl)]
  refine l_assign rfl rfl ?_
  refine l_nil ?_
  refine g_seq ?_
  refine g_region ?_
  refine l_move rfl rfl ?_
  refine l_move rfl rfl ?_
  refine l_move rfl rfl ?_
  refine l_guard_yes rfl rfl ?_
  refine l_move rfl rfl ?_
  refine l_pick_t rfl rfl rfl ?_
  refine l_move rfl rfl ?_
  refine l_guard_yes rfl rfl ?_
  refine l_move rfl rfl ?_
  refine l_pick_t rfl rfl rfl ?_
  refine l_assign rfl rfl ?_
  refine l_assign rfl rfl ?_
  refine l_nil ?_
  rw [← hgl]
  refine g_take (BigBut S4.N 1 (fun j => chA (S4.C j))) ?_
  refine g_take (Own 51 1 (.slice c.tt2 c.T.length c.ct2) c.T.length (ints .u32 c.T)) ?_
  refine g_take (Own 3 1 (.slice c.al2 c.L.length c.cl2) c.L.length (ints .i64 c.L)) ?_
  refine g_take (Blk c.b2 (.cells [Value.slice c.al2 c.L.length c.cl2, .int .i64 c.h, .bool c.q, .slice c.tt2 c.T.length c.ct2].toArray 104 (0, 0))) ?_
  refine g_take (Own 51 1 (.slice c.tt c.T.length c.ct) c.T.length (ints .u32 c.T)) ?_
  refine g_take (Own 3 1 (.slice c.al c.L.length c.cl) c.L.length (ints .i64 c.L)) ?_
  refine g_take (Blk c.b (.cells [Value.slice c.al c.L.length c.cl, .int .i64 c.h, .bool c.q, .slice c.tt c.T.length c.ct].toArray 84 (0, 0))) ?_
  refine g_closec (c := c) ?_
  rw [ch_same hc]
  refine g_ret Try.func17 rfl (.tmp rfl (.tmp rfl .nil)) ?_
  exact Gives.mki ⟨b9, S4, rfl, hS4, by omega, by omega, by omega, rfl⟩
end Go.Proofs.Ythemlddepepekaa.Fw
