import Derived.Test.YthngpcaljljlaaaRefI
namespace Go.Proofs.Ythngpcaljljlaaa.Fw
open Go Go.Proofs
set_option linter.unusedVariables false
set_option linter.unusedSimpArgs false
set_option maxRecDepth 10000

structure OpV where
  kd : Int
  at_ : Int
  wd : Int
  am : Option Addr
  nm : Nat
  cm : Nat
  M : List Int
  ap : Option Addr
  np : Nat
  cp : Nat
  P : List Int
  x : Int
  nl : Bool
def opV (o : OpV) : List Value := [.int .i64 o.kd, .int .i64 o.at_, .int .i64 o.wd, .slice o.am o.nm o.cm, .slice o.ap o.np o.cp, .int .u32 o.x, .bool o.nl]
theorem opV_len (L : List OpV) : ∀ r ∈ L.map opV, r.length = 7 := by
  intro r hr
  obtain ⟨o, _, rfl⟩ := List.mem_map.1 hr
  rfl
def OpOk (w0 : World) (F : List Atom) (o : OpV) : Prop :=
  (-9223372036854775808 ≤ o.at_ ∧ o.at_ ≤ 9223372036854775807) ∧ (-9223372036854775808 ≤ o.wd ∧ o.wd ≤ 9223372036854775807) ∧ (0 ≤ o.x ∧ o.x ≤ 4294967295) ∧ (IR w0 F .u32 o.am o.nm o.M ∧ W32s o.M ∧ o.nm ≤ 9223372036854775807) ∧
  IR w0 F .i64 o.ap o.np o.P ∧ (∀ i, -9223372036854775808 ≤ o.P.getD i 0 ∧ o.P.getD i 0 ≤ 9223372036854775807) ∧ o.np ≤ 9223372036854775807 ∧ o.np ≤ o.cp
theorem op_at {w0 : World} {F : List Atom} {L : List OpV} (hok : ∀ o ∈ L, OpOk w0 F o) {i : Nat} (h : i < L.length) : ∃ o, (L.map opV)[i]? = some (opV o) ∧ OpOk w0 F o := ⟨L[i], by simp [h], hok _ (List.getElem_mem _)⟩

set_option maxHeartbeats 4000000 in
theorem runs_ok (w0 : World) (F : List Atom) (a0 : Option Addr) (n0 c0 : Nat) (B : List Int) (hB : IR w0 F .u32 a0 n0 B) (hBU : W32s B) (hn0 : n0 ≤ 9223372036854775807) (sa0 : Option Addr) (ns nc : Nat) (L : List OpV) (hLl : L.length = ns) (hns : ns ≤ 9223372036854775807) (hs : ns = 0 ∨ ∃ b o, sa0 = some ⟨b, o, none⟩ ∧ RowAt w0 F b o (L.map opV).flatten) (hok : ∀ o ∈ L, OpOk w0 F o) :
    CallK Try.prog 6 [.slice a0 n0 c0, .slice sa0 ns nc] w0 (F) (Gives w0 fun v F2 => v = .bool true ∧ F2 = F) := by
  refine c_enter Try.func6 rfl rfl rfl ?_
  refine g_seq ?_
  refine g_region ?_
  refine l_assign rfl rfl ?_
  refine l_nil ?_
  refine g_seq ?_
  refine g_region ?_
  refine l_move rfl rfl ?_
  refine l_call rfl Try.call23 rfl (begun_ok _ _ a0 n0 c0 B hB.ex hBU (by omega)) ?_; rintro _ _ ⟨gw, rfl, rfl⟩
  refine l_call rfl Try.call22 rfl (of_ok _ _ gw 0 80 80 (begV B) (begV_len B) (by omega) (.own (mem_getO 0 rfl)) (by omega) (by omega) (by omega)) ?_; rintro _ _ ⟨b, g, c, rfl, hc, rfl⟩
  refine l_move rfl rfl ?_
  refine l_extract rfl rfl rfl ?_
  refine l_extract rfl rfl rfl ?_
  refine l_assign rfl rfl ?_
  refine l_assign rfl rfl ?_
  refine l_nil ?_
  refine g_seq ?_
  refine g_seq ?_
  refine g_region ?_
  refine l_move rfl rfl ?_
  refine l_neq rfl rfl rfl ?_
  refine l_nil ?_
  refine g_cond rfl ?_ ?_
  · intro hbr
    have hbr := of_decide_eq_true hbr
    (exfalso; omega)
  intro hbr
  have hbr := of_decide_eq_false hbr
  refine g_skip ?_
  refine g_seq ?_
  refine g_region ?_
  refine l_move rfl rfl ?_
  refine l_call rfl Try.call23 rfl (begun_ok _ _ a0 n0 c0 B hB.ex hBU (by omega)) ?_; rintro _ _ ⟨gw, rfl, rfl⟩
  refine l_call rfl Try.call24 rfl (rof_ok _ _ gw 0 80 80 (begV B) (begV_len B) (by omega) (.own (mem_getO 0 rfl)) (by omega) (by omega) (by omega)) ?_; rintro _ _ ⟨b2, g2, c2, rfl, hc2, rfl⟩
  refine l_move rfl rfl ?_
  refine l_extract rfl rfl rfl ?_
  refine l_extract rfl rfl rfl ?_
  refine l_assign rfl rfl ?_
  refine l_assign rfl rfl ?_
  refine l_nil ?_
  refine g_seq ?_
  refine g_seq ?_
  refine g_region ?_
  refine l_move rfl rfl ?_
  refine l_len rfl Try.underlying48 rfl ?_
  refine l_move rfl rfl ?_
  refine l_nil ?_
  refine g_block ?_
  refine g_loopk (X := Int × List Int) [(1, _), (5, _), (7, _), (26, _)] (.cons rfl (.cons rfl (.cons rfl (.cons rfl (.nil))))) (fun z => 0 ≤ z.1 ∧ z.1 ≤ ns ∧ z.2.length = 80 ∧ W32s z.2) (fun z => (ns - z.1).toNat) (fun z => [(27, .int .i64 z.1)]) (fun z => Blk b (.cells [Value.slice (some ⟨g, 0, none⟩) 80 c].toArray 63 (0, 0)) :: Own 28 1 (.slice (some ⟨g, 0, none⟩) 80 c) 80 (ints .u32 z.2) :: Blk b2 (.cells [Value.slice (some ⟨g2, 0, none⟩) 80 c2].toArray 58 (0, 0)) :: Own 28 1 (.slice (some ⟨g2, 0, none⟩) 80 c2) 80 (ints .u32 z.2) :: F) ((0, begV B)) (⟨by simp only; omega, by simp only; omega, begV_len B, begV_u hBU⟩) (.cons rfl .nil) (fun w hw => SPI.holds hw) ?_
  rintro ⟨i, W⟩ ⟨i0, i1, hWl, hWU⟩ ih
  dsimp only [List.cons_append, List.nil_append] at ih ⊢
  simp only at i0 i1 hWl hWU
  refine g_seq ?_
  refine g_region ?_
  refine l_lss rfl rfl rfl ?_
  refine l_nil ?_
  refine g_seq ?_
  refine g_cond rfl ?_ ?_
  · intro hbr
    have hbr := of_decide_eq_true hbr
    refine g_skip ?_
    refine g_seq ?_
    refine g_block ?_
    refine g_seq ?_
    refine g_region ?_
    refine l_move rfl rfl ?_
    refine l_assign rfl rfl ?_
    refine l_nil ?_
    refine g_seq ?_
    refine g_seq ?_
    refine g_region ?_
    refine l_move rfl rfl ?_
    refine l_move rfl rfl ?_
    refine l_move rfl rfl ?_
    refine l_move rfl rfl ?_
    obtain ⟨b1, q1, rfl, hr1⟩ := hs.resolve_left (show ¬ ns = 0 by omega)
    obtain ⟨⟨kd, at_, wd, am, nm, cm, M, ap, np, cp, P, x, nl⟩, hrow, o1, o2, o3, o4, o5, o6, o7, o8⟩ := op_at hok (show i.toNat < L.length by omega)
    simp only at o1 o2 o3 o4 o5 o6 o7 o8
    refine l_ixs rfl Try.underlying48 Try.sizeOf55 rfl rfl (by omega) (by omega) ?_
    refine l_loadr (l := opV ⟨kd, at_, wd, am, nm, cm, M, ap, np, cp, P, x, nl⟩) rfl Try.isAgg55 Try.sizeOf55 rfl rfl (row_elem hr1.ex (opV_len L) hrow) ?_
    refine l_call rfl Try.call25 rfl (one_any _ _ b g 80 c b2 g2 c2 W hWl hc hc2 (by omega) hWU (by omega) kd at_ o1.1 o1.2 wd o2.1 o2.2 x o3.1 o3.2 nl am nm cm M o4.1 o4.2.1 o4.2.2 ap np cp P o5 o6 o7 o8) ?_; rintro _ _ ⟨rfl, W2, rfl, hone⟩
    obtain ⟨hWl2, hWU2, _⟩ := hone
    refine l_not rfl rfl ?_
    refine l_nil ?_
    refine g_cond_f rfl ?_
    refine g_skip ?_
    refine g_seq ?_
    refine g_region ?_
    refine l_move rfl rfl ?_
    refine l_fronto g ?_
    refine l_frontb b ?_
    refine l_call rfl Try.call26 rfl (words_ok _ _ b g 80 c W2 hWl2 hc (by omega)) ?_; rintro _ _ ⟨gq, cq, rfl, hcq, rfl⟩
    refine l_assign rfl rfl ?_
    refine l_nil ?_
    refine g_seq ?_
    refine g_region ?_
    refine l_move rfl rfl ?_
    refine l_move rfl rfl ?_
    refine l_nilCheck rfl rfl ?_
    refine l_fieldAddr rfl fa_58_0 rfl ?_
    refine l_ld rfl Try.isAgg29 rfl rfl ?_
    refine l_call rfl Try.call19 rfl (same_words _ _ (some ⟨gq, 0, none⟩) (some ⟨g2, 0, none⟩) 80 cq c2 W2 (IR.own hWl2 (mem_getO 0 rfl) (.inr ⟨_, rfl⟩)) (IR.own hWl2 (by first | exact mem_getO 0 rfl | exact mem_getO 1 rfl | exact mem_getO 2 rfl | exact mem_getO 3 rfl | exact mem_getO 4 rfl | exact mem_getO 5 rfl | exact mem_getO 6 rfl) (.inr ⟨_, rfl⟩)) hWU2 (by omega)) ?_; rintro _ F9 ⟨rfl, hF9⟩; rw [hF9]; clear hF9 F9
    refine l_not rfl rfl ?_
    refine l_nil ?_
    refine g_cond_f rfl ?_
    refine g_skip ?_
    refine g_inBlock ?_
    refine g_region ?_
    first | refine l_add rfl rfl rfl (w_i64 (by omega) (by omega)) ?_ | refine l_addw rfl rfl rfl ?_
    refine l_move rfl rfl ?_
    refine l_nil ?_
    exact g_againi (ih (i + 1, W2) ⟨by simp only; omega, by simp only; omega, hWl2, hWU2⟩ (by simp only; omega)) (.cons rfl (.cons rfl (.cons rfl (.cons rfl (.cons rfl (.nil))))))
  intro hbr
  have hbr := of_decide_eq_false hbr
  refine g_exit rfl ?_
  refine g_seq ?_
  refine g_region ?_
  refine l_assign rfl rfl ?_
  refine l_nil ?_
  refine g_ret Try.func6 rfl (.tmp rfl .nil) ?_
  exact Gives.mki ⟨rfl, rfl⟩
theorem vis_s55 {w : World} {r : List Value} (h : Vis Try.prog w 55 r) : ∃ (x0 : Int) (x1 : Int) (x2 : Int) (x3 : Option Addr) (n3 c3 : Nat) (X3 : List Int) (x4 : Option Addr) (n4 c4 : Nat) (X4 : List Int) (x5 : Int) (x6 : Bool), r = [.int .i64 x0, .int .i64 x1, .int .i64 x2, .slice x3 n3 c3, .slice x4 n4 c4, .int .u32 x5, .bool x6] ∧ (Lit.int .i64 x0).wf = true ∧ (Lit.int .i64 x1).wf = true ∧ (Lit.int .i64 x2).wf = true ∧ (n3 ≤ c3 ∧ c3 ≤ maxLen ∧ X3.length = n3 ∧ (∀ x ∈ X3, (Lit.int .u32 x).wf = true) ∧ ((n3 = 0 ∧ (x3 = none → c3 = 0)) ∨ ∃ b o, x3 = some ⟨b, o, none⟩ ∧ ∀ (j : Nat) u, (ints .u32 X3)[j]? = some u → w.cell? ⟨b, o + j, none⟩ = some u)) ∧ (n4 ≤ c4 ∧ c4 ≤ maxLen ∧ X4.length = n4 ∧ (∀ x ∈ X4, (Lit.int .i64 x).wf = true) ∧ ((n4 = 0 ∧ (x4 = none → c4 = 0)) ∨ ∃ b o, x4 = some ⟨b, o, none⟩ ∧ ∀ (j : Nat) u, (ints .i64 X4)[j]? = some u → w.cell? ⟨b, o + j, none⟩ = some u)) ∧ (Lit.int .u32 x5).wf = true ∧ True := by
  obtain ⟨hl, hf⟩ := vis_struct Try.underlying55 h
  have hc : Try.prog.cellsOf 55 = 7 := by kernel_rfl
  have cc28 : Try.prog.cellsOf 28 = 1 := by kernel_rfl
  have cc29 : Try.prog.cellsOf 29 = 1 := by kernel_rfl
  have cc3 : Try.prog.cellsOf 3 = 1 := by kernel_rfl
  have cc34 : Try.prog.cellsOf 34 = 1 := by kernel_rfl
  have cc4 : Try.prog.cellsOf 4 = 1 := by kernel_rfl
  match r, hl.trans hc with
  | [z0, z1, z2, z3, z4, z5, z6], _ =>
    obtain ⟨x0, e0, w0⟩ := vis_int Try.underlying3 (hf 0 _ rfl)
    obtain ⟨x1, e1, w1⟩ := vis_int Try.underlying3 (hf 1 _ rfl)
    obtain ⟨x2, e2, w2⟩ := vis_int Try.underlying3 (hf 2 _ rfl)
    obtain ⟨x3, n3, c3, X3, e3, w3⟩ := vis_ints Try.underlying29 Try.underlying28 (by kernel_rfl) (hf 3 _ rfl)
    obtain ⟨x4, n4, c4, X4, e4, w4⟩ := vis_ints Try.underlying34 Try.underlying3 (by kernel_rfl) (hf 4 _ rfl)
    obtain ⟨x5, e5, w5⟩ := vis_int Try.underlying28 (hf 5 _ rfl)
    obtain ⟨x6, e6⟩ := vis_bool Try.underlying4 (hf 6 _ rfl)
    have w6 := trivial
    simp [cc28, cc29, cc3, cc34, cc4] at e0 e1 e2 e3 e4 e5 e6
    subst e0 e1 e2 e3 e4 e5 e6
    exact ⟨x0, x1, x2, x3, n3, c3, X3, x4, n4, c4, X4, x5, x6, rfl, w0, w1, w2, w3, w4, w5, w6⟩
theorem vis_op {w : World} {r : List Value} (h : Vis Try.prog w 55 r) : ∃ o : OpV, r = opV o ∧ OpOk w [Old w] o := by
  obtain ⟨kd, at_, wd, am, nm, cm, M, ap, np, cp, P, x, nl, rfl, _, h1, h2, hm9, hp9, h3, _⟩ := vis_s55 h
  obtain ⟨m1, m2, m3, m4, m5⟩ := hm9
  obtain ⟨p1, p2, p3, p4, p5⟩ := hp9
  simp only [maxLen] at m2 p2
  refine ⟨⟨kd, at_, wd, am, nm, cm, M, ap, np, cp, P, x, nl⟩, rfl, wf_i64 h1, wf_i64 h2, wf_u32 h3, ⟨⟨m3, ?_⟩, W32s.of fun x hx => wf_u32 (m4 x hx), by simp only; omega⟩, ⟨p3, ?_⟩, ?_, by simp only; omega, p1⟩
  · rcases m5 with ⟨h, _⟩ | ⟨b, o, h, hr⟩
    · exact .inl h
    · exact .inr ⟨b, o, h, RowAt.old (by simp) hr⟩
  · rcases p5 with ⟨h, _⟩ | ⟨b, o, h, hr⟩
    · exact .inl h
    · exact .inr ⟨b, o, h, RowAt.old (by simp) hr⟩
  · intro i
    simp only
    rcases Nat.lt_or_ge i P.length with h | h
    · have e : P.getD i 0 = P[i] := by simp [h]
      rw [e]; exact wf_i64 (p4 _ (List.getElem_mem _))
    · have e : P.getD i 0 = 0 := by simp [List.getD_eq_getElem?_getD, h]
      rw [e]; decide
theorem ir_old {W : World} {kd : IntKind} {a : Option Addr} {n c : Nat} {X : List Int} (hl : X.length = n) (hx : (n = 0 ∧ (a = none → c = 0)) ∨ ∃ b o, a = some ⟨b, o, none⟩ ∧ ∀ (j : Nat) u, (ints kd X)[j]? = some u → W.cell? ⟨b, o + j, none⟩ = some u) : IR W [Old W] kd a n X := by
  refine ⟨hl, ?_⟩
  rcases hx with ⟨h, _⟩ | ⟨b, o, h, hr⟩
  · exact .inl h
  · exact .inr ⟨b, o, h, RowAt.old (by simp) hr⟩
theorem runs_all (W : World) (a0 : Option Addr) (n0 c0 : Nat) (X0 : List Int) (hc0 : n0 ≤ c0) (hm0 : c0 ≤ maxLen) (hl0 : X0.length = n0) (hwf0 : ∀ x ∈ X0, (Lit.int .u32 x).wf = true) (hx0 : (n0 = 0 ∧ (a0 = none → c0 = 0)) ∨ ∃ b o, a0 = some ⟨b, o, none⟩ ∧ ∀ (j : Nat) u, (ints .u32 X0)[j]? = some u → W.cell? ⟨b, o + j, none⟩ = some u)
    (a1 : Option Addr) (n1 c1 : Nat) (rows : List (List Value)) (hc1 : n1 ≤ c1) (hm1 : c1 ≤ maxLen) (hl1 : rows.length = n1) (hv1 : ∀ r ∈ rows, r.length = 7 ∧ Vis Try.prog W 55 r)
    (hr1 : (n1 = 0 ∧ (a1 = none → c1 = 0)) ∨ ∃ b o, a1 = some ⟨b, o, none⟩ ∧ ∀ (j : Nat) u, rows.flatten[j]? = some u → W.cell? ⟨b, o + j, none⟩ = some u) :
    CallK Try.prog 6 [.slice a0 n0 c0, .slice a1 n1 c1] W [Old W] (Gives W fun v F2 => v = .bool true ∧ F2 = [Old W]) := by
  simp only [maxLen] at hm0 hm1
  obtain ⟨L, hL, hLok⟩ := rows_choose (f := opV) (R := OpOk W [Old W]) (rows := rows) (fun r hr => vis_op (hv1 r hr).2)
  subst hL
  have hlen : L.length = n1 := by simpa using hl1
  refine runs_ok W [Old W] a0 n0 c0 X0 (ir_old hl0 hx0) (W32s.of fun x h => wf_u32 (hwf0 x h)) (by omega) a1 n1 c1 L hlen (by omega) ?_ hLok
  rcases hr1 with ⟨h, _⟩ | ⟨b, o, h, hr⟩
  · exact .inl h
  · exact .inr ⟨b, o, h, RowAt.old (by simp) hr⟩
end Go.Proofs.Ythngpcaljljlaaa.Fw
