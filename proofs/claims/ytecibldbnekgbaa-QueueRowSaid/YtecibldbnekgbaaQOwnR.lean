import Derived.Test.YtecibldbnekgbaaQOwn
namespace Go.Proofs.Ytecibldbnekgbaa.Fw
open Go Go.Proofs
set_option linter.unusedVariables false
set_option linter.unusedSimpArgs false
set_option maxRecDepth 10000

theorem own_bad (w0 : World) (F : List Atom) (fr fm : Int) (wa : Option Addr) (wn wc : Nat) (oa : Option Addr) (on oc : Nat) (h : ¬ (1 ≤ fr ∧ fr ≤ 16 ∧ on ≤ 200)) :
    CallK Try.prog 6 [.agg [Value.int .i64 (fr : Int), .int .i64 fm, .slice wa wn wc, .slice oa on oc].toArray] w0 (F) (Gives w0 fun v F2 => v = .bool true ∧ F2 = F) := by
  refine c_enter Try.func6 rfl rfl rfl ?_
  refine g_seq ?_
  refine g_region ?_
  refine l_boxs rfl rfl ?_; intro b1
  refine l_assign rfl rfl ?_
  refine l_nil ?_
  refine g_seq ?_
  refine g_seq ?_
  refine g_region ?_
  refine l_lds rfl Try.isAgg48 Try.sizeOf48 rfl rfl ?_
  refine l_call rfl Try.call16 rfl (fit_bad _ _ _ _ _ _ _ _ _ _ h) ?_; rintro _ _ ⟨rfl, rfl⟩
  refine l_not rfl rfl ?_
  refine l_nil ?_
  refine g_cond_t rfl ?_
  refine g_seq ?_
  refine g_region ?_
  refine l_assign rfl rfl ?_
  refine l_nil ?_
  refine g_ret Try.func6 rfl (.tmp rfl .nil) ?_
  exact Gives.mki ⟨rfl, rfl⟩
theorem ir_old {W : World} {kd : IntKind} {a : Option Addr} {n c : Nat} {X : List Int} (hl : X.length = n) (hx : (n = 0 ∧ (a = none → c = 0)) ∨ ∃ b o, a = some ⟨b, o, none⟩ ∧ ∀ (j : Nat) u, (ints kd X)[j]? = some u → W.cell? ⟨b, o + j, none⟩ = some u) : IR W [Old W] kd a n X := by
  refine ⟨hl, ?_⟩
  rcases hx with ⟨h, _⟩ | ⟨b, o, h, hr⟩
  · exact .inl h
  · exact .inr ⟨b, o, h, RowAt.old (by simp) hr⟩
theorem W32s.of {l : List Int} (h : ∀ x ∈ l, 0 ≤ x ∧ x ≤ 4294967295) : W32s l := by
  intro i
  rcases Nat.lt_or_ge i l.length with h2 | h2
  · have e : l.getD i 0 = l[i] := by simp [h2]
    rw [e]; exact h _ (List.getElem_mem _)
  · rw [getD_over h2]; decide
theorem viz_op {w : World} {r : List Value} (h : Viz Try.prog w 54 r) : ∃ o : OpV, r = opV o ∧ OpOk w [Old w] o := by
  obtain ⟨hl, hf⟩ := viz_struct Try.underlying54 h
  have hc : Try.prog.cellsOf 54 = 6 := by kernel_rfl
  have c0 : Try.prog.cellsOf 3 = 1 := by kernel_rfl
  have c1 : Try.prog.cellsOf 52 = 1 := by kernel_rfl
  have c2 : Try.prog.cellsOf 29 = 1 := by kernel_rfl
  match r, hl.trans hc with
  | [z0, z1, z2, z3, z4, z5], _ =>
    obtain ⟨kd, e0, _⟩ := vis_int Try.underlying3 (hf 0 _ rfl).vis
    obtain ⟨at_, e1, w1⟩ := vis_int Try.underlying3 (hf 1 _ rfl).vis
    obtain ⟨wd, e2, w2⟩ := vis_int Try.underlying3 (hf 2 _ rfl).vis
    obtain ⟨dp, e3, w3⟩ := vis_int Try.underlying3 (hf 3 _ rfl).vis
    obtain ⟨ap, np, cp, P, e4, p1, p2, p3, p4, p5, p6⟩ := viz_ints (by_ := 8) Try.underlying52 Try.underlying3 (by kernel_rfl) (by kernel_rfl) (hf 4 _ rfl)
    obtain ⟨am, nm, cm, M, e5, m1, m2, m3, m4, m5, m6⟩ := viz_ints (by_ := 4) Try.underlying29 Try.underlying33 (by kernel_rfl) (by kernel_rfl) (hf 5 _ rfl)
    simp [c0, c1, c2] at e0 e1 e2 e3 e4 e5
    subst e0 e1 e2 e3 e4 e5
    refine ⟨⟨kd, at_, wd, dp, ap, np, cp, P, am, nm, cm, M⟩, rfl, wf_i64 w1, wf_i64 w2, wf_i64 w3, ⟨ir_old m4 m6, W32s.of fun x hx => wf_u32 (m5 x hx), by simp only; omega⟩, ir_old p4 p6, fun i => ?_, by simp only; omega, p1⟩
    simp only
    rcases Nat.lt_or_ge i P.length with h | h
    · have e : P.getD i 0 = P[i] := by simp [h]
      rw [e]; exact wf_i64 (p5 _ (List.getElem_mem _))
    · rw [getD_over h]; decide
def CaseOk (w : World) (fm : Int) (wa : Option Addr) (wn : Nat) (Wd : List Int) (oa : Option Addr) (on : Nat) (L : List OpV) : Prop := (-9223372036854775808 ≤ fm ∧ fm ≤ 9223372036854775807) ∧ IR w [Old w] .u32 wa wn Wd ∧ W32s Wd ∧ wn ≤ 9223372036854775807 ∧ on ≤ 9223372036854775807 ∧ L.length = on ∧ (on = 0 ∨ ∃ b o, oa = some ⟨b, o, none⟩ ∧ RowAt w [Old w] b o (L.map opV).flatten) ∧ ∀ o ∈ L, OpOk w [Old w] o
theorem viz_case {w : World} {r : List Value} (h : Viz Try.prog w 48 r) : ∃ fr fm wa wn wc Wd oa on oc L, r = [Value.int .i64 fr, .int .i64 fm, .slice wa wn wc, .slice oa on oc] ∧ CaseOk w fm wa wn Wd oa on L := by
  obtain ⟨hl, hf⟩ := viz_struct Try.underlying48 h
  have hc : Try.prog.cellsOf 48 = 4 := by kernel_rfl
  have c0 : Try.prog.cellsOf 3 = 1 := by kernel_rfl
  have c1 : Try.prog.cellsOf 29 = 1 := by kernel_rfl
  have c2 : Try.prog.cellsOf 46 = 1 := by kernel_rfl
  match r, hl.trans hc with
  | [z0, z1, z2, z3], _ =>
    obtain ⟨fr, e0, _⟩ := vis_int Try.underlying3 (hf 0 _ rfl).vis
    obtain ⟨fm, e1, w1⟩ := vis_int Try.underlying3 (hf 1 _ rfl).vis
    obtain ⟨wa, wn, wc, Wd, e2, m1, m2, m3, m4, m5, m6⟩ := viz_ints (by_ := 4) Try.underlying29 Try.underlying33 (by kernel_rfl) (by kernel_rfl) (hf 2 _ rfl)
    obtain ⟨oa, on, oc, rows, e3, o1, o2, o3, o4, o5, o6⟩ := viz_slice (sz := 6) (by_ := 80) Try.underlying46 (by kernel_rfl) (by kernel_rfl) (by decide) (hf 3 _ rfl)
    simp [c0, c1, c2] at e0 e1 e2 e3
    subst e0 e1 e2 e3
    obtain ⟨L, hL, hLok⟩ := rows_choose (f := opV) (R := OpOk w [Old w]) (rows := rows) (fun r hr => viz_op (o5 r hr).2)
    subst hL
    simp only [maxLen] at m2 o2
    refine ⟨fr, fm, wa, wn, wc, Wd, oa, on, oc, L, rfl, wf_i64 w1, ir_old m4 m6, W32s.of fun x hx => wf_u32 (m5 x hx), by omega, by omega, by simpa using o4, ?_, hLok⟩
    rcases o6 with ⟨h, _⟩ | ⟨b, o, h, hr⟩
    · exact .inl h
    · exact .inr ⟨b, o, h, RowAt.old (by simp) hr⟩
theorem own_all (W : World) (l : List Value) (hv : Viz Try.prog W 48 l) : CallK Try.prog 6 [.agg l.toArray] W [Old W] (Gives W fun v F2 => v = .bool true ∧ F2 = [Old W]) := by
  obtain ⟨fr, fm, wa, wn, wc, Wd, oa, on, oc, L, rfl, h1, h2, h3, h4, h5, h6, h7, h8⟩ := viz_case hv
  by_cases h : 1 ≤ fr ∧ fr ≤ 16 ∧ on ≤ 200
  · exact own_ok W [Old W] fr fm h1.1 h1.2 wa wn wc Wd h2 h3 h4 oa on oc h5 L h6 h7 h8 h
  · exact own_bad W [Old W] fr fm wa wn wc oa on oc h
end Go.Proofs.Ytecibldbnekgbaa.Fw
