import Derived.Test.YtlgcghhjgcdigaaLLive
namespace Go.Proofs.Ytlgcghhjgcdigaa.Fw
open Go Go.Proofs
set_option linter.unusedVariables false
set_option linter.unusedSimpArgs false
set_option maxRecDepth 10000

theorem ir_arg2 {W : World} {kd : IntKind} {a : Option Addr} {n c : Nat} {X : List Int} (hl : X.length = n) (hx : (n = 0 ∧ (a = none → c = 0)) ∨ ∃ b o, a = some ⟨b, o, none⟩ ∧ ∀ (j : Nat) u, (ints kd X)[j]? = some u → W.cell? ⟨b, o + j, none⟩ = some u) : IR W [Old W] kd a n X := by
  refine ⟨hl, ?_⟩
  rcases hx with ⟨h, _⟩ | ⟨b, o, h, hr⟩
  · exact .inl h
  · exact .inr ⟨b, o, h, RowAt.old (by simp) hr⟩
theorem viz_wk {w : World} {r : List Value} (h : Viz Try.prog w 47 r) : ∃ o : WkV, r = wkV o ∧ WkOk o := by
  obtain ⟨hl, hf⟩ := viz_struct Try.underlying47 h
  have hc : Try.prog.cellsOf 47 = 3 := by kernel_rfl
  have c0 : Try.prog.cellsOf 4 = 1 := by kernel_rfl
  have c1 : Try.prog.cellsOf 3 = 1 := by kernel_rfl
  have c2 : Try.prog.cellsOf 30 = 1 := by kernel_rfl
  match r, hl.trans hc with
  | [z0, z1, z2], _ =>
    obtain ⟨sec, e0⟩ := vis_bool Try.underlying4 (hf 0 _ rfl).vis
    obtain ⟨wat, e1, w1⟩ := vis_int Try.underlying3 (hf 1 _ rfl).vis
    obtain ⟨wx, e2, w2⟩ := vis_int Try.underlying30 (hf 2 _ rfl).vis
    simp [c0, c1, c2] at e0 e1 e2
    subst e0 e1 e2
    exact ⟨⟨sec, wat, wx⟩, rfl, wf_i64 w1⟩
theorem live_all (W : World) (aw : Option Addr) (n1_ cw : Nat) (Y1 : List Int) (hI1 : IR W [Old W] .u32 aw n1_ Y1) (hw1 : n1_ ≤ 35184372087808) (aq : Option Addr) (n2_ cq : Nat) (Y2 : List Int) (hI2 : IR W [Old W] .u32 aq n2_ Y2) (hw2 : n2_ ≤ 35184372087808) (wa : Option Addr) (wn wc : Nat) (rows : List (List Value)) (hl : rows.length = wn) (hwn : wn ≤ 9223372036854775806) (hr : ∀ r ∈ rows, Viz Try.prog W 47 r) (hx : (wn = 0 ∧ (wa = none → wc = 0)) ∨ ∃ b o, wa = some ⟨b, o, none⟩ ∧ ∀ (j : Nat) u, rows.flatten[j]? = some u → W.cell? ⟨b, o + j, none⟩ = some u) : CallK Try.prog 5 [.slice aw n1_ cw, .slice aq n2_ cq, .slice wa wn wc] W [Old W] (Gives W fun v F2 => v = .bool true ∧ F2 = [Old W]) := by
  obtain ⟨L, hL, hLok⟩ := rows_choose (f := wkV) (R := WkOk) (rows := rows) (fun r h => viz_wk (hr r h))
  subst hL
  refine live_ok W [Old W] aw n1_ cw Y1 hI1 hw1 aq n2_ cq Y2 hI2 hw2 wa wn wc L (by simpa using hl) ?_ hLok hwn
  rcases hx with ⟨h, _⟩ | ⟨b, o, h, hr⟩
  · exact .inl h
  · exact .inr ⟨b, o, h, RowAt.old (by simp) hr⟩
end Go.Proofs.Ytlgcghhjgcdigaa.Fw
