import Derived.Test.YtfccfjgnoeocnaaVast
namespace Go.Proofs.Ytfccfjgnoeocnaa.Fw
open Go Go.Proofs
set_option linter.unusedVariables false
set_option linter.unusedSimpArgs false
set_option maxRecDepth 10000

theorem vis_s40 {w : World} {r : List Value} (h : Vis Try.prog w 40 r) : ∃ (x0 : Int) (x1 : Int) (x2 : Int), r = [.int .i64 x0, .int .i64 x1, .int .i64 x2] ∧ (Lit.int .i64 x0).wf = true ∧ (Lit.int .i64 x1).wf = true ∧ (Lit.int .i64 x2).wf = true := by
  obtain ⟨hl, hf⟩ := vis_struct Try.underlying40 h
  have hc : Try.prog.cellsOf 40 = 3 := by kernel_rfl
  have cc3 : Try.prog.cellsOf 3 = 1 := by kernel_rfl
  match r, hl.trans hc with
  | [z0, z1, z2], _ =>
    obtain ⟨x0, e0, w0⟩ := vis_int Try.underlying3 (hf 0 _ rfl)
    obtain ⟨x1, e1, w1⟩ := vis_int Try.underlying3 (hf 1 _ rfl)
    obtain ⟨x2, e2, w2⟩ := vis_int Try.underlying3 (hf 2 _ rfl)
    simp [cc3] at e0 e1 e2
    subst e0 e1 e2
    exact ⟨x0, x1, x2, rfl, w0, w1, w2⟩
theorem vis_core {w : World} {r : List Value} (h : Vis Try.prog w 38 r) : ∃ K : CoreR, r = [coreV K] ∧ CoreOk w [Old w] K := by
  obtain ⟨a, n, c, rows, h1, h2, h3, h4, h5, h6⟩ := vis_slice (sz := 3) Try.underlying38 (by kernel_rfl) (by decide) h
  obtain ⟨L, hL, hI⟩ := rows_choose (f := winRow) (R := fun x : Win => I64 x.1 ∧ I64 x.2.1 ∧ I64 x.2.2) (rows := rows) (fun r hr => by
    obtain ⟨x, y, z, rfl, w0, w1, w2⟩ := vis_s40 (h5 r hr).2
    exact ⟨(x, y, z), rfl, wf_i64 w0, wf_i64 w1, wf_i64 w2⟩)
  subst hL
  have hl : L.length = n := by simpa using h4
  simp only [maxLen] at h3
  refine ⟨⟨a, n, c, L⟩, h1, ⟨hl, fun i hi => ?_, ?_⟩, by simp only; omega⟩
  · have : wat L i = L[i] := by simp [wat, hl, hi]
    rw [this]
    exact hI _ (List.getElem_mem _)
  · rcases h6 with ⟨h, _⟩ | ⟨b, o, rfl, hr⟩
    · exact .inl h
    · exact .inr ⟨b, o, rfl, RowAt.old (by simp) hr⟩
theorem vis_part {w : World} {r : List Value} (h : Vis Try.prog w 69 r) : ∃ x0 x1 x2 x3 x4 x5 a6 n6 c6 a7 n7 c7, r = [x0, x1, x2, x3, x4, x5, .slice a6 n6 c6, .slice a7 n7 c7] := by
  obtain ⟨hl, hf⟩ := vis_struct Try.underlying69 h
  have hc : Try.prog.cellsOf 69 = 8 := by kernel_rfl
  have c1 : Try.prog.cellsOf 66 = 1 := by kernel_rfl
  have c2 : Try.prog.cellsOf 67 = 1 := by kernel_rfl
  match r, hl.trans hc with
  | [z0, z1, z2, z3, z4, z5, z6, z7], _ =>
    obtain ⟨a6, n6, c6, _, e6, _⟩ := vis_slice (sz := 4) Try.underlying66 (by kernel_rfl) (by decide) (hf 6 _ rfl)
    obtain ⟨a7, n7, c7, _, e7, _⟩ := vis_slice (sz := 2) Try.underlying67 (by kernel_rfl) (by decide) (hf 7 _ rfl)
    simp [c1, c2] at e6 e7
    subst e6 e7
    exact ⟨z0, z1, z2, z3, z4, z5, a6, n6, c6, a7, n7, c7, rfl⟩
theorem vis_cfg {w : World} {r : List Value} (h : Vis Try.prog w 27 r) : ∃ fr mj kr rm ca cn cc pa pn pc ha hn hc Ks rows, r = [.int .i64 fr, .int .i64 mj, .int .i64 kr, .int .i64 rm, .slice ca cn cc, .slice pa pn pc, .slice ha hn hc] ∧ I64 mj ∧ CR w [Old w] ca cn Ks ∧ cn ≤ 9223372036854775807 ∧ pn ≤ 9223372036854775807 ∧ PR w [Old w] pa pn rows := by
  obtain ⟨hl, hf⟩ := vis_struct Try.underlying27 h
  have hc : Try.prog.cellsOf 27 = 7 := by kernel_rfl
  have c0 : Try.prog.cellsOf 3 = 1 := by kernel_rfl
  have c1 : Try.prog.cellsOf 23 = 1 := by kernel_rfl
  have c2 : Try.prog.cellsOf 24 = 1 := by kernel_rfl
  have c3 : Try.prog.cellsOf 25 = 1 := by kernel_rfl
  match r, hl.trans hc with
  | [z0, z1, z2, z3, z4, z5, z6], _ =>
    obtain ⟨fr, e0, _⟩ := vis_int Try.underlying3 (hf 0 _ rfl)
    obtain ⟨mj, e1, w1⟩ := vis_int Try.underlying3 (hf 1 _ rfl)
    obtain ⟨kr, e2, _⟩ := vis_int Try.underlying3 (hf 2 _ rfl)
    obtain ⟨rm, e3, _⟩ := vis_int Try.underlying3 (hf 3 _ rfl)
    obtain ⟨ca, cn, cc, crows, e4, _, hc4, hl4, hr4, hx4⟩ := vis_slice (sz := 1) Try.underlying23 (by kernel_rfl) (by decide) (hf 4 _ rfl)
    obtain ⟨pa, pn, pc, prows, e5, hp5, hc5, hl5, hr5, hx5⟩ := vis_slice (sz := 8) Try.underlying24 (by kernel_rfl) (by decide) (hf 5 _ rfl)
    obtain ⟨ha, hn, hcc, _, e6, _⟩ := vis_slice (sz := 3) Try.underlying25 (by kernel_rfl) (by decide) (hf 6 _ rfl)
    simp [c0, c1, c2, c3] at e0 e1 e2 e3 e4 e5 e6
    subst e0 e1 e2 e3 e4 e5 e6
    obtain ⟨Ks, hKs, hok⟩ := rows_choose (f := fun K => [coreV K]) (R := CoreOk w [Old w]) (rows := crows) (fun r hr => vis_core (hr4 r hr).2)
    subst hKs
    have hlen : Ks.length = cn := by simpa using hl4
    have hflat : (Ks.map fun K => [coreV K]).flatten = Ks.map coreV := by
      clear hok hlen hl4 hr4 hx4
      induction Ks with
      | nil => rfl
      | cons K Ks ih => simp only [List.map_cons, List.flatten_cons, ih]; rfl
    rw [hflat] at hx4
    simp only [maxLen] at hc4 hc5
    refine ⟨fr, mj, kr, rm, ca, cn, cc, pa, pn, pc, ha, hn, hcc, Ks, prows, rfl, wf_i64 w1, ⟨hlen, fun i hi => ?_, ?_⟩, by omega, by omega, ⟨hl5, fun r hr => vis_part (hr5 r hr).2, ?_⟩⟩
    · have : kat Ks i = Ks[i] := by simp [kat, hlen, hi]
      rw [this]
      exact hok _ (List.getElem_mem _)
    · rcases hx4 with ⟨h, _⟩ | ⟨b, o, rfl, hr⟩
      · exact .inl h
      · exact .inr ⟨b, o, rfl, RowAt.old (by simp) hr⟩
    · rcases hx5 with ⟨h, _⟩ | ⟨b, o, rfl, hr⟩
      · exact .inl h
      · exact .inr ⟨b, o, rfl, RowAt.old (by simp) hr⟩
end Go.Proofs.Ytfccfjgnoeocnaa.Fw
