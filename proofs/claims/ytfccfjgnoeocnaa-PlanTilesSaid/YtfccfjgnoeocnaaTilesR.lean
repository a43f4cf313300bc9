import Derived.Test.YtfccfjgnoeocnaaTiles
namespace Go.Proofs.Ytfccfjgnoeocnaa.Fw
open Go Go.Proofs
set_option linter.unusedVariables false
set_option linter.unusedSimpArgs false
set_option maxRecDepth 10000

theorem tiles_all (W : World) (l : List Value) (hv : Vis Try.prog W 27 l) (core : Int) (q : -9223372036854775808 ≤ core ∧ core ≤ 9223372036854775807) (time : Int) (t : -9223372036854775808 ≤ time ∧ time ≤ 9223372036854775807) : CallK Try.prog 5 [.agg l.toArray, .int .i64 core, .int .i64 time] W [Old W] (Gives W fun v F2 => v = .bool true ∧ F2 = [Old W]) := by
  obtain ⟨fr, mj, kr, rm, ca, cn, cc, pa, pn, pc, ha, hn, hc, Ks, rows, rfl, hmj, hCR, hcn, hpn, hPR⟩ := vis_cfg hv
  by_cases ho : 0 ≤ core ∧ core < cn
  · obtain ⟨⟨a, n, c, L⟩, hk⟩ : ∃ K, kat Ks core.toNat = K := ⟨_, rfl⟩
    by_cases hm : May L
    · by_cases hj : ∃ j, j < n ∧ bg L j ≤ time ∧ time < bg L (j + 1)
      · obtain ⟨j, h1, h2, h3⟩ := hj
        exact tiles_found W [Old W] fr mj kr rm ca pa ha cn cc pn pc hn hc Ks hCR hcn hpn hmj core q.1 q.2 time t.1 t.2 rows hPR ho a n c L hk hm j h1 h2 h3
      · exact tiles_none W [Old W] fr mj kr rm ca pa ha cn cc pn pc hn hc Ks hCR hcn hpn hmj core q.1 q.2 time t.1 t.2 rows hPR ho a n c L hk hm fun j h1 h2 => hj ⟨j, h1, h2⟩
    · exact tiles_bad W [Old W] fr mj kr rm ca pa ha cn cc pn pc hn hc Ks hCR hcn hpn hmj core q.1 q.2 time t.1 t.2 rows hPR ho a n c L hk hm
  · exact tiles_out W [Old W] fr mj kr rm ca pa ha cn cc pn pc hn hc Ks hCR hcn hpn hmj core q.1 q.2 time t.1 t.2 rows hPR (by omega)
end Go.Proofs.Ytfccfjgnoeocnaa.Fw
