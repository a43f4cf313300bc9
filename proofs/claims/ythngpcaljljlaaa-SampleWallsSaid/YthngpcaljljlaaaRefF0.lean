import Derived.Test.YthngpcaljljlaaaRefE
namespace Go.Proofs.Ythngpcaljljlaaa.Fw
open Go Go.Proofs
set_option linter.unusedVariables false
set_option linter.unusedSimpArgs false
set_option maxRecDepth 10000

theorem rdp_of {W T : List Int} {n : Nat} {at_ wd : Int} {th fr ok : Bool} (hwd : WdOk wd) (hi : inR n at_ (3 + wd)) (hpl : (part W at_ (3 + wd)).length = (3 + wd).toNat) (hR : HeldR (part W at_ (3 + wd)) 3 th fr T ok) (hok : ok = true) : RdpG W n at_ wd T fr th 0 := by
  rcases hR with ⟨_, h1, h2, h3⟩ | ⟨h, _⟩
  · have hg : ReadG W n at_ wd 3 T 0 := .inr (.inr ⟨rfl, hi, h1⟩)
    by_cases hT : 0 < T.length
    · refine .inr (.inr ⟨hwd, rfl, hT, by rw [h2]; exact decide_eq_true hT, hg, ?_⟩)
      obtain ⟨w1, w2⟩ := hwd
      unfold inR at hi
      have e : (part W at_ (3 + wd)).getD 1 0 = W.getD (at_ + 1).toNat 0 := by rw [part_getD (by omega), show at_.toNat + 1 = (at_ + 1).toNat by omega]
      rw [e] at h3
      exact Bool.eq_iff_iff.2 (by rw [h3, decide_eq_true_iff]; exact ⟨fun h => h.2.2, fun h => ⟨hT, rfl, h⟩⟩)
    · have h0 : T = [] := List.length_eq_zero_iff.1 (by omega)
      refine .inr (.inl ⟨hwd, h0, ?_, by rw [h2]; exact decide_eq_false hT, hg⟩)
      cases fr
      · rfl
      · exact absurd (h3.1 rfl).1 hT
  · rw [h] at hok; cases hok
end Go.Proofs.Ythngpcaljljlaaa.Fw
