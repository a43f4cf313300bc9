import Derived.Test.YtfccfjgnoeocnaaRSpans
namespace Go.Proofs.Ytfccfjgnoeocnaa.Fw
open Go Go.Proofs
set_option linter.unusedVariables false
set_option linter.unusedSimpArgs false
set_option maxRecDepth 10000

open Classical in
/-- What Spans answers. -/
noncomputable def spA (Ks : List CoreR) (cn pn : Nat) (p : Int) : List Span × Int :=
  if 0 ≤ p ∧ p < pn then if AllMay Ks cn then (spC p Ks cn, 0) else ([], 1) else ([], 142)
theorem spA_len {w0 : World} {F : List Atom} {ca : Option Addr} {Ks : List CoreR} {cn pn : Nat} {p : Int} (hC : CR w0 F ca cn Ks) : (spA Ks cn pn p).1.length ≤ 16 * cn := by
  unfold spA
  split
  · split
    · rename_i hm
      exact spC_len hC cn (Nat.le_refl _) hm
    · exact Nat.zero_le _
  · exact Nat.zero_le _
theorem spA_of {Ks : List CoreR} {cn pn : Nat} {p e : Int} {l : List Span} (h1 : e = 0 → (0 ≤ p ∧ p < pn) ∧ AllMay Ks cn ∧ spC p Ks cn = l) (h2 : e ≠ 0 → (e = 142 ∧ ¬ (0 ≤ p ∧ p < pn)) ∨ (e = 1 ∧ (0 ≤ p ∧ p < pn) ∧ ¬ AllMay Ks cn)) (h3 : e ≠ 0 → l = []) : spA Ks cn pn p = (l, e) := by
  unfold spA
  by_cases he : e = 0
  · obtain ⟨a1, a2, a3⟩ := h1 he
    rw [if_pos a1, if_pos a2, a3, he]
  · rw [h3 he]
    rcases h2 he with ⟨b1, b2⟩ | ⟨b1, b2, b3⟩
    · rw [if_neg b2, b1]
    · rw [if_pos b2, if_neg b3, b1]
theorem rspans_fn (w0 : World) (F : List Atom) (fr mj kr rm : Int) (ca pa ha : Option Addr) (cn cc pn pc hn hc : Nat) (Ks : List CoreR) (hCR : CR w0 F ca cn Ks) (hcn : cn ≤ 9223372036854775807) (hpn : pn ≤ 9223372036854775807) (hmj : I64 mj) (p : Int) (p0 : -9223372036854775808 ≤ p) (p1 : p ≤ 9223372036854775807) (hcn2 : cn ≤ 2147483647) : CallK Try.prog 21 [.agg [Value.int .i64 fr, .int .i64 mj, .int .i64 kr, .int .i64 rm, .slice ca cn cc, .slice pa pn pc, .slice ha hn hc].toArray, .int .i64 p] w0 F (Gives w0 fun v F2 => ∃ u, v = .tuple #[u, .int .i64 (spA Ks cn pn p).2] ∧ F2 = Own 52 4 u (spA Ks cn pn p).1.length (spRows (spA Ks cn pn p).1) :: F) :=
  (rspans_any w0 F fr mj kr rm ca pa ha cn cc pn pc hn hc Ks hCR hcn hpn hmj p p0 p1 hcn2).gmono fun v F2 ⟨u, e, l, h1, h2, h3, h4, h5⟩ => by
    rw [spA_of h3 h4 h5]
    exact ⟨u, h1, h2⟩
theorem spans_fn (w0 : World) (F : List Atom) (fr mj kr rm : Int) (ca pa ha : Option Addr) (cn cc pn pc hn hc : Nat) (Ks : List CoreR) (hCR : CR w0 F ca cn Ks) (hcn : cn ≤ 9223372036854775807) (hpn : pn ≤ 9223372036854775807) (hmj : I64 mj) (p : Int) (p0 : -9223372036854775808 ≤ p) (p1 : p ≤ 9223372036854775807) (hcn2 : cn ≤ 2147483647) : CallK Try.prog 22 [.agg [Value.int .i64 fr, .int .i64 mj, .int .i64 kr, .int .i64 rm, .slice ca cn cc, .slice pa pn pc, .slice ha hn hc].toArray, .int .i64 p] w0 F (Gives w0 fun v F2 => ∃ u, v = .tuple #[u, .int .i64 (spA Ks cn pn p).2] ∧ F2 = Own 52 4 u (spA Ks cn pn p).1.length (spRows (spA Ks cn pn p).1) :: F) := by
  have nl : ∀ w, Holds w0 F w → Holds w0 (Own 52 4 (.slice none 0 0) ([] : List Span).length (spRows []) :: F) w := fun w hw => hw.own_nil _ _
  unfold spA
  by_cases ho : 0 ≤ p ∧ p < pn
  · rw [if_pos ho]
    refine (spans_in w0 F fr mj kr rm ca pa ha cn cc pn pc hn hc Ks hCR hcn hpn hmj p p0 p1 ho hcn2).mono fun en F2 h => ?_
    obtain ⟨v, F', h1, h2, h3⟩ := h
    rcases h2 with ⟨u, h4, h5, h6⟩ | ⟨h4, h5, h6⟩
    · rw [if_pos h5]
      exact ⟨v, F', h1, ⟨u, h4, h6⟩, h3⟩
    · rw [if_neg h5]
      exact ⟨v, _, h1, ⟨_, h4, rfl⟩, fun w hw => nl w (by have := h3 w hw; rwa [h6] at this)⟩
  · rw [if_neg ho]
    refine (spans_out w0 F fr mj kr rm ca pa ha cn cc pn pc hn hc Ks hCR hcn hpn hmj p p0 p1 (by omega)).mono fun en F2 h => ?_
    obtain ⟨v, F', h1, ⟨h4, h6⟩, h3⟩ := h
    exact ⟨v, _, h1, ⟨_, h4, rfl⟩, fun w hw => nl w (by have := h3 w hw; rwa [h6] at this)⟩
end Go.Proofs.Ytfccfjgnoeocnaa.Fw
