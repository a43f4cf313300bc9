import Derived.Test.YtecibldbnekgbaaFw18
namespace Go.Proofs.Ytecibldbnekgbaa.Fw
open Go
set_option linter.unusedVariables false
set_option linter.unusedSimpArgs false

/- Many parts, told by a number each. -/
theorem Holds.split {w0 : World} {F : List Atom} {w : World} {A B C : Atom} (h : Holds w0 (C :: F) w) (hc : C.ok (hp w) → A.ok (hp w) ∧ B.ok (hp w) ∧ ∀ b, A.fp b → ¬ B.fp b) (hf : ∀ b, A.fp b ∨ B.fp b → C.fp b) : Holds w0 (A :: B :: F) w := by
  obtain ⟨h1, h2, h3⟩ := hc (h.ok _ (List.mem_cons_self ..))
  have hs := List.pairwise_cons.1 h.sep
  have hl := h.lt _ (List.mem_cons_self ..)
  refine ⟨h.os, h.tape, h.output, fun D hD => ?_, fun D hD b hb => ?_, List.pairwise_cons.2 ⟨fun D hD b hb hd => ?_, List.pairwise_cons.2 ⟨fun D hD b hb hd => ?_, hs.2⟩⟩⟩
  · rcases List.mem_cons.1 hD with rfl | hD
    · exact h1
    · rcases List.mem_cons.1 hD with rfl | hD
      · exact h2
      · exact h.ok _ (List.mem_cons_of_mem _ hD)
  · rcases List.mem_cons.1 hD with rfl | hD
    · exact hl b (hf b (.inl hb))
    · rcases List.mem_cons.1 hD with rfl | hD
      · exact hl b (hf b (.inr hb))
      · exact h.lt _ (List.mem_cons_of_mem _ hD) b hb
  · rcases List.mem_cons.1 hD with rfl | hD
    · exact h3 b hb hd
    · exact hs.1 D hD b (hf b (.inl hb)) hd
  · exact hs.1 D hD b (hf b (.inr hb)) hd
theorem Holds.join {w0 : World} {F : List Atom} {w : World} {A B C : Atom} (h : Holds w0 (A :: B :: F) w) (hc : A.ok (hp w) → B.ok (hp w) → (∀ b, A.fp b → ¬ B.fp b) → C.ok (hp w)) (hf : ∀ b, C.fp b → A.fp b ∨ B.fp b) : Holds w0 (C :: F) w := by
  have hs := List.pairwise_cons.1 h.sep
  have hs2 := List.pairwise_cons.1 hs.2
  have hA := h.ok A (List.mem_cons_self ..)
  have hB := h.ok B (List.mem_cons_of_mem _ (List.mem_cons_self ..))
  refine ⟨h.os, h.tape, h.output, fun D hD => ?_, fun D hD b hb => ?_, List.pairwise_cons.2 ⟨fun D hD b hb hd => ?_, hs2.2⟩⟩
  · rcases List.mem_cons.1 hD with rfl | hD
    · exact hc hA hB (fun b ha hb => hs.1 B (List.mem_cons_self ..) b ha hb)
    · exact h.ok _ (List.mem_cons_of_mem _ (List.mem_cons_of_mem _ hD))
  · rcases List.mem_cons.1 hD with rfl | hD
    · rcases hf b hb with hb | hb
      · exact h.lt A (List.mem_cons_self ..) b hb
      · exact h.lt B (List.mem_cons_of_mem _ (List.mem_cons_self ..)) b hb
    · exact h.lt _ (List.mem_cons_of_mem _ (List.mem_cons_of_mem _ hD)) b hb
  · rcases hf b hb with hb | hb
    · exact hs.1 D (List.mem_cons_of_mem _ hD) b hb hd
    · exact hs2.1 D hD b hb hd
def BigF (N : Nat) (A : Nat → Atom) : Atom where
  fp b := ∃ k, k < N ∧ (A k).fp b
  ok h := (∀ k, k < N → (A k).ok h) ∧ ∀ j k, j < N → k < N → j ≠ k → ∀ b, (A j).fp b → ¬ (A k).fp b
  loc h h' hh ho := ⟨fun k hk => (A k).loc h h' (fun b hb => hh b ⟨k, hk, hb⟩) (ho.1 k hk), ho.2⟩
def BigBut (N i : Nat) (A : Nat → Atom) : Atom where
  fp b := ∃ k, k < N ∧ k ≠ i ∧ (A k).fp b
  ok h := (∀ k, k < N → k ≠ i → (A k).ok h) ∧ ∀ j k, j < N → k < N → j ≠ i → k ≠ i → j ≠ k → ∀ b, (A j).fp b → ¬ (A k).fp b
  loc h h' hh ho := ⟨fun k hk hi => (A k).loc h h' (fun b hb => hh b ⟨k, hk, hi, hb⟩) (ho.1 k hk hi), ho.2⟩
def updA (A : Nat → Atom) (i : Nat) (B : Atom) : Nat → Atom := fun k => if k = i then B else A k
theorem BigF.focus {w0 : World} {F : List Atom} {w : World} {N : Nat} {A : Nat → Atom} (h : Holds w0 (BigF N A :: F) w) {i : Nat} (hi : i < N) : Holds w0 (A i :: BigBut N i A :: F) w :=
  h.split (fun ho => ⟨ho.1 i hi, ⟨fun k hk _ => ho.1 k hk, fun j k hj hk _ _ hjk => ho.2 j k hj hk hjk⟩, fun b hb ⟨k, hk, hki, hb2⟩ => ho.2 i k hi hk (fun e => hki e.symm) b hb hb2⟩)
    (fun b hb => hb.elim (fun h => ⟨i, hi, h⟩) (fun ⟨k, hk, _, hb⟩ => ⟨k, hk, hb⟩))
theorem BigF.unfocus {w0 : World} {F : List Atom} {w : World} {N i : Nat} {A C : Nat → Atom} {B : Atom} (h : Holds w0 (B :: BigBut N i A :: F) w) (hB : C i = B) (hC : ∀ k, k < N → k ≠ i → C k = A k) : Holds w0 (BigF N C :: F) w := by
  refine h.join (fun hB2 hA hs => ⟨fun k hk => ?_, fun j k hj hk hjk b hb hb2 => ?_⟩) (fun b ⟨k, hk, hb⟩ => ?_)
  · by_cases hki : k = i
    · subst hki; rw [hB]; exact hB2
    · rw [hC k hk hki]; exact hA.1 k hk hki
  · by_cases hji : j = i
    · subst hji
      rw [hB] at hb
      rw [hC k hk (fun e => hjk e.symm)] at hb2
      exact hs b hb ⟨k, hk, fun e => hjk e.symm, hb2⟩
    · rw [hC j hj hji] at hb
      by_cases hki : k = i
      · subst hki
        rw [hB] at hb2
        exact hs b hb2 ⟨j, hj, hji, hb⟩
      · rw [hC k hk hki] at hb2
        exact hA.2 j k hj hk hji hki hjk b hb hb2
  · by_cases hki : k = i
    · subst hki; rw [hB] at hb; exact .inl hb
    · rw [hC k hk hki] at hb; exact .inr ⟨k, hk, hki, hb⟩
theorem BigF.congr {w0 : World} {F : List Atom} {w : World} {N : Nat} {A B : Nat → Atom} (h : Holds w0 (BigF N A :: F) w) (hab : ∀ k, k < N → A k = B k) : Holds w0 (BigF N B :: F) w :=
  h.as (fun ho => ⟨fun k hk => by rw [← hab k hk]; exact ho.1 k hk, fun j k hj hk hjk b hb => by rw [← hab k hk]; rw [← hab j hj] at hb; exact ho.2 j k hj hk hjk b hb⟩) (fun b ⟨k, hk, hb⟩ => ⟨k, hk, by rw [hab k hk]; exact hb⟩)
theorem BigF.zero {w0 : World} {F : List Atom} {w : World} (h : Holds w0 F w) (A : Nat → Atom) : Holds w0 (BigF 0 A :: F) w := by
  refine ⟨h.os, h.tape, h.output, fun B hB => ?_, fun B hB b hb => ?_, List.pairwise_cons.2 ⟨fun B hB b hb => ?_, h.sep⟩⟩
  · rcases List.mem_cons.1 hB with rfl | hB
    · exact ⟨fun k hk => absurd hk (Nat.not_lt_zero _), fun j k hj => absurd hj (Nat.not_lt_zero _)⟩
    · exact h.ok B hB
  · rcases List.mem_cons.1 hB with rfl | hB
    · obtain ⟨k, hk, _⟩ := hb; exact absurd hk (Nat.not_lt_zero _)
    · exact h.lt B hB b hb
  · obtain ⟨k, hk, _⟩ := hb; exact absurd hk (Nat.not_lt_zero _)
/-- One more. -/
theorem BigF.snoc {w0 : World} {F : List Atom} {w : World} {N : Nat} {A C : Nat → Atom} {B : Atom} (h : Holds w0 (B :: BigF N A :: F) w) (hB : C N = B) (hC : ∀ k, k < N → C k = A k) : Holds w0 (BigF (N + 1) C :: F) w := by
  refine h.join (fun hB2 hA hs => ⟨fun k hk => ?_, fun j k hj hk hjk b hb hb2 => ?_⟩) (fun b ⟨k, hk, hb⟩ => ?_)
  · by_cases hki : k = N
    · subst hki; rw [hB]; exact hB2
    · rw [hC k (by omega)]; exact hA.1 k (by omega)
  · by_cases hji : j = N
    · subst hji
      rw [hB] at hb
      rw [hC k (by omega)] at hb2
      exact hs b hb ⟨k, by omega, hb2⟩
    · rw [hC j (by omega)] at hb
      by_cases hki : k = N
      · subst hki
        rw [hB] at hb2
        exact hs b hb2 ⟨j, by omega, hb⟩
      · rw [hC k (by omega)] at hb2
        exact hA.2 j k (by omega) (by omega) hjk b hb hb2
  · by_cases hki : k = N
    · subst hki; rw [hB] at hb; exact .inl hb
    · rw [hC k (by omega)] at hb; exact .inr ⟨k, by omega, hb⟩
/-- Each part is told otherwise. -/
theorem BigF.mono {w0 : World} {F : List Atom} {w : World} {N : Nat} {A B : Nat → Atom} (h : Holds w0 (BigF N A :: F) w) (hok : ∀ k, k < N → (A k).ok (hp w) → (B k).ok (hp w)) (hfp : ∀ k, k < N → ∀ b, (B k).fp b → (A k).fp b) : Holds w0 (BigF N B :: F) w :=
  h.as (fun ho => ⟨fun k hk => hok k hk (ho.1 k hk), fun j k hj hk hjk b hb hb2 => ho.2 j k hj hk hjk b (hfp j hj b hb) (hfp k hk b hb2)⟩) (fun b ⟨k, hk, hb⟩ => ⟨k, hk, hfp k hk b hb⟩)
section
variable {P : Program} {f : FuncId} {w0 : World} {K : Post} {n : Nat} {d : List Deferred} {ops : Array Oper} {rest : List Oper} {k : List Item} {e : Env} {F : List Atom}
theorem l_focus {N : Nat} {A : Nat → Atom} (i : Nat) (hi : i < N) (hk : GL P f w0 K n d ops rest k e (A i :: BigBut N i A :: F)) : GL P f w0 K n d ops rest k e (BigF N A :: F) := gl_heap (fun w hw => BigF.focus hw hi) hk
theorem g_focus {N : Nat} {A : Nat → Atom} (i : Nat) (hi : i < N) (hk : G P f w0 K n d k e (A i :: BigBut N i A :: F)) : G P f w0 K n d k e (BigF N A :: F) := g_heap (fun w hw => BigF.focus hw hi) hk
theorem l_unfocus {N i : Nat} {A : Nat → Atom} {B : Atom} (C : Nat → Atom) (hB : C i = B) (hC : ∀ k, k < N → k ≠ i → C k = A k) (hk : GL P f w0 K n d ops rest k e (BigF N C :: F)) : GL P f w0 K n d ops rest k e (B :: BigBut N i A :: F) := gl_heap (fun w hw => BigF.unfocus hw hB hC) hk
theorem g_unfocus {N i : Nat} {A : Nat → Atom} {B : Atom} (C : Nat → Atom) (hB : C i = B) (hC : ∀ k, k < N → k ≠ i → C k = A k) (hk : G P f w0 K n d k e (BigF N C :: F)) : G P f w0 K n d k e (B :: BigBut N i A :: F) := g_heap (fun w hw => BigF.unfocus hw hB hC) hk
theorem g_bigcongr {N : Nat} {A : Nat → Atom} (B : Nat → Atom) (hab : ∀ k, k < N → A k = B k) (hk : G P f w0 K n d k e (BigF N B :: F)) : G P f w0 K n d k e (BigF N A :: F) := g_heap (fun w hw => BigF.congr hw hab) hk
end
end Go.Proofs.Ytecibldbnekgbaa.Fw
