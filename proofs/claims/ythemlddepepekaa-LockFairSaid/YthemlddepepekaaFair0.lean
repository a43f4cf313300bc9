import Derived.Test.YthemlddepepekaaActs
namespace Go.Proofs.Ythemlddepepekaa.Fw
open Go Go.Proofs
set_option linter.unusedVariables false
set_option linter.unusedSimpArgs false
set_option maxRecDepth 10000

/- Fairness: who asked, who has gone. -/
structure Kw where
  b : Nat
  al : Option Addr
  cl : Nat
  la : Option Addr
  lc : Nat
  L : List Int
  h : Int
  q : Bool
  p : Int
  tt : Option Addr
  ct : Nat
  T : List Int
def k0 : Kw := ⟨0, none, 0, none, 0, [], 0, false, 0, none, 0, []⟩
def upd {α : Type} (f : Nat → α) (i : Nat) (x : α) : Nat → α := fun j => if j = i then x else f j
theorem upd_eq {α : Type} (f : Nat → α) (i : Nat) (x : α) : upd f i x i = x := by simp [upd]
theorem upd_ne {α : Type} {f : Nat → α} {i j : Nat} {x : α} (h : j ≠ i) : upd f i x j = f j := by simp [upd, h]
def Hold (k : Kw) (r : Nat) : Prop := ∃ j : Nat, (j : Int) < k.h ∧ k.L.getD j 0 = 2 * (r : Int)
def Wait (k : Kw) (r : Nat) : Prop := k.q = true ∧ k.L.getD k.h.toNat 0 = 2 * (r : Int)
structure KOk (k : Kw) : Prop where
  ok : ChOk k.L.length k.h k.q k.T.length
  len : k.L.length ≤ 4
  ev : ∀ j : Nat, j < k.L.length → ∃ r : Nat, r < 4 ∧ k.L.getD j 0 = 2 * (r : Int)
  up : ∀ a c : Nat, a < c → c < k.L.length → k.L.getD a 0 < k.L.getD c 0
def M32 : Int := 4294967296
structure FInv (N : Nat) (K : Nat → Kw) (A G : Nat → Int) (W : List Int) : Prop where
  kok : ∀ i, i < N → KOk (K i)
  wl : W.length = 16
  wa : ∀ r : Nat, r < 5 → W.getD (2 * r) 0 = A r % M32 ∧ W.getD (2 * r + 1) 0 = G r % M32
  ge : ∀ r, r < 5 → 0 ≤ G r ∧ G r ≤ A r
  g1 : ∀ i, i < N → ∀ j r : Nat, (j : Int) < (K i).h → (K i).L.getD j 0 = 2 * (r : Int) → (K i).T.getD j 0 = G r % M32 ∧ G r < A r
  g2 : ∀ i, i < N → ∀ r, Wait (K i) r → (K i).T.getD (K i).h.toNat 0 = (K i).p % M32 ∧ G r ≤ (K i).p ∧ (K i).p < A r
  hh : ∀ i j r, i < N → j < N → Hold (K i) r → Hold (K j) r → i = j
  ww : ∀ i j r, i < N → j < N → Wait (K i) r → Wait (K j) r → (K i).p = (K j).p → i = j
  hw : ∀ i j r, i < N → j < N → Hold (K i) r → Wait (K j) r → (K j).p ≠ G r
  su : ∀ r : Nat, r < 4 → ∀ p, G r ≤ p → p < A r → (∃ i, i < N ∧ Hold (K i) r ∧ p = G r) ∨ (∃ i, i < N ∧ Wait (K i) r ∧ (K i).p = p)
theorem pigeon : ∀ (m N : Nat) (f : Nat → Int), (∀ p : Nat, p < m → ∃ i, i < N ∧ f i = p) → m ≤ N
  | 0, _, _, _ => Nat.zero_le _
  | m + 1, N, f, h => by
    obtain ⟨i0, hi0, e0⟩ := h m (by omega)
    obtain ⟨N, rfl⟩ : ∃ M, N = M + 1 := ⟨N - 1, by omega⟩
    have := pigeon m N (fun i => if i = i0 then f N else f i) (fun p hp => by
      obtain ⟨i, hi, e⟩ := h p (by omega)
      have hne : i ≠ i0 := fun e2 => by subst e2; omega
      by_cases hN : i = N
      · subst hN
        exact ⟨i0, by omega, by simp [e]⟩
      · exact ⟨i, by omega, by simp [hne, e]⟩)
    omega
theorem KOk.hw {k : Kw} (H : KOk k) {r : Nat} (hw : Wait k r) : ¬ Hold k r := by
  rintro ⟨j, hj, e⟩
  have h1 := H.ok.2.2.1 hw.1
  have h2 := H.ok.1
  have := H.up j k.h.toNat (by omega) (by omega)
  rw [e, hw.2] at this
  omega
theorem FInv.cnt {N : Nat} {K : Nat → Kw} {A G : Nat → Int} {W : List Int} (H : FInv N K A G W) {r : Nat} (hr : r < 4) : A r - G r ≤ N := by
  have hg := H.ge r (by omega)
  obtain ⟨m, hm⟩ := Int.eq_ofNat_of_zero_le (show 0 ≤ A r - G r by omega)
  classical
  have := pigeon m N (fun i => if Hold (K i) r then 0 else (K i).p - G r) (fun p hp => by
    rcases H.su r hr (G r + p) (by omega) (by omega) with ⟨i, hi, h1, h2⟩ | ⟨i, hi, h1, h2⟩
    · exact ⟨i, hi, by simp only [h1, if_true]; omega⟩
    · exact ⟨i, hi, by simp only [(H.kok i hi).hw h1, if_false]; omega⟩)
  omega
theorem set_get {W : List Int} {i j : Nat} {x : Int} (hi : i < W.length) : (W.set i x).getD j 0 = if j = i then x else W.getD j 0 := by
  simp only [List.getD_eq_getElem?_getD, List.getElem?_set]
  by_cases h : i = j
  · subst h; simp [hi]
  · simp [h, show ¬ j = i from fun e => h e.symm]
/-- One asks. -/
theorem FInv.ask {N : Nat} {K : Nat → Kw} {A G : Nat → Int} {W : List Int} (H : FInv N K A G W) {i r : Nat} (hi : i < N) (hq : (K i).q = false) (hh : (K i).h < (K i).L.length) (hr4 : r < 4) (hr : (K i).L.getD (K i).h.toNat 0 = 2 * (r : Int)) (k : Kw)
    (kL : k.L = (K i).L) (kh : k.h = (K i).h) (kq : k.q = true) (kp : k.p = A r) (kT : k.T = (K i).T ++ [A r % M32]) : FInv N (upd K i k) (upd A r (A r + 1)) G (W.set (2 * r) ((A r + 1) % M32)) := by
  have hk := H.kok i hi
  have hok := hk.ok
  have hg := H.ge r (by omega)
  have hT := hok.2.2.2 hq
  have h0 := hok.1
  have eH : ∀ j s, Hold (upd K i k j) s ↔ Hold (K j) s := by
    intro j s
    by_cases e : j = i
    · subst e; rw [upd_eq]; unfold Hold; rw [kL, kh]
    · rw [upd_ne e]
  have eW : ∀ j s, j ≠ i → (Wait (upd K i k j) s ↔ Wait (K j) s) := fun j s e => by rw [upd_ne e]
  have eWi : ∀ s, Wait (upd K i k i) s → s = r := by
    intro s hs
    rw [upd_eq] at hs
    have := hs.2
    rw [kL, kh, hr] at this
    omega
  have eWr : Wait (upd K i k i) r := by rw [upd_eq]; exact ⟨kq, by rw [kL, kh]; exact hr⟩
  have nW : ∀ s, ¬ Wait (K i) s := fun s hs => by have := hs.1; rw [hq] at this; cases this
  have eA : ∀ s, s ≠ r → upd A r (A r + 1) s = A s := fun s e => upd_ne e
  have nH : ¬ Hold (K i) r := by
    rintro ⟨j, hj, e⟩
    have := hk.up j (K i).h.toNat (by omega) (by omega)
    omega
  have wl := H.wl
  refine ⟨?_, by rw [List.length_set]; exact wl, ?_, ?_, ?_, ?_, ?_, ?_, ?_, ?_⟩
  · intro j hj
    by_cases e : j = i
    · subst e
      rw [upd_eq]
      refine ⟨?_, by rw [kL]; exact hk.len, by rw [kL]; exact hk.ev, by rw [kL]; exact hk.up⟩
      rw [kL, kh, kq, kT]
      refine ⟨h0, by omega, fun _ => ⟨?_, hh⟩, fun h => by cases h⟩
      rw [List.length_append]; simp only [List.length_singleton]; omega
    · rw [upd_ne e]; exact H.kok j hj
  · intro s hs
    rw [set_get (by omega), set_get (by omega)]
    by_cases e : s = r
    · subst e
      rw [if_pos rfl, upd_eq, if_neg (by omega)]
      exact ⟨rfl, (H.wa s hs).2⟩
    · rw [if_neg (by omega), if_neg (by omega), eA s e]
      exact H.wa s hs
  · intro s hs
    by_cases e : s = r
    · subst e; rw [upd_eq]; omega
    · rw [eA s e]; exact H.ge s hs
  · intro j hj a s ha hs
    by_cases e : j = i
    · subst e
      rw [upd_eq] at ha hs ⊢
      rw [kh] at ha
      rw [kL] at hs
      obtain ⟨h1, h2⟩ := H.g1 j hj a s ha hs
      rw [kT]
      have : ((K j).T ++ [A r % M32]).getD a 0 = (K j).T.getD a 0 := by simp [List.getD_eq_getElem?_getD, List.getElem?_append_left (show a < (K j).T.length by omega)]
      rw [this]
      refine ⟨h1, ?_⟩
      rw [eA s (fun e => nH ⟨a, ha, by rw [hs, e]⟩)]; exact h2
    · rw [upd_ne e] at ha hs ⊢
      obtain ⟨h1, h2⟩ := H.g1 j hj a s ha hs
      refine ⟨h1, ?_⟩
      by_cases e2 : s = r
      · subst e2; rw [upd_eq]; omega
      · rw [eA s e2]; exact h2
  · intro j hj s hs
    by_cases e : j = i
    · subst e
      have := eWi s hs
      subst this
      rw [upd_eq, upd_eq, kT, kh, kp]
      refine ⟨?_, by omega, by omega⟩
      have e2 : (K j).h.toNat = (K j).T.length := by omega
      rw [e2]
      simp
    · rw [eW j s e] at hs
      rw [upd_ne e]
      obtain ⟨h1, h2, h3⟩ := H.g2 j hj s hs
      refine ⟨h1, h2, ?_⟩
      by_cases e2 : s = r
      · subst e2; rw [upd_eq]; omega
      · rw [eA s e2]; exact h3
  · intro a c s ha hc h1 h2
    exact H.hh a c s ha hc ((eH a s).1 h1) ((eH c s).1 h2)
  · intro a c s ha hc h1 h2 h3
    by_cases e1 : a = i <;> by_cases e2 : c = i
    · rw [e1, e2]
    · subst e1
      have := eWi s h1
      subst this
      rw [eW c s e2] at h2
      rw [upd_eq, upd_ne e2, kp] at h3
      have := H.g2 c hc s h2
      omega
    · subst e2
      have := eWi s h2
      subst this
      rw [eW a s e1] at h1
      rw [upd_eq, upd_ne e1, kp] at h3
      have := H.g2 a ha s h1
      omega
    · rw [eW a s e1] at h1
      rw [eW c s e2] at h2
      rw [upd_ne e1, upd_ne e2] at h3
      exact H.ww a c s ha hc h1 h2 h3
  · intro a c s ha hc h1 h2
    rw [eH a s] at h1
    by_cases e : c = i
    · subst e
      have := eWi s h2
      subst this
      rw [upd_eq, kp]
      obtain ⟨j, hj, e3⟩ := h1
      have := (H.g1 a ha j s hj e3).2
      omega
    · rw [eW c s e] at h2
      rw [upd_ne e]
      exact H.hw a c s ha hc h1 h2
  · intro s hs p h1 h2
    by_cases e : s = r
    · subst e
      rw [upd_eq] at h2
      by_cases e2 : p = A s
      · subst e2
        exact .inr ⟨i, hi, eWr, by rw [upd_eq]; exact kp⟩
      · rcases H.su s hs p h1 (by omega) with ⟨j, hj, h3, h4⟩ | ⟨j, hj, h3, h4⟩
        · exact .inl ⟨j, hj, (eH j s).2 h3, h4⟩
        · have e3 : j ≠ i := fun e => nW s (e ▸ h3)
          exact .inr ⟨j, hj, (eW j s e3).2 h3, by rw [upd_ne e3]; exact h4⟩
    · rw [eA s e] at h2
      rcases H.su s hs p h1 h2 with ⟨j, hj, h3, h4⟩ | ⟨j, hj, h3, h4⟩
      · exact .inl ⟨j, hj, (eH j s).2 h3, h4⟩
      · have e3 : j ≠ i := fun e => nW s (e ▸ h3)
        exact .inr ⟨j, hj, (eW j s e3).2 h3, by rw [upd_ne e3]; exact h4⟩
/-- One gets what it waited for. -/
theorem FInv.got {N : Nat} {K : Nat → Kw} {A G : Nat → Int} {W : List Int} (H : FInv N K A G W) {i r : Nat} (hi : i < N) (hr : Wait (K i) r) (hp : (K i).p = G r) (k : Kw)
    (kL : k.L = (K i).L) (kh : k.h = (K i).h + 1) (kq : k.q = false) (kT : k.T = (K i).T) : FInv N (upd K i k) A G W := by
  have hk := H.kok i hi
  have hok := hk.ok
  obtain ⟨hT, hh⟩ := hok.2.2.1 hr.1
  have h0 := hok.1
  have eH : ∀ j s, j ≠ i → (Hold (upd K i k j) s ↔ Hold (K j) s) := fun j s e => by rw [upd_ne e]
  have eHi : ∀ s, Hold (upd K i k i) s ↔ Hold (K i) s ∨ s = r := by
    intro s
    rw [upd_eq]
    constructor
    · rintro ⟨j, hj, e⟩
      rw [kh] at hj; rw [kL] at e
      by_cases e2 : (j : Int) < (K i).h
      · exact .inl ⟨j, e2, e⟩
      · have e3 : j = (K i).h.toNat := by omega
        subst e3
        have := hr.2
        exact .inr (by omega)
    · rintro (⟨j, hj, e⟩ | e)
      · exact ⟨j, by rw [kh]; omega, by rw [kL]; exact e⟩
      · subst e
        exact ⟨(K i).h.toNat, by rw [kh]; omega, by rw [kL]; exact hr.2⟩
  have eW : ∀ j s, Wait (upd K i k j) s → j ≠ i ∧ Wait (K j) s := by
    intro j s hs
    by_cases e : j = i
    · subst e; rw [upd_eq] at hs; have := hs.1; rw [kq] at this; cases this
    · rw [upd_ne e] at hs; exact ⟨e, hs⟩
  have eWr : ∀ j s, j ≠ i → Wait (K j) s → Wait (upd K i k j) s := fun j s e h => by rw [upd_ne e]; exact h
  have hg2 := H.g2 i hi r hr
  refine ⟨?_, H.wl, H.wa, H.ge, ?_, ?_, ?_, ?_, ?_, ?_⟩
  · intro j hj
    by_cases e : j = i
    · subst e
      rw [upd_eq]
      refine ⟨?_, by rw [kL]; exact hk.len, by rw [kL]; exact hk.ev, by rw [kL]; exact hk.up⟩
      rw [kL, kh, kq, kT]
      exact ⟨by omega, by omega, fun h => (by cases h), fun _ => hT⟩
    · rw [upd_ne e]; exact H.kok j hj
  · intro j hj a s ha hs
    by_cases e : j = i
    · subst e
      rw [upd_eq] at ha hs ⊢
      rw [kh] at ha
      rw [kL] at hs
      rw [kT]
      by_cases e2 : (a : Int) < (K j).h
      · exact H.g1 j hj a s e2 hs
      · have e3 : a = (K j).h.toNat := by omega
        subst e3
        have e4 : s = r := by have := hr.2; omega
        subst e4
        rw [hg2.1, hp]
        exact ⟨rfl, by omega⟩
    · rw [upd_ne e] at ha hs ⊢
      exact H.g1 j hj a s ha hs
  · intro j hj s hs
    obtain ⟨e, h2⟩ := eW j s hs
    rw [upd_ne e]
    exact H.g2 j hj s h2
  · intro a c s ha hc h1 h2
    by_cases e1 : a = i <;> by_cases e2 : c = i
    · rw [e1, e2]
    · subst e1
      rw [eH c s e2] at h2
      rcases (eHi s).1 h1 with h1 | h1
      · exact H.hh a c s ha hc h1 h2
      · subst h1
        exact absurd hp (H.hw c a s hc ha h2 hr)
    · subst e2
      rw [eH a s e1] at h1
      rcases (eHi s).1 h2 with h2 | h2
      · exact H.hh a c s ha hc h1 h2
      · subst h2
        exact absurd hp (H.hw a c s ha hc h1 hr)
    · rw [eH a s e1] at h1
      rw [eH c s e2] at h2
      exact H.hh a c s ha hc h1 h2
  · intro a c s ha hc h1 h2 h3
    obtain ⟨e1, h1⟩ := eW a s h1
    obtain ⟨e2, h2⟩ := eW c s h2
    rw [upd_ne e1, upd_ne e2] at h3
    exact H.ww a c s ha hc h1 h2 h3
  · intro a c s ha hc h1 h2
    obtain ⟨e2, h5⟩ := eW c s h2
    clear h2
    rw [upd_ne e2]
    by_cases e1 : a = i
    · subst e1
      rcases (eHi s).1 h1 with h6 | h6
      · exact H.hw a c s ha hc h6 h5
      · subst h6
        intro h4
        exact e2 (H.ww c a s hc ha h5 hr (by rw [h4, hp]))
    · rw [eH a s e1] at h1
      exact H.hw a c s ha hc h1 h5
  · intro s hs p h1 h2
    rcases H.su s hs p h1 h2 with ⟨j, hj, h3, h4⟩ | ⟨j, hj, h3, h4⟩
    · refine .inl ⟨j, hj, ?_, h4⟩
      by_cases e : j = i
      · subst e; exact (eHi s).2 (.inl h3)
      · exact (eH j s e).2 h3
    · by_cases e : j = i
      · subst e
        have e4 : s = r := by have := hr.2; have := h3.2; omega
        subst e4
        exact .inl ⟨j, hj, (eHi s).2 (.inr rfl), by omega⟩
      · exact .inr ⟨j, hj, eWr j s e h3, by rw [upd_ne e]; exact h4⟩
/-- One gives back. -/
theorem FInv.free {N : Nat} {K : Nat → Kw} {A G : Nat → Int} {W : List Int} (H : FInv N K A G W) {i r : Nat} (hi : i < N) (hq : (K i).q = false) (hh : 0 < (K i).h) (hr4 : r < 4) (hr : (K i).L.getD ((K i).h - 1).toNat 0 = 2 * (r : Int)) (k : Kw)
    (kL : k.L = (K i).L) (kh : k.h = (K i).h - 1) (kq : k.q = false) (kT : k.T = (K i).T.take ((K i).h - 1).toNat) : FInv N (upd K i k) A (upd G r (G r + 1)) (W.set (2 * r + 1) ((G r + 1) % M32)) := by
  have hk := H.kok i hi
  have hok := hk.ok
  have hT := hok.2.2.2 hq
  have h1L := hok.2.1
  have iH : Hold (K i) r := ⟨((K i).h - 1).toNat, by omega, hr⟩
  have hg := H.ge r (by omega)
  have hlt : G r < A r := (H.g1 i hi ((K i).h - 1).toNat r (by omega) hr).2
  have eHi : ∀ s, Hold (upd K i k i) s → Hold (K i) s ∧ s ≠ r := by
    intro s
    rw [upd_eq]
    rintro ⟨j, hj, e⟩
    rw [kh] at hj; rw [kL] at e
    refine ⟨⟨j, by omega, e⟩, fun e2 => ?_⟩
    subst e2
    have := hk.up j ((K i).h - 1).toNat (by omega) (by omega)
    omega
  have eHi2 : ∀ s, Hold (K i) s → s ≠ r → Hold (upd K i k i) s := by
    rintro s ⟨j, hj, e⟩ e2
    rw [upd_eq]
    refine ⟨j, ?_, by rw [kL]; exact e⟩
    rw [kh]
    by_cases e3 : j = ((K i).h - 1).toNat
    · subst e3; omega
    · omega
  have eH : ∀ j s, j < N → Hold (upd K i k j) s → Hold (K j) s ∧ s ≠ r := by
    intro j s hj h
    by_cases e : j = i
    · subst e; exact eHi s h
    · rw [upd_ne e] at h
      refine ⟨h, fun e2 => ?_⟩
      subst e2
      exact e (H.hh j i s hj hi h iH)
  have eW : ∀ j s, Wait (upd K i k j) s → j ≠ i ∧ Wait (K j) s := by
    intro j s hs
    by_cases e : j = i
    · subst e; rw [upd_eq] at hs; have := hs.1; rw [kq] at this; cases this
    · rw [upd_ne e] at hs; exact ⟨e, hs⟩
  have nW : ∀ s, ¬ Wait (K i) s := fun s hs => by have := hs.1; rw [hq] at this; cases this
  have eG : ∀ s, s ≠ r → upd G r (G r + 1) s = G s := fun s e => upd_ne e
  have wl := H.wl
  refine ⟨?_, by rw [List.length_set]; exact wl, ?_, ?_, ?_, ?_, ?_, ?_, ?_, ?_⟩
  · intro j hj
    by_cases e : j = i
    · subst e
      rw [upd_eq]
      refine ⟨?_, by rw [kL]; exact hk.len, by rw [kL]; exact hk.ev, by rw [kL]; exact hk.up⟩
      rw [kL, kh, kq, kT]
      exact ⟨by omega, by omega, fun h => (by cases h), fun _ => by rw [List.length_take]; omega⟩
    · rw [upd_ne e]; exact H.kok j hj
  · intro s hs
    rw [set_get (by omega), set_get (by omega)]
    by_cases e : s = r
    · subst e
      rw [if_neg (by omega), if_pos rfl, upd_eq]
      exact ⟨(H.wa s hs).1, rfl⟩
    · rw [if_neg (by omega), if_neg (by omega), eG s e]
      exact H.wa s hs
  · intro s hs
    by_cases e : s = r
    · subst e; rw [upd_eq]; omega
    · rw [eG s e]; exact H.ge s hs
  · intro j hj a s ha hs
    have hne : s ≠ r := (eH j s hj ⟨a, ha, hs⟩).2
    rw [eG s hne]
    by_cases e : j = i
    · subst e
      rw [upd_eq] at ha hs ⊢
      rw [kh] at ha
      rw [kL] at hs
      obtain ⟨h1, h2⟩ := H.g1 j hj a s (by omega) hs
      rw [kT]
      have : ((K j).T.take ((K j).h - 1).toNat).getD a 0 = (K j).T.getD a 0 := by rw [List.getD_eq_getElem?_getD, List.getD_eq_getElem?_getD, List.getElem?_take, if_pos (show a < ((K j).h - 1).toNat by omega)]
      rw [this]
      exact ⟨h1, h2⟩
    · rw [upd_ne e] at ha hs ⊢
      exact H.g1 j hj a s ha hs
  · intro j hj s hs
    obtain ⟨e, h2⟩ := eW j s hs
    rw [upd_ne e]
    obtain ⟨a1, a2, a3⟩ := H.g2 j hj s h2
    refine ⟨a1, ?_, a3⟩
    by_cases e2 : s = r
    · subst e2
      rw [upd_eq]
      have := H.hw i j s hi hj iH h2
      omega
    · rw [eG s e2]; exact a2
  · intro a c s ha hc h1 h2
    exact H.hh a c s ha hc (eH a s ha h1).1 (eH c s hc h2).1
  · intro a c s ha hc h1 h2 h3
    obtain ⟨e1, h1⟩ := eW a s h1
    obtain ⟨e2, h2⟩ := eW c s h2
    rw [upd_ne e1, upd_ne e2] at h3
    exact H.ww a c s ha hc h1 h2 h3
  · intro a c s ha hc h1 h2
    obtain ⟨h1, hne⟩ := eH a s ha h1
    obtain ⟨e2, h2⟩ := eW c s h2
    rw [upd_ne e2, eG s hne]
    exact H.hw a c s ha hc h1 h2
  · intro s hs p h1 h2
    by_cases e : s = r
    · subst e
      rw [upd_eq] at h1
      rcases H.su s hs p (by omega) h2 with ⟨j, hj, h3, h4⟩ | ⟨j, hj, h3, h4⟩
      · omega
      · have e3 : j ≠ i := fun e => nW s (e ▸ h3)
        exact .inr ⟨j, hj, by rw [upd_ne e3]; exact h3, by rw [upd_ne e3]; exact h4⟩
    · rw [eG s e] at h1 ⊢
      rcases H.su s hs p h1 h2 with ⟨j, hj, h3, h4⟩ | ⟨j, hj, h3, h4⟩
      · refine .inl ⟨j, hj, ?_, h4⟩
        by_cases e2 : j = i
        · subst e2; exact eHi2 s h3 e
        · rw [upd_ne e2]; exact h3
      · have e3 : j ≠ i := fun e => nW s (e ▸ h3)
        exact .inr ⟨j, hj, by rw [upd_ne e3]; exact h3, by rw [upd_ne e3]; exact h4⟩
/-- One that waits for the highest lock: it, or who has that lock, goes on. -/
theorem FInv.blocked {N : Nat} {K : Nat → Kw} {A G : Nat → Int} {W : List Int} (H : FInv N K A G W) (hN : 0 < N) (hb : ∀ i, i < N → (K i).h ≠ (K i).L.length ∧ (K i).q = true ∧ ∀ r, Wait (K i) r → (K i).p ≠ G r) : False := by
  have hw : ∀ i, i < N → ∃ r, r < 4 ∧ Wait (K i) r := by
    intro i hi
    obtain ⟨h1, h2, _⟩ := hb i hi
    obtain ⟨_, h3⟩ := (H.kok i hi).ok.2.2.1 h2
    have h0 := (H.kok i hi).ok.1
    obtain ⟨r, hr, e⟩ := (H.kok i hi).ev (K i).h.toNat (by omega)
    exact ⟨r, hr, h2, e⟩
  -- from one that waits for r to one that waits for a higher lock
  have step : ∀ i, i < N → ∀ r, r < 4 → Wait (K i) r → ∃ j, j < N ∧ ∃ s, s < 4 ∧ r < s ∧ Wait (K j) s := by
    intro i hi r hr hwi
    have hg := H.g2 i hi r hwi
    rcases H.su r hr (G r) (by omega) (by omega) with ⟨j, hj, ⟨a, ha, e⟩, _⟩ | ⟨j, hj, h3, h4⟩
    · obtain ⟨s, hs, hws⟩ := hw j hj
      refine ⟨j, hj, s, hs, ?_, hws⟩
      obtain ⟨_, h3⟩ := (H.kok j hj).ok.2.2.1 hws.1
      have := (H.kok j hj).up a (K j).h.toNat (by omega) (by omega)
      have := hws.2
      omega
    · exact absurd h4 ((hb j hj).2.2 r h3)
  obtain ⟨r0, h0, w0⟩ := hw 0 hN
  obtain ⟨i1, b1, r1, c1, d1, w1⟩ := step 0 hN r0 h0 w0
  obtain ⟨i2, b2, r2, c2, d2, w2⟩ := step i1 b1 r1 c1 w1
  obtain ⟨i3, b3, r3, c3, d3, w3⟩ := step i2 b2 r2 c2 w2
  obtain ⟨i4, b4, r4, c4, d4, w4⟩ := step i3 b3 r3 c3 w3
  omega

end Go.Proofs.Ythemlddepepekaa.Fw
