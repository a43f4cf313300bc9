import Derived.Test.YthemlddepepekaaFair3
namespace Go.Proofs.Ythemlddepepekaa.Fw
open Go Go.Proofs
set_option linter.unusedVariables false
set_option linter.unusedSimpArgs false
set_option maxRecDepth 10000

/- All that stands between two things that are done. -/
structure GI (K0 KL : List Kw) (Q : QS) (W : List Int) (i : Int) : Prop where
  len : KL.length = K0.length
  f : FInv K0.length (kat KL) (aQ Q) (gQ Q) W
  ql : Q.length = 5
  a4 : aQ Q 4 = 1 ∧ gQ Q 4 = 0
  bd : ∀ r, r < 4 → aQ Q r ≤ i
  tk : ∀ j, j < K0.length → (kat KL j).T.length = 0 ∨ ∃ g, (kat KL j).tt = some ⟨g, 0, none⟩
  kid : ∀ j, j < K0.length → KId (kat K0 j) (kat KL j)
theorem GI.loc {K0 KL : List Kw} {Q : QS} {W : List Int} {i : Int} (H : GI K0 KL Q W i) (hK : KsOk K0) (h5 : K0.length ≤ 5) (hi : i ≤ 9223372036854775806) {p : Nat} (hp : p < K0.length) : LocM (kat KL p) Q W :=
  H.f.loc hp h5 H.ql (by have := H.a4; omega) (fun r hr => by
    have h4 := H.a4
    by_cases e : r = 4
    · subst e; omega
    · have := H.bd r (by omega)
      omega) (by rw [(H.kid p hp).2.2.2.2.2]; exact (hK p hp).bd)
theorem GI.bd2 {K0 KL : List Kw} {Q : QS} {W : List Int} {i : Int} (H : GI K0 KL Q W i) (hi : 1 ≤ i) {r : Nat} (hr : r < 5) : aQ Q r ≤ i := by
  have h4 := H.a4
  by_cases e : r = 4
  · subst e; omega
  · exact H.bd r (by omega)
theorem KId.trans {a b c : Kw} (h1 : KId a b) (h2 : KId b c) : KId a c := ⟨h2.1.trans h1.1, h2.2.1.trans h1.2.1, h2.2.2.1.trans h1.2.2.1, h2.2.2.2.1.trans h1.2.2.2.1, h2.2.2.2.2.1.trans h1.2.2.2.2.1, h2.2.2.2.2.2.trans h1.2.2.2.2.2⟩
theorem GI.next {K0 KL : List Kw} {Q Q2 : QS} {W W2 : List Int} {i : Int} {p : Nat} {k2 : Kw} (H : GI K0 KL Q W i) (hp : p < K0.length) (hf : FInv K0.length (kat (KL.set p k2)) (aQ Q2) (gQ Q2) W2) (hk : KId (kat KL p) k2) (htt : k2.T.length = 0 ∨ ∃ g, k2.tt = some ⟨g, 0, none⟩)
    (hQ : Q2 = Q ∨ ∃ r x, r < 4 ∧ x.1 ≤ aQ Q r + 1 ∧ Q2 = Q.set r x) : GI K0 (KL.set p k2) Q2 W2 (i + 1) := by
  have hl := H.len
  have hql := H.ql
  have ha4 := H.a4
  refine ⟨by rw [List.length_set]; exact hl, hf, ?_, ?_, ?_, ?_, ?_⟩
  · rcases hQ with rfl | ⟨r, x, _, _, rfl⟩
    · exact H.ql
    · rw [List.length_set]; exact H.ql
  · rcases hQ with rfl | ⟨r, x, h1, _, rfl⟩
    · exact H.a4
    · unfold aQ gQ at ha4 ⊢
      rw [qat_set (by omega), if_neg (by omega)]
      exact ha4
  · intro s hs
    have hb := H.bd s hs
    rcases hQ with rfl | ⟨r, x, h1, h2, rfl⟩
    · omega
    · unfold aQ at hb h2 ⊢
      rw [qat_set (by omega)]
      split
      · rename_i e; subst e; omega
      · omega
  · intro j hj
    rw [kat_set (by omega)]
    split
    · exact htt
    · exact H.tk j hj
  · intro j hj
    rw [kat_set (by omega)]
    split
    · rename_i e; subst e; exact (H.kid j hj).trans hk
    · exact H.kid j hj
theorem GI.moved {K0 KL : List Kw} {Q Q2 : QS} {W W2 : List Int} {i : Int} {p : Nat} {k2 : Kw} (H : GI K0 KL Q W i) (hp : p < K0.length) (htt : k2.T.length = 0 ∨ ∃ g, k2.tt = some ⟨g, 0, none⟩) (hM : MovR (kat KL p) Q W k2 Q2 W2) : GI K0 (KL.set p k2) Q2 W2 (i + 1) := by
  refine H.next hp (H.f.moved H.len hp H.ql hM) hM.1 htt ?_
  rcases hM.2 with ⟨_, _, _, _, h, _⟩ | ⟨r, hr, _, h2, h3, _, _, _, _, h, _⟩ | ⟨r, _, _, _, _, _, _, h, _⟩
  · exact .inl h
  · have hok := (H.f.kok p hp).ok.1
    exact .inr ⟨r, _, H.f.rlt hp (show (kat KL p).h.toNat < (kat KL p).L.length by omega) h3, by simp only; omega, h⟩
  · exact .inl h
theorem GI.given {K0 KL : List Kw} {Q Q2 : QS} {W W2 : List Int} {i : Int} {p : Nat} {k2 : Kw} (H : GI K0 KL Q W i) (hp : p < K0.length) (htt : k2.T.length = 0 ∨ ∃ g, k2.tt = some ⟨g, 0, none⟩) (hM : GivR (kat KL p) Q W k2 Q2 W2) : GI K0 (KL.set p k2) Q2 W2 (i + 1) := by
  refine H.next hp (H.f.given H.len hp H.ql hM) hM.1 htt ?_
  rcases hM.2 with ⟨_, _, _, _, h, _⟩ | ⟨r, hr, _, h2, h3, _, _, _, h, _⟩
  · exact .inl h
  · have hok := (H.f.kok p hp).ok.2.1
    exact .inr ⟨r, _, H.f.rlt hp (show ((kat KL p).h - 1).toNat < (kat KL p).L.length by omega) h3, by simp only; omega, h⟩
theorem GI.wait {K0 KL : List Kw} {Q : QS} {W : List Int} {i : Int} (H : GI K0 KL Q W i) (h5 : K0.length ≤ 5) {j : Int} (h0 : 0 ≤ j) (h1 : j < 5) : inR 16 (2 * j) 2 ∧ (nx W (2 * j) - tn W (2 * j)) % 4294967296 = aQ Q j.toNat - gQ Q j.toNat := by
  have ha4 := H.a4
  have hg := H.f.ge j.toNat (by omega)
  have hc : aQ Q j.toNat - gQ Q j.toNat ≤ 5 := by
    by_cases e : j.toNat = 4
    · rw [e]; omega
    · have := H.f.cnt (r := j.toNat) (by omega)
      omega
  have hw := H.f.wa j.toNat (by omega)
  refine ⟨by unfold inR; omega, ?_⟩
  unfold nx tn
  rw [show (2 * j).toNat = 2 * j.toNat by omega, show (2 * j + 1).toNat = 2 * j.toNat + 1 by omega, hw.1, hw.2]
  unfold M32
  omega
def Blkd (k : Kw) (Q : QS) : Prop := k.h ≠ k.L.length ∧ k.q = true ∧ ∀ r, Wait k r → k.p ≠ gQ Q r
theorem GI.ready {K0 KL : List Kw} {Q : QS} {W : List Int} {i : Int} (H : GI K0 KL Q W i) (h : ∀ j, j < K0.length → Blkd (kat KL j) Q) : K0.length = 0 := by
  rcases Nat.eq_zero_or_pos K0.length with h0 | h0
  · exact h0
  · exact (H.f.blocked h0 h).elim
def kH (b : Nat) (al : Option Addr) (cl : Nat) (la : Option Addr) (lc : Nat) : Kw := ⟨b, al, cl, la, lc, [8], 0, false, 0, none, 0, []⟩
def Q0 : QS := List.replicate 5 (0, 0)
def Q1 : QS := [(0, 0), (0, 0), (0, 0), (0, 0), (1, 0)]
theorem w_rep (r : Nat) : (List.replicate 16 (0 : Int)).getD r 0 = 0 := by
  rw [List.getD_eq_getElem?_getD, List.getElem?_replicate]
  split <;> rfl
theorem r_cases {r : Nat} (h : r < 5) : r = 0 ∨ r = 1 ∨ r = 2 ∨ r = 3 ∨ r = 4 := by omega
theorem headL {L : List Int} (hL : L = [8]) : (∀ j : Nat, j < L.length → ∃ r : Nat, r < 5 ∧ L.getD j 0 = 2 * (r : Int)) ∧ I64s L ∧ L.length = 1 := by
  subst hL
  refine ⟨fun j hj => ?_, fun i => ?_, rfl⟩
  · simp only [List.length_singleton] at hj
    obtain rfl : j = 0 := by omega
    exact ⟨4, by omega, rfl⟩
  · rcases Nat.eq_zero_or_pos i with rfl | h
    · decide
    · have : [8].getD i (0 : Int) = 0 := by simp [List.getD_eq_getElem?_getD, show ¬ i < 1 by omega]
      rw [this]; decide
theorem head0 (b : Nat) (al : Option Addr) (cl : Nat) (la : Option Addr) (lc : Nat) : LocM (kH b al cl la lc) Q0 (List.replicate 16 0) := by
  obtain ⟨h1, h2, h3⟩ := headL (L := [8]) rfl
  refine ⟨⟨Int.le_refl 0, (by show (0 : Int) ≤ ((1 : Nat) : Int); decide), fun h => (by cases h), fun _ => rfl⟩, (by show 1 ≤ 4; decide), h1, h2, rfl, rfl, fun r hr => ?_, fun r hr => ?_, ?_, ?_⟩
  · rw [w_rep, w_rep]
    rcases r_cases hr with rfl | rfl | rfl | rfl | rfl <;> exact ⟨rfl, rfl⟩
  · rcases r_cases hr with rfl | rfl | rfl | rfl | rfl <;> exact ⟨by decide, by decide, by decide, by decide⟩
  · intro r hr _ _ h; cases h
  · intro r hr h; exact absurd h (by show ¬ (0 : Int) < 0; decide)
theorem head1 {b : Nat} {al : Option Addr} {cl : Nat} {la : Option Addr} {lc : Nat} {k1 : Kw} {Q2 : QS} {W2 : List Int} (H : MovR (kH b al cl la lc) Q0 (List.replicate 16 0) k1 Q2 W2) : KId (kH b al cl la lc) k1 ∧ k1.h = 0 ∧ k1.q = true ∧ k1.p = 0 ∧ k1.T = [0] ∧ Q2 = Q1 ∧ W2 = (List.replicate 16 0).set 8 1 := by
  obtain ⟨hid, H⟩ := H
  rcases H with ⟨_, _, _, _, _, _, h | ⟨h, _⟩⟩ | ⟨r, hr, h1, h2, h3, h4, h5, h6, h7, h8, h9⟩ | ⟨r, hr, h1, _⟩
  · exact absurd h (by show ¬ (0 : Int) = ((1 : Nat) : Int); decide)
  · cases h
  · have e : r = 4 := by
      have : (8 : Int) = 2 * (r : Int) := h3
      omega
    subst e
    exact ⟨hid, h4, h5, h6, h7, h8, h9⟩
  · have := h1.1; cases this
theorem head2 {k1 k2 : Kw} {b : Nat} {al : Option Addr} {cl : Nat} {la : Option Addr} {lc : Nat} {Q2 : QS} {W2 : List Int} (hid : KId (kH b al cl la lc) k1) (h1 : k1.h = 0) (h2 : k1.q = true) (h3 : k1.p = 0) (h4 : k1.T = [0]) (H : MovR k1 Q1 ((List.replicate 16 0).set 8 1) k2 Q2 W2) : KId (kH b al cl la lc) k2 ∧ k2.h = 1 ∧ Q2 = Q1 ∧ W2 = (List.replicate 16 0).set 8 1 := by
  have hL : k1.L = [8] := hid.2.2.2.2.2
  obtain ⟨hid2, H⟩ := H
  have hw : Wait k1 4 := ⟨h2, by rw [hL, h1]; rfl⟩
  rcases H with ⟨_, _, _, _, _, _, h | ⟨_, h⟩⟩ | ⟨r, hr, h5, _⟩ | ⟨r, hr, h5, h6, h7, h8, h9, h10, h11⟩
  · rw [h1, hL] at h; exact absurd h (by decide)
  · exact absurd (show k1.p = gQ Q1 4 by rw [h3]; rfl) (h 4 hw)
  · rw [h2] at h5; cases h5
  · exact ⟨hid.trans hid2, by rw [h7, h1]; rfl, h10, h11⟩
theorem wa1 {r : Nat} (hr : r < 5) : ((List.replicate 16 (0 : Int)).set 8 1).getD (2 * r) 0 = aQ Q1 r % M32 ∧ ((List.replicate 16 (0 : Int)).set 8 1).getD (2 * r + 1) 0 = gQ Q1 r % M32 := by
  rcases r_cases hr with rfl | rfl | rfl | rfl | rfl <;> exact ⟨rfl, rfl⟩
theorem head_loc {k1 : Kw} {b : Nat} {al : Option Addr} {cl : Nat} {la : Option Addr} {lc : Nat} (hid : KId (kH b al cl la lc) k1) (h1 : k1.h = 0) (h2 : k1.q = true) (h3 : k1.p = 0) (h4 : k1.T = [0]) : LocM k1 Q1 ((List.replicate 16 0).set 8 1) := by
  have hL : k1.L = [8] := hid.2.2.2.2.2
  obtain ⟨g1, g2, g3⟩ := headL hL
  refine ⟨?_, by omega, g1, g2, rfl, rfl, fun r hr => wa1 hr, fun r hr => ?_, ?_, ?_⟩
  · rw [h1, h2, h4, hL]; exact ⟨by decide, by decide, fun _ => ⟨by decide, by decide⟩, fun h => (by cases h)⟩
  · rcases r_cases hr with rfl | rfl | rfl | rfl | rfl <;> exact ⟨by decide, by decide, by decide, by decide⟩
  · intro r hr _ h5 _
    rw [hL, h1] at h5
    have e : r = 4 := by
      have : (8 : Int) = 2 * (r : Int) := h5
      omega
    subst e
    rw [h1, h3, h4]
    exact ⟨rfl, by decide, by decide⟩
  · intro r hr h; rw [h1] at h; exact absurd h (by decide)
theorem GI.begin {K0 : List Kw} (hK : KsOk K0) : GI K0 K0 Q1 ((List.replicate 16 0).set 8 1) 0 :=
  ⟨rfl, FInv.begin hK (by simp) (fun r hr => wa1 hr) (fun r hr => by rcases r_cases (show r < 5 by omega) with rfl | rfl | rfl | rfl | rfl <;> first | exact ⟨rfl, rfl⟩ | omega) ⟨rfl, rfl⟩, rfl, ⟨rfl, rfl⟩, fun r hr => by rcases r_cases (show r < 5 by omega) with rfl | rfl | rfl | rfl | rfl <;> first | decide | omega,
    fun j hj => .inl (by rw [(hK j hj).2.2.2.1]; rfl), fun j hj => ⟨rfl, rfl, rfl, rfl, rfl, rfl⟩⟩

theorem kid_al {w0 : World} {F : List Atom} {K0 : List Kw} {k : Kw} {p : Nat} (hm : BigF K0.length (fun j => Own 3 1 (.slice (kat K0 j).al (kat K0 j).L.length (kat K0 j).cl) (kat K0 j).L.length (ints .i64 (kat K0 j).L)) ∈ F) (hp : p < K0.length) (hk : KId (kat K0 p) k) (hK : KIni (kat K0 p)) : IR w0 F .i64 k.al k.L.length k.L := by
  rw [hk.2.1, hk.2.2.2.2.2]
  exact IR.big hm hp rfl rfl hK.2.2.2.2.2.2.1
theorem kid_la {w0 : World} {F : List Atom} {K0 : List Kw} {k : Kw} {p : Nat} (hm : BigF K0.length (fun j => Own 3 1 (.slice (kat K0 j).la (kat K0 j).L.length (kat K0 j).lc) (kat K0 j).L.length (ints .i64 (kat K0 j).L)) ∈ F) (hp : p < K0.length) (hk : KId (kat K0 p) k) (hK : KIni (kat K0 p)) : IR w0 F .i64 k.la k.L.length k.L := by
  rw [hk.2.2.2.1, hk.2.2.2.2.2]
  exact IR.big hm hp rfl rfl hK.2.2.2.2.2.2.2
end Go.Proofs.Ythemlddepepekaa.Fw
