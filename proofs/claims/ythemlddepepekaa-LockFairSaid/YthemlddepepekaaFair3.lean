import Derived.Test.YthemlddepepekaaFair2
namespace Go.Proofs.Ythemlddepepekaa.Fw
open Go Go.Proofs
set_option linter.unusedVariables false
set_option linter.unusedSimpArgs false
set_option maxRecDepth 10000
theorem bd_31_z  (w : World) : (Instr.build 31 #[]).run Try.prog w = .ok (.agg #[.pointer none, .slice none 0 0, .int .i64 0, .bool false, .int .i64 0]) w := by kernel_rfl
/- The chains that a play begins with. -/
theorem kat_last (KL : List Kw) (x : Kw) : kat (KL ++ [x]) KL.length = x := by simp [kat]
theorem kat_init {KL : List Kw} {x : Kw} {j : Nat} (h : j < KL.length) : kat (KL ++ [x]) j = kat KL j := by simp [kat, List.getD_eq_getElem?_getD, List.getElem?_append_left h]
theorem knR_snoc (KL : List Kw) (x : Kw) : knR KL ++ knV x = knR (KL ++ [x]) := by simp [knR]
theorem snoc4 {w0 : World} {F : List Atom} {w : World} {N : Nat} {A1 A2 A3 A4 C1 C2 C3 C4 : Nat → Atom} {B1 B2 B3 B4 X : Atom} (h : Holds w0 (B1 :: BigF N A1 :: B2 :: BigF N A2 :: B3 :: BigF N A3 :: B4 :: BigF N A4 :: X :: F) w)
    (h1 : C1 N = B1) (k1 : ∀ k, k < N → C1 k = A1 k) (h2 : C2 N = B2) (k2 : ∀ k, k < N → C2 k = A2 k) (h3 : C3 N = B3) (k3 : ∀ k, k < N → C3 k = A3 k) (h4 : C4 N = B4) (k4 : ∀ k, k < N → C4 k = A4 k) :
    Holds w0 (X :: BigF (N + 1) C1 :: BigF (N + 1) C2 :: BigF (N + 1) C3 :: BigF (N + 1) C4 :: F) w := by
  have a := BigF.snoc h h1 k1
  have a2 : Holds w0 (B2 :: BigF N A2 :: BigF (N + 1) C1 :: B3 :: BigF N A3 :: B4 :: BigF N A4 :: X :: F) w := SPI.holds a
  have b := BigF.snoc a2 h2 k2
  have b2 : Holds w0 (B3 :: BigF N A3 :: BigF (N + 1) C1 :: BigF (N + 1) C2 :: B4 :: BigF N A4 :: X :: F) w := SPI.holds b
  have c := BigF.snoc b2 h3 k3
  have c2 : Holds w0 (B4 :: BigF N A4 :: BigF (N + 1) C1 :: BigF (N + 1) C2 :: BigF (N + 1) C3 :: X :: F) w := SPI.holds c
  exact SPI.holds (BigF.snoc c2 h4 k4)
theorem zero4 {w0 : World} {F : List Atom} {w : World} {X : Atom} (h : Holds w0 (X :: F) w) (A1 A2 A3 A4 : Nat → Atom) : Holds w0 (X :: BigF 0 A1 :: BigF 0 A2 :: BigF 0 A3 :: BigF 0 A4 :: F) w :=
  SPI.holds (BigF.zero (BigF.zero (BigF.zero (BigF.zero h A4) A3) A2) A1)
theorem focus2 {w0 : World} {F : List Atom} {w : World} {N i : Nat} {A1 A2 : Nat → Atom} (h : Holds w0 (BigF N A1 :: BigF N A2 :: F) w) (hi : i < N) : Holds w0 (A1 i :: A2 i :: BigBut N i A1 :: BigBut N i A2 :: F) w := by
  have a := BigF.focus h hi
  have a2 : Holds w0 (BigF N A2 :: A1 i :: BigBut N i A1 :: F) w := SPI.holds a
  have b := BigF.focus a2 hi
  exact SPI.holds b
theorem unfocus2 {w0 : World} {F : List Atom} {w : World} {N i : Nat} {A1 A2 C1 C2 : Nat → Atom} {B1 B2 : Atom} (h : Holds w0 (B1 :: B2 :: BigBut N i A1 :: BigBut N i A2 :: F) w) (h1 : C1 i = B1) (k1 : ∀ k, k < N → k ≠ i → C1 k = A1 k) (h2 : C2 i = B2) (k2 : ∀ k, k < N → k ≠ i → C2 k = A2 k) : Holds w0 (BigF N C1 :: BigF N C2 :: F) w := by
  have a : Holds w0 (B2 :: BigBut N i A2 :: B1 :: BigBut N i A1 :: F) w := SPI.holds h
  have b := BigF.unfocus a h2 k2
  have c : Holds w0 (B1 :: BigBut N i A1 :: BigF N C2 :: F) w := SPI.holds b
  exact BigF.unfocus c h1 k1
theorem RowAt.big {w0 : World} {F : List Atom} {N j : Nat} {A : Nat → Atom} {E sz b n cap : Nat} {xs : List Value} (hm : BigF N A ∈ F) (hj : j < N) (hA : A j = Own E sz (.slice (some ⟨b, 0, none⟩) n cap) n xs) : RowAt w0 F b 0 xs := fun w hw i u hu => by
  have h := (hw.ok _ hm).1 j hj
  rw [hA] at h
  obtain ⟨h1, h2⟩ := h
  rcases h2 with ⟨h2, _⟩ | ⟨g, cap2, cur, hv, hg, h3, h4, h5, h6⟩
  · cases h2
  · cases hv
    rw [← h6, List.getElem?_take] at hu
    split at hu
    · rw [Nat.zero_add]
      exact cell_of_has hg hu
    · cases hu
theorem IR.big {w0 : World} {F : List Atom} {N j : Nat} {A : Nat → Atom} {kd : IntKind} {E n cap : Nat} {a : Option Addr} {W : List Int} (hm : BigF N A ∈ F) (hj : j < N) (hA : A j = Own E 1 (.slice a n cap) n (ints kd W)) (hW : W.length = n) (ha : n = 0 ∨ ∃ g, a = Option.some ⟨g, 0, none⟩) : IR w0 F kd a n W :=
  ⟨hW, ha.imp id fun ⟨g, h⟩ => ⟨g, 0, h, by subst h; exact RowAt.big hm hj hA⟩⟩
def GoodL (L : List Int) (b : Nat) : Prop := L.length ≤ b ∧ (∀ j : Nat, j < L.length → ∃ r : Nat, r < b ∧ L.getD j 0 = 2 * (r : Int)) ∧ ∀ a c : Nat, a < c → c < L.length → L.getD a 0 < L.getD c 0
theorem GoodL.zero : GoodL [] 0 := ⟨by simp, fun j h => by simp at h, fun a c _ h => by simp at h⟩
theorem GoodL.skip {L : List Int} {b : Nat} (H : GoodL L b) : GoodL L (b + 1) := ⟨by have := H.1; omega, fun j hj => by obtain ⟨r, h1, h2⟩ := H.2.1 j hj; exact ⟨r, by omega, h2⟩, H.2.2⟩
theorem snoc_getD (L : List Int) (x : Int) (j : Nat) : (L ++ [x]).getD j 0 = if j < L.length then L.getD j 0 else if j = L.length then x else 0 := by
  simp only [List.getD_eq_getElem?_getD, List.getElem?_append]
  split
  · rfl
  · by_cases h : j = L.length
    · subst h; simp
    · rw [if_neg h, List.getElem?_eq_none (by simp; omega)]; rfl
theorem GoodL.snoc {L : List Int} {b : Nat} (H : GoodL L b) : GoodL (L ++ [2 * (b : Int)]) (b + 1) := by
  obtain ⟨h1, h2, h3⟩ := H
  refine ⟨by simp; omega, fun j hj => ?_, fun a c hac hc => ?_⟩
  · rw [snoc_getD]
    simp only [List.length_append, List.length_singleton] at hj
    by_cases h : j < L.length
    · obtain ⟨r, h4, h5⟩ := h2 j h
      rw [if_pos h]; exact ⟨r, by omega, h5⟩
    · rw [if_neg h, if_pos (by omega)]; exact ⟨b, by omega, rfl⟩
  · rw [snoc_getD, snoc_getD]
    simp only [List.length_append, List.length_singleton] at hc
    rw [if_pos (show a < L.length by omega)]
    by_cases h : c < L.length
    · rw [if_pos h]; exact h3 a c hac h
    · rw [if_neg h, if_pos (by omega)]
      obtain ⟨r, h4, h5⟩ := h2 a (by omega)
      omega
def KIni (k : Kw) : Prop := k.h = 0 ∧ k.q = false ∧ k.p = 0 ∧ k.T = [] ∧ k.tt = none ∧ GoodL k.L 4 ∧ (k.L.length = 0 ∨ ∃ g, k.al = some ⟨g, 0, none⟩) ∧ (k.L.length = 0 ∨ ∃ g, k.la = some ⟨g, 0, none⟩)
def KsOk (KL : List Kw) : Prop := ∀ j, j < KL.length → KIni (kat KL j)
theorem KsOk.snoc {KL : List Kw} {x : Kw} (H : KsOk KL) (hx : KIni x) : KsOk (KL ++ [x]) := by
  intro j hj
  simp only [List.length_append, List.length_singleton] at hj
  by_cases h : j < KL.length
  · rw [kat_init h]; exact H j h
  · obtain rfl : j = KL.length := by omega
    rw [kat_last]; exact hx
theorem KIni.bd {k : Kw} (H : KIni k) : I64s k.L := by
  intro i
  rcases Nat.lt_or_ge i k.L.length with h | h
  · obtain ⟨r, h1, h2⟩ := H.2.2.2.2.2.1.2.1 i h
    rw [h2]; omega
  · have e : k.L.getD i 0 = 0 := by simp [List.getD_eq_getElem?_getD, h]
    rw [e]; decide
theorem KIni.ok {k : Kw} (H : KIni k) : KOk k := by
  obtain ⟨h1, h2, h3, h4, _, ⟨g1, g2, g3⟩, _⟩ := H
  refine ⟨?_, g1, g2, g3⟩
  rw [h1, h2, h4]
  exact ⟨by omega, by omega, fun h => (by cases h), fun _ => rfl⟩
theorem FInv.begin {KL : List Kw} {Q : QS} {W : List Int} (H : KsOk KL) (wl : W.length = 16) (wa : ∀ r : Nat, r < 5 → W.getD (2 * r) 0 = aQ Q r % M32 ∧ W.getD (2 * r + 1) 0 = gQ Q r % M32) (h0 : ∀ r, r < 4 → aQ Q r = 0 ∧ gQ Q r = 0) (h4 : aQ Q 4 = 1 ∧ gQ Q 4 = 0) : FInv KL.length (kat KL) (aQ Q) (gQ Q) W := by
  have nH : ∀ i r, i < KL.length → ¬ Hold (kat KL i) r := by
    rintro i r hi ⟨j, hj, _⟩
    rw [(H i hi).1] at hj
    omega
  have nW : ∀ i r, i < KL.length → ¬ Wait (kat KL i) r := by
    rintro i r hi ⟨hq, _⟩
    rw [(H i hi).2.1] at hq
    cases hq
  refine ⟨fun i hi => (H i hi).ok, wl, wa, fun r hr => ?_, ?_, ?_, ?_, ?_, ?_, ?_⟩
  · by_cases e : r = 4
    · subst e; omega
    · have := h0 r (by omega); omega
  · intro i hi j r hj he; exact absurd ⟨j, hj, he⟩ (nH i r hi)
  · intro i hi r hw; exact absurd hw (nW i r hi)
  · intro i j r hi hj h1; exact absurd h1 (nH i r hi)
  · intro i j r hi hj h1; exact absurd h1 (nW i r hi)
  · intro i j r hi hj h1; exact absurd h1 (nH i r hi)
  · intro r hr p h1 h2
    have := h0 r hr
    omega

set_option maxHeartbeats 8000000 in
theorem begins_ok (w0 : World) (F : List Atom) (aM : Option Addr) (nM cM : Nat) (XM : List Int) (hIM : IR w0 F .i64 aM nM XM) (hbM : I64s XM) (hnM : nM ≤ 9223372036854775807) :
    CallK Try.prog 11 [.slice aM nM cM] w0 (F) (Gives w0 fun v F2 => ∃ la lc KL, v = .slice la KL.length lc ∧ F2 = Own 31 5 (.slice la KL.length lc) KL.length (knR KL) :: BigF KL.length (fun j => Blk (kat KL j).b (.cells [Value.slice (kat KL j).al (kat KL j).L.length (kat KL j).cl, .int .i64 (kat KL j).h, .bool (kat KL j).q, .slice (kat KL j).tt (kat KL j).T.length (kat KL j).ct].toArray 84 (0, 0))) :: BigF KL.length (fun j => Own 51 1 (.slice (kat KL j).tt (kat KL j).T.length (kat KL j).ct) (kat KL j).T.length (ints .u32 (kat KL j).T)) :: BigF KL.length (fun j => Own 3 1 (.slice (kat KL j).al (kat KL j).L.length (kat KL j).cl) (kat KL j).L.length (ints .i64 (kat KL j).L)) :: BigF KL.length (fun j => Own 3 1 (.slice (kat KL j).la (kat KL j).L.length (kat KL j).lc) (kat KL j).L.length (ints .i64 (kat KL j).L)) :: F ∧ KL.length ≤ 5 ∧ (KL.length = 0 ∨ ∃ g, la = some ⟨g, 0, none⟩) ∧ KsOk KL) := by
  have hlM := hIM.1
  refine c_enter Try.func11 rfl rfl rfl ?_
  refine g_seq ?_
  refine g_region ?_
  refine l_assign rfl rfl ?_
  refine l_nil ?_
  refine g_seq ?_
  refine g_region ?_
  refine l_assign rfl rfl ?_
  refine l_nil ?_
  refine g_seq ?_
  refine g_seq ?_
  refine g_region ?_
  refine l_assign rfl rfl ?_
  refine l_nil ?_
  refine g_block ?_
  refine g_own_nil 31 5 ?_
  refine g_loopk (X := Int × Option Addr × Nat × List Kw) [(0, _), (2, _)] (.cons rfl (.cons rfl (.nil))) (fun z => 0 ≤ z.1 ∧ z.1 ≤ nM ∧ z.1 ≤ 5 ∧ z.2.2.2.length = z.1 ∧ (z.2.2.2.length = 0 ∨ ∃ g, z.2.1 = some ⟨g, 0, none⟩) ∧ KsOk z.2.2.2) (fun z => (nM - z.1).toNat) (fun z => [(3, .slice z.2.1 z.2.2.2.length z.2.2.1), (4, .int .i64 z.1)]) (fun z => Own 31 5 (.slice z.2.1 z.2.2.2.length z.2.2.1) z.2.2.2.length (knR z.2.2.2) :: BigF z.2.2.2.length (fun j => Blk (kat z.2.2.2 j).b (.cells [Value.slice (kat z.2.2.2 j).al (kat z.2.2.2 j).L.length (kat z.2.2.2 j).cl, .int .i64 (kat z.2.2.2 j).h, .bool (kat z.2.2.2 j).q, .slice (kat z.2.2.2 j).tt (kat z.2.2.2 j).T.length (kat z.2.2.2 j).ct].toArray 84 (0, 0))) :: BigF z.2.2.2.length (fun j => Own 51 1 (.slice (kat z.2.2.2 j).tt (kat z.2.2.2 j).T.length (kat z.2.2.2 j).ct) (kat z.2.2.2 j).T.length (ints .u32 (kat z.2.2.2 j).T)) :: BigF z.2.2.2.length (fun j => Own 3 1 (.slice (kat z.2.2.2 j).al (kat z.2.2.2 j).L.length (kat z.2.2.2 j).cl) (kat z.2.2.2 j).L.length (ints .i64 (kat z.2.2.2 j).L)) :: BigF z.2.2.2.length (fun j => Own 3 1 (.slice (kat z.2.2.2 j).la (kat z.2.2.2 j).L.length (kat z.2.2.2 j).lc) (kat z.2.2.2 j).L.length (ints .i64 (kat z.2.2.2 j).L)) :: F) ((0, none, 0, [])) (⟨by simp only; omega, by simp only; omega, by simp only; omega, rfl, .inl rfl, fun j h => by simp at h⟩) (.cons rfl (.cons rfl .nil)) ((fun w hw => zero4 hw _ _ _ _)) ?_
  rintro ⟨i, la, lc, KL⟩ ⟨i0, i1, i2, hKl, hla, hK⟩ ih
  dsimp only [List.cons_append, List.nil_append] at ih ⊢
  simp only at i0 i1 i2 hKl hla hK
  refine g_seq ?_
  refine g_seq ?_
  refine g_region ?_
  refine l_move rfl rfl ?_
  refine l_move rfl rfl ?_
  refine l_len rfl Try.underlying23 rfl ?_
  refine l_lss rfl rfl rfl ?_
  refine l_move rfl rfl ?_
  refine l_split 11 rfl ?_ ?_
  · intro hbr
    have hbr := of_decide_eq_true hbr
    refine l_guard_yes rfl rfl ?_
    refine l_move rfl rfl ?_
    refine l_guard_yes rfl rfl ?_
    refine l_lss rfl rfl rfl ?_
    refine l_pick_t rfl rfl rfl ?_
    refine l_nil ?_
    refine g_cond rfl ?_ ?_
    · intro hbr
      have hbr := of_decide_eq_true hbr
      refine g_skip ?_
      refine g_seq ?_
      refine g_block ?_
      refine g_seq ?_
      refine g_region ?_
      refine l_build rfl rfl (fun w => bd_31_z w) ?_
      refine l_allocs rfl Try.zeroValue31 ?_; intro b5
      refine l_sts Try.sizeOf31 rfl rfl rfl rfl rfl ?_
      refine l_nil ?_
      refine g_seq ?_
      refine g_seq ?_
      refine g_region ?_
      refine l_assign rfl rfl ?_
      refine l_nil ?_
      refine g_block ?_
      refine g_wnil 3 .i64 ?_
      refine g_frontb b5 ?_
      refine g_loopk (X := Int × Option Addr × Nat × List Int) [(0, _), (2, _), (3, _), (4, _), (5, _), (7, _), (8, _), (9, _), (10, _), (11, _), (12, _), (13, _), (14, _), (17, _)] (.cons rfl (.cons rfl (.cons rfl (.cons rfl (.cons rfl (.cons rfl (.cons rfl (.cons rfl (.cons rfl (.cons rfl (.cons rfl (.cons rfl (.cons rfl (.cons rfl (.nil))))))))))))))) (fun z => 0 ≤ z.1 ∧ z.1 ≤ 4 ∧ GoodL z.2.2.2 z.1.toNat ∧ (z.2.2.2.length = 0 ∨ ∃ g, z.2.1 = some ⟨g, 0, none⟩)) (fun z => (4 - z.1).toNat) (fun z => [(6, .int .i64 z.1)]) (fun z => Blk b5 (.cells [Value.pointer none, .slice z.2.1 z.2.2.2.length z.2.2.1, .int .i64 0, .bool false, .int .i64 0].toArray 31 (0, 0)) :: Own 3 1 (.slice z.2.1 z.2.2.2.length z.2.2.1) z.2.2.2.length (ints .i64 z.2.2.2) :: Own 31 5 (.slice la KL.length lc) KL.length (knR KL) :: BigF KL.length (fun j => Blk (kat KL j).b (.cells [Value.slice (kat KL j).al (kat KL j).L.length (kat KL j).cl, .int .i64 (kat KL j).h, .bool (kat KL j).q, .slice (kat KL j).tt (kat KL j).T.length (kat KL j).ct].toArray 84 (0, 0))) :: BigF KL.length (fun j => Own 51 1 (.slice (kat KL j).tt (kat KL j).T.length (kat KL j).ct) (kat KL j).T.length (ints .u32 (kat KL j).T)) :: BigF KL.length (fun j => Own 3 1 (.slice (kat KL j).al (kat KL j).L.length (kat KL j).cl) (kat KL j).L.length (ints .i64 (kat KL j).L)) :: BigF KL.length (fun j => Own 3 1 (.slice (kat KL j).la (kat KL j).L.length (kat KL j).lc) (kat KL j).L.length (ints .i64 (kat KL j).L)) :: F) ((0, none, 0, [])) (⟨by simp only; omega, by simp only; omega, GoodL.zero, .inl rfl⟩) (.cons rfl .nil) ((fun w hw => hw)) ?_
      rintro ⟨j, lA, lC, L⟩ ⟨j0, j1, hGL, hlA⟩ ihj
      dsimp only [List.cons_append, List.nil_append] at ihj ⊢
      simp only at j0 j1 hGL hlA
      have hGl := hGL.1
      refine g_seq ?_
      refine g_seq ?_
      refine g_region ?_
      refine l_move rfl rfl ?_
      refine l_lss rfl rfl rfl ?_
      refine l_nil ?_
      refine g_cond rfl ?_ ?_
      · intro hbr
        have hbr := of_decide_eq_true hbr
        refine g_skip ?_
        refine g_seq ?_
        refine g_block ?_
        refine g_seq ?_
        refine g_region ?_
        refine l_move rfl rfl ?_
        refine l_move rfl rfl ?_
        obtain ⟨b9, o9, rfl, hr9⟩ := hIM.some (i := i.toNat) (by omega)
        have hb9 := hbM i.toNat
        refine l_ixs rfl Try.underlying23 Try.sizeOf3 rfl rfl (by omega) (by omega) ?_
        refine l_loadc rfl Try.isAgg3 rfl (word_any hr9 (by omega)) ?_
        refine l_call rfl Try.call12 rfl (pick_ok _ _ (XM.getD i.toNat 0) 16 (by omega) (by omega) (by omega) (by omega)) ?_; rintro _ F9 ⟨rfl, hF9⟩; rw [hF9]; clear hF9 F9
        have hp16 := pk_lt (XM.getD i.toNat 0) (show (0 : Int) < 16 by omega)
        refine l_move rfl rfl ?_
        refine l_conv rfl Try.underlying3 Try.underlying87 rfl (w_u64 (by omega) (by omega)) ?_
        refine l_shr rfl rfl rfl (by omega) rfl ?_
        refine l_ands rfl rfl rfl rfl ?_
        refine l_eql rfl rfl rfl ?_
        refine l_nil ?_
        refine g_cond rfl ?_ ?_
        · intro hbr
          have hbr := of_decide_eq_true hbr
          refine g_region ?_
          refine l_fieldAddr rfl fa_31_1 rfl ?_
          refine l_ld rfl Try.isAgg23 rfl rfl ?_
          refine l_frontv (.slice lA L.length lC) ?_
          refine l_move rfl rfl ?_
          first | refine l_mul rfl rfl rfl (w_i64 (by omega) (by omega)) ?_ | refine l_mulw rfl rfl rfl ?_
          refine l_buildSlice rfl Try.underlying23 Try.sizeOf3 Try.zeroValue3 rfl rfl rfl rfl rfl rfl ?_; intro b36
          refine l_does rfl (does_apps 1 (by_ := 8) (kd := .i64) (V := L) (W := [2 * j]) (m := L.length) (m2 := 1) (m3 := L.length + 1) (V3 := L ++ [2 * j]) Try.underlying23 Try.type3 rfl rfl rfl rfl rfl rfl rfl ⟨rfl, .inl ⟨_, _, _, rfl, .own (mem_getO 0 rfl)⟩⟩ (by omega) (by simp only [maxLen]; omega) (by omega) rfl (fun _ _ => rfl)) ?_
          rintro _ _ ⟨a37, c37, ha37, hn37, rfl, rfl⟩
          have e37 : L.length + 1 = (L ++ [2 * j]).length := by simp
          rw [e37] at ha37 ⊢
          have ha37' := ha37
          refine l_fieldAddr rfl fa_31_1 rfl ?_
          refine l_st Try.sizeOf23 rfl rfl rfl rfl ?_
          refine l_nil ?_
          refine g_inBlock ?_
          refine g_region ?_
          refine l_move rfl rfl ?_
          first | refine l_add rfl rfl rfl (w_i64 (by omega) (by omega)) ?_ | refine l_addw rfl rfl rfl ?_
          refine l_assign rfl rfl ?_
          refine l_nil ?_
          (first | exact g_againi (ihj (j + 1, a37, c37, L ++ [2 * j]) ⟨by simp only; omega, by simp only; omega, by simp only; rw [show (j + 1).toNat = j.toNat + 1 by omega, show 2 * j = 2 * ((j.toNat : Nat) : Int) by omega]; exact hGL.snoc, ha37'⟩ (by simp only; omega)) (.cons rfl (.cons rfl (.cons rfl (.cons rfl (.cons rfl (.cons rfl (.cons rfl (.cons rfl (.cons rfl (.cons rfl (.cons rfl (.cons rfl (.cons rfl (.cons rfl (.cons rfl (.nil)))))))))))))))) | exact g_againi (ihj (j + 1, lA, lC, L) ⟨by simp only; omega, by simp only; omega, by simp only; rw [show (j + 1).toNat = j.toNat + 1 by omega]; exact hGL.skip, hlA⟩ (by simp only; omega)) (.cons rfl (.cons rfl (.cons rfl (.cons rfl (.cons rfl (.cons rfl (.cons rfl (.cons rfl (.cons rfl (.cons rfl (.cons rfl (.cons rfl (.cons rfl (.cons rfl (.cons rfl (.nil)))))))))))))))))
        intro hbr
        have hbr := of_decide_eq_false hbr
        refine g_skip ?_
        refine g_inBlock ?_
        refine g_region ?_
        refine l_move rfl rfl ?_
        first | refine l_add rfl rfl rfl (w_i64 (by omega) (by omega)) ?_ | refine l_addw rfl rfl rfl ?_
        refine l_assign rfl rfl ?_
        refine l_nil ?_
        (first | exact g_againi (ihj (j + 1, a37, c37, L ++ [2 * j]) ⟨by simp only; omega, by simp only; omega, by simp only; rw [show (j + 1).toNat = j.toNat + 1 by omega, show 2 * j = 2 * ((j.toNat : Nat) : Int) by omega]; exact hGL.snoc, ha37'⟩ (by simp only; omega)) (.cons rfl (.cons rfl (.cons rfl (.cons rfl (.cons rfl (.cons rfl (.cons rfl (.cons rfl (.cons rfl (.cons rfl (.cons rfl (.cons rfl (.cons rfl (.cons rfl (.cons rfl (.nil)))))))))))))))) | exact g_againi (ihj (j + 1, lA, lC, L) ⟨by simp only; omega, by simp only; omega, by simp only; rw [show (j + 1).toNat = j.toNat + 1 by omega]; exact hGL.skip, hlA⟩ (by simp only; omega)) (.cons rfl (.cons rfl (.cons rfl (.cons rfl (.cons rfl (.cons rfl (.cons rfl (.cons rfl (.cons rfl (.cons rfl (.cons rfl (.cons rfl (.cons rfl (.cons rfl (.cons rfl (.nil)))))))))))))))))
      intro hbr
      have hbr := of_decide_eq_false hbr
      refine g_exit rfl ?_
      obtain rfl : j = 4 := by omega
      refine g_seq ?_
      refine g_region ?_
      refine l_fieldAddr rfl fa_31_1 rfl ?_
      refine l_ld rfl Try.isAgg23 rfl rfl ?_
      refine l_frontv (.slice lA L.length lC) ?_
      refine l_call rfl Try.call8 rfl (lnew_ok _ _ lA lC L (by omega)) ?_; rintro _ _ ⟨bC, alC, clC, rfl, halC, rfl⟩
      refine l_fieldAddr rfl fa_31_0 rfl ?_
      refine l_st Try.sizeOf28 rfl rfl rfl rfl ?_
      refine l_nil ?_
      refine g_region ?_
      refine l_move rfl rfl ?_
      refine l_lds rfl Try.isAgg31 Try.sizeOf31 rfl rfl ?_
      refine l_frontv (.slice la KL.length lc) ?_
      refine l_buildSlice rfl Try.underlying35 Try.sizeOf31 Try.zeroValue31 rfl rfl rfl rfl rfl rfl ?_; intro b45
      refine l_append 1 (sz := 5) (by_ := 56) (m2 := 1) (news := knV (Kw.mk bC alC clC lA lC L 0 false 0 none 0 [])) rfl Try.underlying35 Try.type31 rfl rfl rfl rfl rfl rfl rfl rfl ⟨rfl, .inl ⟨_, _, _, rfl, .own (mem_getO 0 rfl)⟩⟩ rfl (by omega) (by simp only [maxLen]; omega) (fun _ => rfl) ?_; intro v46 hv46
      refine l_fact (own_cases (mem_getO 1 rfl)) ?_
      rintro ⟨_, _, hv | ⟨g46, c46, rfl, hc46⟩⟩
      · exact absurd (hv46.1 hv.1).2 (by omega)
      rw [knR_snoc]
      refine l_assign rfl rfl ?_
      refine l_nil ?_
      refine g_inBlock ?_
      refine g_region ?_
      refine l_move rfl rfl ?_
      first | refine l_add rfl rfl rfl (w_i64 (by omega) (by omega)) ?_ | refine l_addw rfl rfl rfl ?_
      refine l_assign rfl rfl ?_
      refine l_nil ?_
      have e9 : (KL ++ [(Kw.mk bC alC clC lA lC L 0 false 0 none 0 [])]).length = KL.length + 1 := by simp
      refine g_heap (F' := Own 31 5 (.slice (some ⟨g46, 0, none⟩) (KL ++ [(Kw.mk bC alC clC lA lC L 0 false 0 none 0 [])]).length c46) (KL ++ [(Kw.mk bC alC clC lA lC L 0 false 0 none 0 [])]).length (knR (KL ++ [(Kw.mk bC alC clC lA lC L 0 false 0 none 0 [])])) :: BigF (KL ++ [(Kw.mk bC alC clC lA lC L 0 false 0 none 0 [])]).length (fun j => Blk (kat (KL ++ [(Kw.mk bC alC clC lA lC L 0 false 0 none 0 [])]) j).b (.cells [Value.slice (kat (KL ++ [(Kw.mk bC alC clC lA lC L 0 false 0 none 0 [])]) j).al (kat (KL ++ [(Kw.mk bC alC clC lA lC L 0 false 0 none 0 [])]) j).L.length (kat (KL ++ [(Kw.mk bC alC clC lA lC L 0 false 0 none 0 [])]) j).cl, .int .i64 (kat (KL ++ [(Kw.mk bC alC clC lA lC L 0 false 0 none 0 [])]) j).h, .bool (kat (KL ++ [(Kw.mk bC alC clC lA lC L 0 false 0 none 0 [])]) j).q, .slice (kat (KL ++ [(Kw.mk bC alC clC lA lC L 0 false 0 none 0 [])]) j).tt (kat (KL ++ [(Kw.mk bC alC clC lA lC L 0 false 0 none 0 [])]) j).T.length (kat (KL ++ [(Kw.mk bC alC clC lA lC L 0 false 0 none 0 [])]) j).ct].toArray 84 (0, 0))) :: BigF (KL ++ [(Kw.mk bC alC clC lA lC L 0 false 0 none 0 [])]).length (fun j => Own 51 1 (.slice (kat (KL ++ [(Kw.mk bC alC clC lA lC L 0 false 0 none 0 [])]) j).tt (kat (KL ++ [(Kw.mk bC alC clC lA lC L 0 false 0 none 0 [])]) j).T.length (kat (KL ++ [(Kw.mk bC alC clC lA lC L 0 false 0 none 0 [])]) j).ct) (kat (KL ++ [(Kw.mk bC alC clC lA lC L 0 false 0 none 0 [])]) j).T.length (ints .u32 (kat (KL ++ [(Kw.mk bC alC clC lA lC L 0 false 0 none 0 [])]) j).T)) :: BigF (KL ++ [(Kw.mk bC alC clC lA lC L 0 false 0 none 0 [])]).length (fun j => Own 3 1 (.slice (kat (KL ++ [(Kw.mk bC alC clC lA lC L 0 false 0 none 0 [])]) j).al (kat (KL ++ [(Kw.mk bC alC clC lA lC L 0 false 0 none 0 [])]) j).L.length (kat (KL ++ [(Kw.mk bC alC clC lA lC L 0 false 0 none 0 [])]) j).cl) (kat (KL ++ [(Kw.mk bC alC clC lA lC L 0 false 0 none 0 [])]) j).L.length (ints .i64 (kat (KL ++ [(Kw.mk bC alC clC lA lC L 0 false 0 none 0 [])]) j).L)) :: BigF (KL ++ [(Kw.mk bC alC clC lA lC L 0 false 0 none 0 [])]).length (fun j => Own 3 1 (.slice (kat (KL ++ [(Kw.mk bC alC clC lA lC L 0 false 0 none 0 [])]) j).la (kat (KL ++ [(Kw.mk bC alC clC lA lC L 0 false 0 none 0 [])]) j).L.length (kat (KL ++ [(Kw.mk bC alC clC lA lC L 0 false 0 none 0 [])]) j).lc) (kat (KL ++ [(Kw.mk bC alC clC lA lC L 0 false 0 none 0 [])]) j).L.length (ints .i64 (kat (KL ++ [(Kw.mk bC alC clC lA lC L 0 false 0 none 0 [])]) j).L)) :: F) (fun w hw => ?_) ?_
      · rw [e9]
        exact snoc4 (SPI.holds (F' := Blk (Kw.mk bC alC clC lA lC L 0 false 0 none 0 []).b (.cells [Value.slice (Kw.mk bC alC clC lA lC L 0 false 0 none 0 []).al (Kw.mk bC alC clC lA lC L 0 false 0 none 0 []).L.length (Kw.mk bC alC clC lA lC L 0 false 0 none 0 []).cl, .int .i64 (Kw.mk bC alC clC lA lC L 0 false 0 none 0 []).h, .bool (Kw.mk bC alC clC lA lC L 0 false 0 none 0 []).q, .slice (Kw.mk bC alC clC lA lC L 0 false 0 none 0 []).tt (Kw.mk bC alC clC lA lC L 0 false 0 none 0 []).T.length (Kw.mk bC alC clC lA lC L 0 false 0 none 0 []).ct].toArray 84 (0, 0)) :: BigF KL.length (fun j => Blk (kat KL j).b (.cells [Value.slice (kat KL j).al (kat KL j).L.length (kat KL j).cl, .int .i64 (kat KL j).h, .bool (kat KL j).q, .slice (kat KL j).tt (kat KL j).T.length (kat KL j).ct].toArray 84 (0, 0))) :: Own 51 1 (.slice (Kw.mk bC alC clC lA lC L 0 false 0 none 0 []).tt (Kw.mk bC alC clC lA lC L 0 false 0 none 0 []).T.length (Kw.mk bC alC clC lA lC L 0 false 0 none 0 []).ct) (Kw.mk bC alC clC lA lC L 0 false 0 none 0 []).T.length (ints .u32 (Kw.mk bC alC clC lA lC L 0 false 0 none 0 []).T) :: BigF KL.length (fun j => Own 51 1 (.slice (kat KL j).tt (kat KL j).T.length (kat KL j).ct) (kat KL j).T.length (ints .u32 (kat KL j).T)) :: Own 3 1 (.slice (Kw.mk bC alC clC lA lC L 0 false 0 none 0 []).al (Kw.mk bC alC clC lA lC L 0 false 0 none 0 []).L.length (Kw.mk bC alC clC lA lC L 0 false 0 none 0 []).cl) (Kw.mk bC alC clC lA lC L 0 false 0 none 0 []).L.length (ints .i64 (Kw.mk bC alC clC lA lC L 0 false 0 none 0 []).L) :: BigF KL.length (fun j => Own 3 1 (.slice (kat KL j).al (kat KL j).L.length (kat KL j).cl) (kat KL j).L.length (ints .i64 (kat KL j).L)) :: Own 3 1 (.slice (Kw.mk bC alC clC lA lC L 0 false 0 none 0 []).la (Kw.mk bC alC clC lA lC L 0 false 0 none 0 []).L.length (Kw.mk bC alC clC lA lC L 0 false 0 none 0 []).lc) (Kw.mk bC alC clC lA lC L 0 false 0 none 0 []).L.length (ints .i64 (Kw.mk bC alC clC lA lC L 0 false 0 none 0 []).L) :: BigF KL.length (fun j => Own 3 1 (.slice (kat KL j).la (kat KL j).L.length (kat KL j).lc) (kat KL j).L.length (ints .i64 (kat KL j).L)) :: Own 31 5 (.slice (some ⟨g46, 0, none⟩) (KL.length + 1) c46) (KL.length + 1) (knR (KL ++ [(Kw.mk bC alC clC lA lC L 0 false 0 none 0 [])])) :: F) hw) (by simp only [kat_last]) (fun k hk => by simp only [kat_init hk]) (by simp only [kat_last]) (fun k hk => by simp only [kat_init hk]) (by simp only [kat_last]) (fun k hk => by simp only [kat_init hk]) (by simp only [kat_last]) (fun k hk => by simp only [kat_init hk])
      rw [← e9]
      exact g_againi (ih (i + 1, some ⟨g46, 0, none⟩, c46, KL ++ [(Kw.mk bC alC clC lA lC L 0 false 0 none 0 [])]) ⟨by simp only; omega, by simp only; omega, by simp only; omega, by simp only [e9]; omega, .inr ⟨_, rfl⟩, hK.snoc ⟨rfl, rfl, rfl, rfl, rfl, hGL, halC, hlA⟩⟩ (by simp only; omega)) (.cons rfl (.cons rfl (.cons rfl (.cons rfl (.nil)))))
    intro hbr
    have hbr := of_decide_eq_false hbr
    refine g_exit rfl ?_
    refine g_seq ?_
    refine g_region ?_
    refine l_move rfl rfl ?_
    refine l_assign rfl rfl ?_
    refine l_nil ?_
    refine g_ret Try.func11 rfl (.tmp rfl .nil) ?_
    exact Gives.mki ⟨la, lc, KL, rfl, rfl, by omega, hla, hK⟩
  intro hbr
  have hbr := of_decide_eq_false hbr
  refine l_guard_no rfl rfl rfl ?_
  refine l_guard_no rfl rfl rfl ?_
  refine l_pick_f rfl rfl rfl ?_
  refine l_nil ?_
  refine g_cond_f rfl ?_
  refine g_exit rfl ?_
  refine g_seq ?_
  refine g_region ?_
  refine l_move rfl rfl ?_
  refine l_assign rfl rfl ?_
  refine l_nil ?_
  refine g_ret Try.func11 rfl (.tmp rfl .nil) ?_
  exact Gives.mki ⟨la, lc, KL, rfl, rfl, by omega, hla, hK⟩
end Go.Proofs.Ythemlddepepekaa.Fw
