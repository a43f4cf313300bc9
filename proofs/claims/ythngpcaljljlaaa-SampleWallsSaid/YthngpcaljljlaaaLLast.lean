import Derived.Test.YthngpcaljljlaaaLKeeps
namespace Go.Proofs.Ythngpcaljljlaaa.Fw
open Go Go.Proofs
set_option linter.unusedVariables false
set_option linter.unusedSimpArgs false
set_option maxRecDepth 10000
theorem fa_43_0 (a : Addr) (w : World) : (Instr.fieldAt 43 (.pointer (some a)) 0).run Try.prog w = .ok (.pointer (some (a.add 0))) w := by
  simp [Instr.fieldAt, Try.runUnderlying43, Instr.sureAddr, fieldPlace, Try.sizeOf4, Sem.run_bind, Sem.run_pure]
theorem fa_43_1 (a : Addr) (w : World) : (Instr.fieldAt 43 (.pointer (some a)) 1).run Try.prog w = .ok (.pointer (some (a.add 1))) w := by
  simp [Instr.fieldAt, Try.runUnderlying43, Instr.sureAddr, fieldPlace, Try.sizeOf29, Sem.run_bind, Sem.run_pure]
/- The law SampleLast's memory: a stage at 3, ports behind it. -/
def prt (wd : Int) (i : Nat) : Int := 5 + wd + i * (3 + wd)
def stR (S : List Int) (wd : Int) : List Int := if S = [] then List.replicate (2 + wd).toNat 0 else stageW S wd
def poR (H : List Int) (wd : Int) (f : Bool) : List Int := if H = [] then List.replicate (3 + wd).toNat 0 else if f then portW H wd else (portW H wd).set 1 0
structure PInv (W : List Int) (wd : Int) (q : Nat) (S H : List Int) (f : Bool) : Prop where
  len : W.length = 112
  u32 : W32s W
  st : part W 3 (2 + wd) = stR S wd
  po : ∀ i, i < q → part W (prt wd i) (3 + wd) = poR H wd f
theorem held_z {n h : Nat} : heldV (List.replicate n 0) h = some [] := heldV_z fun i _ => rep_getD n i
theorem held_port0 {M : List Int} {wd : Int} (h1 : 1 ≤ M.length) (h2 : (M.length : Int) ≤ wd) : heldV ((portW M wd).set 1 0) 3 = some M := by
  have hl := portW_len h1 h2
  have hg : ∀ i, ((portW M wd).set 1 0).getD i 0 = if 3 ≤ i ∧ i < 3 + M.length then M.getD (i - 3) 0 else if i = 2 then (M.length : Int) else if i = 0 then 1 else 0 := fun i => by
    rw [set_getD (by omega), port_getD h1 h2]
    by_cases h : 1 = i
    · subst h; simp
    · rw [if_neg h]
      split
      · rfl
      · split
        · rfl
        · rw [if_neg (by omega)]
  have g0 : ((portW M wd).set 1 0).getD 0 0 = 1 := by rw [hg]; simp
  have g1 : ((portW M wd).set 1 0).getD 1 0 = 0 := by rw [hg]; simp
  have g2 : ((portW M wd).set 1 0).getD 2 0 = (M.length : Int) := by rw [hg]; simp
  have hm : msgN ((portW M wd).set 1 0) 3 = M.length := by unfold msgN; rw [show 3 - 1 = 2 from rfl, g2]; rfl
  have hsl : ((portW M wd).set 1 0).length = (3 + wd).toNat := by rw [List.length_set, hl]
  rw [heldV_msg (fun h => by have := h 0 (by omega); omega) g0 (by omega) ⟨by omega, by rw [hm]; omega, fun i hi _ => by rw [hm] at hi; rw [hg, if_neg (by omega), if_neg (by omega), if_neg (by omega)]⟩, hm]
  rw [take_drop_eq (by omega) fun i hi => by rw [hg, if_pos ⟨by omega, by omega⟩]; congr 1; omega]
theorem stR_held {S : List Int} {wd : Int} (h2 : (S.length : Int) ≤ wd) : heldV (stR S wd) 2 = some S := by
  unfold stR
  split
  · rename_i h; rw [h]; exact held_z
  · rename_i h
    exact held_stage (by cases S; exact absurd rfl h; simp) h2
theorem poR_held {H : List Int} {wd : Int} {f : Bool} (h2 : (H.length : Int) ≤ wd) : heldV (poR H wd f) 3 = some H := by
  unfold poR
  split
  · rename_i h; rw [h]; exact held_z
  · rename_i h
    have h1 : 1 ≤ H.length := by cases H; exact absurd rfl h; simp
    split
    · exact held_port h1 h2
    · exact held_port0 h1 h2
theorem stR_len {S : List Int} {wd : Int} (h2 : (S.length : Int) ≤ wd) : (stR S wd).length = (2 + wd).toNat := by
  unfold stR
  split
  · simp
  · rename_i h; exact stageW_len (by cases S; exact absurd rfl h; simp) h2
theorem prt_in {wd : Int} (h1 : 1 ≤ wd) (h2 : wd ≤ 16) {i q : Nat} (hq : q ≤ 4) (hi : i < q) : 5 + wd ≤ prt wd i ∧ prt wd i + (3 + wd) ≤ 112 := by
  unfold prt
  have : (i : Int) * (3 + wd) ≤ 3 * (3 + wd) := Int.mul_le_mul_of_nonneg_right (by omega) (by omega)
  have : 0 ≤ (i : Int) * (3 + wd) := Int.mul_nonneg (by omega) (by omega)
  omega
theorem prt_lt {wd : Int} (h1 : 1 ≤ wd) {i j : Nat} (h : j < i) : prt wd j + (3 + wd) ≤ prt wd i := by
  unfold prt
  obtain ⟨d, rfl⟩ : ∃ d : Nat, i = j + 1 + d := ⟨i - j - 1, by omega⟩
  have : 0 ≤ (d : Int) * (3 + wd) := Int.mul_nonneg (by omega) (by omega)
  have e : ((j + 1 + d : Nat) : Int) * (3 + wd) = (j : Int) * (3 + wd) + (3 + wd) + (d : Int) * (3 + wd) := by
    rw [show ((j + 1 + d : Nat) : Int) = (j : Int) + 1 + d by omega, Int.add_mul, Int.add_mul, Int.one_mul]
  omega
theorem spl_u32 {o : Nat} {Y W : List Int} (ho : o + Y.length ≤ W.length) (h1 : W32s Y) (h2 : W32s W) : W32s (spl o Y W) := fun i => by
  rw [spl_getD ho]
  split
  · exact h1 _
  · exact h2 _
theorem rep_w32 (n : Nat) : W32s (List.replicate n 0) := fun i => by rw [rep_getD]; decide
theorem stageW_u {M : List Int} {wd : Int} (hU : W32s M) (h1 : 1 ≤ M.length) (h2 : (M.length : Int) ≤ wd) (h3 : wd ≤ 16) : W32s (stageW M wd) := fun i => by
  rw [stage_getD h1 h2]
  split
  · exact hU _
  · split
    · omega
    · split <;> decide
theorem portW_u {M : List Int} {wd : Int} (hU : W32s M) (h1 : 1 ≤ M.length) (h2 : (M.length : Int) ≤ wd) (h3 : wd ≤ 16) : W32s (portW M wd) := fun i => by
  rw [port_getD h1 h2]
  split
  · exact hU _
  · split
    · omega
    · split
      · decide
      · split <;> decide
theorem part_rep {a k : Int} (h0 : 0 ≤ a) (h1 : a + k ≤ 112) : part (List.replicate 112 0) a k = List.replicate k.toNat 0 := by
  refine getD_ext (by unfold part; simp only [List.length_take, List.length_drop, List.length_replicate]; omega) fun j hj => ?_
  simp only [List.length_replicate] at hj
  rw [part_getD hj, rep_getD, rep_getD]
/-- The beginning. -/
theorem PInv.zero {wd : Int} {q : Nat} (h1 : 1 ≤ wd) (h2 : wd ≤ 16) (hq : q ≤ 4) : PInv (List.replicate 112 0) wd q [] [] false :=
  ⟨by simp, rep_w32 112, by rw [part_rep (by omega) (by omega)]; rfl, fun i hi => by
    have := prt_in h1 h2 hq hi
    rw [part_rep (by omega) (by omega)]; rfl⟩
theorem PInv.put {W M W2 S H : List Int} {wd : Int} {q : Nat} {f : Bool} {e : Int} (h : PInv W wd q S H f) (h1 : 1 ≤ wd) (h2 : wd ≤ 16) (hq : q ≤ 4) (hS : (S.length : Int) ≤ wd) (hM1 : 1 ≤ M.length) (hM2 : (M.length : Int) ≤ wd) (hMU : W32s M) (hP : PutG W 112 3 wd M W2 e) : e = 0 ∧ PInv W2 wd q M H f := by
  have hw : WdOk wd := ⟨h1, h2⟩
  have hi : inR 112 3 (2 + wd) := by unfold inR; omega
  have hsl := stageW_len hM1 hM2
  rcases hP with hP | hP | hP | hP | hP
  · exact absurd hw hP.1
  · exact absurd hi hP.2.1
  · exact absurd ⟨hM1, hM2⟩ hP.2.2.1
  · have := hP.2.2.2.1; rw [h.st, stR_held hS] at this; cases this
  · obtain ⟨_, _, _, _, he, rfl⟩ := hP
    have ho : (3 : Int).toNat + (stageW M wd).length ≤ W.length := by rw [hsl, h.len]; omega
    refine ⟨he, by rw [spl_length ho]; exact h.len, spl_u32 ho (stageW_u hMU hM1 hM2 h2) h.u32, ?_, fun i hi => ?_⟩
    · rw [part_same ho (by rw [hsl])]
      unfold stR
      rw [if_neg (by rintro rfl; simp at hM1)]
    · have := prt_in h1 h2 hq hi
      rw [part_spl ho (.inr (by rw [hsl]; omega))]
      exact h.po i hi
theorem part_set {W : List Int} {a : Nat} {x p k : Int} (h0 : 0 ≤ p) (h1 : p ≤ a) (h2 : a < p + k) (ha : a < W.length) (hp : p + k ≤ W.length) : part (W.set a x) p k = (part W p k).set (a - p.toNat) x := by
  refine getD_ext (by unfold part; simp only [List.length_take, List.length_drop, List.length_set]) fun j hj => ?_
  have hl : (part W p k).length = k.toNat := by unfold part; simp only [List.length_take, List.length_drop]; omega
  rw [List.length_set, hl] at hj
  rw [part_getD hj, set_getD ha, set_getD (by rw [hl]; omega), part_getD hj]
  by_cases h : a = p.toNat + j
  · rw [if_pos h, if_pos (by omega)]
  · rw [if_neg h, if_neg (by omega)]
theorem part_set_out {W : List Int} {a : Nat} {x p k : Int} (ha : a < W.length) (h : p.toNat + k.toNat ≤ a ∨ a < p.toNat) : part (W.set a x) p k = part W p k := by
  rw [← spl_one ha]
  exact part_spl (by simp only [List.length_cons, List.length_nil]; omega) (by simp only [List.length_cons, List.length_nil]; omega)
theorem poR_clear {H : List Int} {wd : Int} {f : Bool} : (poR H wd f).set 1 0 = poR H wd false := by
  unfold poR
  split
  · refine getD_ext (by simp) fun j hj => ?_
    rcases Nat.lt_or_ge 1 (List.replicate (3 + wd).toNat (0 : Int)).length with h | h
    · rw [set_getD h, rep_getD]; split <;> rfl
    · rw [List.set_eq_of_length_le h]
  · cases f <;> simp
theorem PInv.clear {W P S H : List Int} {wd : Int} {q : Nat} {f : Bool} (h : PInv W wd q S H f) (h1 : 1 ≤ wd) (h2 : wd ≤ 16) (hq : q ≤ 4) (hP : ∀ i, i < q → pAt P i = prt wd i) : ∀ k, k ≤ q → (clearP W P k).length = 112 ∧ W32s (clearP W P k) ∧ part (clearP W P k) 3 (2 + wd) = stR S wd ∧ (∀ i, i < q → part (clearP W P k) (prt wd i) (3 + wd) = if i < k then poR H wd false else poR H wd f)
  | 0, _ => ⟨h.len, h.u32, h.st, fun i hi => by rw [if_neg (by omega)]; exact h.po i hi⟩
  | k + 1, hk => by
    obtain ⟨c1, c2, c3, c4⟩ := PInv.clear h h1 h2 hq hP k (by omega)
    have hp := hP k (by omega)
    have hb := prt_in h1 h2 hq (show k < q by omega)
    simp only [clearP]
    rw [hp]
    refine ⟨by rw [List.length_set]; exact c1, fun i => ?_, ?_, fun i hi => ?_⟩
    · rw [set_getD (by omega)]
      split
      · decide
      · exact c2 i
    · rw [part_set_out (by omega) (.inl (by omega))]; exact c3
    · have hb2 := prt_in h1 h2 hq hi
      rcases Nat.lt_trichotomy i k with hlt | rfl | hlt
      · have := prt_lt h1 hlt
        rw [part_set_out (by omega) (.inl (by omega)), c4 i hi, if_pos hlt, if_pos (by omega)]
      · rw [part_set (by omega) (by omega) (by omega) (by omega) (by omega), c4 i hi, if_neg (by omega), if_pos (by omega), show (prt wd i + 1).toNat - (prt wd i).toNat = 1 by omega, poR_clear]
      · have := prt_lt h1 hlt
        rw [part_set_out (by omega) (.inr (by omega)), c4 i hi, if_neg (by omega), if_neg (by omega)]
theorem PInv.lay {W P Y S H : List Int} {wd : Int} {q : Nat} {f : Bool} (h : PInv W wd q S H f) (h1 : 1 ≤ wd) (h2 : wd ≤ 16) (hq : q ≤ 4) (hP : ∀ i, i < q → pAt P i = prt wd i) (hY : Y.length = (3 + wd).toNat) (hYU : W32s Y) : ∀ k, k ≤ q → (layP W P Y k).length = 112 ∧ W32s (layP W P Y k) ∧ (∀ i, i < q → part (layP W P Y k) (prt wd i) (3 + wd) = if i < k then Y else poR H wd f)
  | 0, _ => ⟨h.len, h.u32, fun i hi => by rw [if_neg (by omega)]; exact h.po i hi⟩
  | k + 1, hk => by
    obtain ⟨c1, c2, c4⟩ := PInv.lay h h1 h2 hq hP hY hYU k (by omega)
    have hp := hP k (by omega)
    have hb := prt_in h1 h2 hq (show k < q by omega)
    simp only [layP]
    rw [hp]
    have ho : (prt wd k).toNat + Y.length ≤ (layP W P Y k).length := by rw [c1, hY]; omega
    refine ⟨by rw [spl_length ho]; exact c1, spl_u32 ho hYU c2, fun i hi => ?_⟩
    have hb2 := prt_in h1 h2 hq hi
    rcases Nat.lt_trichotomy i k with hlt | rfl | hlt
    · have := prt_lt h1 hlt
      rw [part_spl ho (.inl (by omega)), c4 i hi, if_pos hlt, if_pos (by omega)]
    · rw [part_same ho (by rw [hY]), if_pos (by omega)]
    · have := prt_lt h1 hlt
      rw [part_spl ho (.inr (by rw [hY]; omega)), c4 i hi, if_neg (by omega), if_neg (by omega)]
theorem PInv.ready {W P S H : List Int} {wd : Int} {q : Nat} {f : Bool} {e : Int} (h : PInv W wd q S H f) (h1 : 1 ≤ wd) (h2 : wd ≤ 16) (hq : q ≤ 4) (hq1 : 1 ≤ q) (hH : (H.length : Int) ≤ wd) (hP : ∀ i, i < q → pAt P i = prt wd i) (hR : ReadyG W 112 3 wd P q e) : e = 0 := by
  rcases hR with ⟨_, hR⟩ | ⟨_, _, hR⟩ | ⟨_, _, hR⟩ | hR
  · exact absurd (show CntOk wd q from ⟨⟨h1, h2⟩, hq1, hq⟩) hR
  · rcases hR with hR | ⟨i, hi, hR⟩
    · exact absurd (show inR 112 3 (2 + wd) by unfold inR; omega) hR
    · have := prt_in h1 h2 hq hi
      rw [hP i hi] at hR
      exact absurd (show inR 112 (prt wd i) (3 + wd) by unfold inR; omega) hR
  · rcases hR with hR | ⟨i, hi, hR⟩
    · refine absurd (fun i hi => ⟨?_, fun j hj => ?_⟩) hR
      · have := prt_in h1 h2 hq hi
        rw [hP i hi]; omega
      · have := prt_lt h1 hj
        rw [hP i hi, hP j (by omega)]; omega
    · rw [hP i hi, h.po i hi, poR_held hH] at hR; cases hR
  · exact hR.1
theorem PInv.deliver {W P W2 S H : List Int} {wd : Int} {q : Nat} {f : Bool} {e : Int} (h : PInv W wd q S H f) (h1 : 1 ≤ wd) (h2 : wd ≤ 16) (hq : q ≤ 4) (hq1 : 1 ≤ q) (hS : (S.length : Int) ≤ wd) (hH : (H.length : Int) ≤ wd) (hSU : W32s S) (hP : ∀ i, i < q → pAt P i = prt wd i) (hD : DelG W 112 3 wd P q W2 e) : e = 0 ∧ PInv W2 wd q [] (if S = [] then H else S) (if S = [] then false else true) := by
  have hs : heldV (part W 3 (2 + wd)) 2 = some S := by rw [h.st, stR_held hS]
  rcases hD with ⟨he, _, hD⟩ | ⟨he, _, hD⟩
  · rcases hD with hD | ⟨_, _, hD⟩
    · exact absurd (h.ready h1 h2 hq hq1 hH hP hD) he
    · rw [hs] at hD; cases hD
  · refine ⟨he, ?_⟩
    rcases hD with ⟨hD, rfl⟩ | ⟨T, hD, hT, rfl⟩
    · rw [hs] at hD; injection hD with hD
      obtain ⟨c1, c2, c3, c4⟩ := h.clear h1 h2 hq hP q (Nat.le_refl _)
      rw [if_pos hD, if_pos hD]
      exact ⟨c1, c2, by rw [c3, hD], fun i hi => by rw [c4 i hi, if_pos hi]⟩
    · rw [hs] at hD; injection hD with hD; subst hD
      have hn : S ≠ [] := by rintro rfl; simp at hT
      have hY := portW_len hT hS
      obtain ⟨c1, c2, c4⟩ := h.lay h1 h2 hq hP hY (portW_u hSU hT hS h2) q (Nat.le_refl _)
      rw [if_neg hn, if_neg hn]
      have ho : (3 : Int).toNat + (List.replicate (2 + wd).toNat (0 : Int)).length ≤ (layP W P (portW S wd) q).length := by rw [c1]; simp; omega
      refine ⟨by rw [spl_length ho]; exact c1, spl_u32 ho (rep_w32 _) c2, ?_, fun i hi => ?_⟩
      · rw [part_same ho (by simp)]; rfl
      · have := prt_in h1 h2 hq hi
        rw [part_spl ho (.inr (by simp; omega)), c4 i hi, if_pos hi]
        unfold poR
        rw [if_neg hn, if_pos rfl]
theorem PInv.staged {W S H : List Int} {wd : Int} {q : Nat} {f : Bool} {k e : Int} (h : PInv W wd q S H f) (h1 : 1 ≤ wd) (h2 : wd ≤ 16) (hS : (S.length : Int) ≤ wd) (hG : StgG W 112 3 wd k e) : e = 0 ∧ k = min (S.length : Int) 1 := by
  have hs : heldV (part W 3 (((2 : Nat) : Int) + wd)) 2 = some S := by
    show heldV (part W 3 (2 + wd)) 2 = some S
    rw [h.st, stR_held hS]
  rcases hG with ⟨hG, _⟩ | ⟨_, T, hG, hk⟩
  · exact absurd ⟨h1, h2⟩ hG
  · rcases hG with ⟨_, _, hG⟩ | ⟨_, _, _, hG⟩ | ⟨he, _, hG⟩
    · exact absurd (show inR 112 3 (((2 : Nat) : Int) + wd) by unfold inR; omega) hG
    · rw [hs] at hG; cases hG
    · rw [hs] at hG; injection hG with hG; subst hG; exact ⟨he, hk⟩
theorem PInv.read {W S H T : List Int} {wd : Int} {q i : Nat} {f fr th : Bool} {e : Int} (h : PInv W wd q S H f) (h1 : 1 ≤ wd) (h2 : wd ≤ 16) (hq : q ≤ 4) (hH : (H.length : Int) ≤ wd) (hf : H = [] → f = false) (hi : i < q) (hG : RdpG W 112 (prt wd i) wd T fr th e) : e = 0 ∧ T = H ∧ th = decide (0 < (H.length : Int)) ∧ fr = f := by
  have hb := prt_in h1 h2 hq hi
  have hpo := h.po i hi
  have hs : heldV (part W (prt wd i) (((3 : Nat) : Int) + wd)) 3 = some H := by
    show heldV (part W (prt wd i) (3 + wd)) 3 = some H
    rw [hpo, poR_held hH]
  have hin : inR 112 (prt wd i) (((3 : Nat) : Int) + wd) := by unfold inR; omega
  have key : ∀ {T e}, ReadG W 112 (prt wd i) wd 3 T e → T = H ∧ e = 0 := by
    intro T e h
    rcases h with ⟨_, _, h⟩ | ⟨_, _, _, h⟩ | ⟨he, _, h⟩
    · exact absurd hin h
    · rw [hs] at h; cases h
    · rw [hs] at h; injection h with h; exact ⟨h.symm, he⟩
  rcases hG with ⟨_, hG, _⟩ | ⟨_, hT, hfr, hth, hG⟩ | ⟨_, he, hT1, hth, hG, hfr⟩
  · exact absurd ⟨h1, h2⟩ hG
  · obtain ⟨k1, k2⟩ := key hG
    have hHe : H = [] := by rw [← k1, hT]
    exact ⟨k2, k1, by rw [hth, hHe]; rfl, by rw [hfr, hf hHe]⟩
  · obtain ⟨k1, k2⟩ := key hG
    subst k1
    refine ⟨he, rfl, by rw [hth]; exact (decide_eq_true (by omega)).symm, ?_⟩
    have hn : T ≠ [] := by rintro rfl; simp at hT1
    have hg : W.getD (prt wd i + 1).toNat 0 = (part W (prt wd i) (3 + wd)).getD 1 0 := by rw [part_getD (by omega), show (prt wd i).toNat + 1 = (prt wd i + 1).toNat by omega]
    rw [hfr, hg, hpo]
    unfold poR
    rw [if_neg hn]
    have hl := portW_len hT1 hH
    cases f with
    | true => rw [if_pos rfl, port_getD hT1 hH]; simp
    | false => rw [if_neg (by simp), set_getD (by omega), if_pos rfl]; simp

set_option maxHeartbeats 4000000 in
theorem all_ok (w0 : World) (F : List Atom) (b g c : Nat) (W : List Int) (hc : 112 ≤ c) (wd : Int) (w1 : 1 ≤ wd) (w2 : wd ≤ 16) (ap : Option Addr) (q cp : Nat) (P : List Int) (hI : IR w0 F .i64 ap q P) (hq : q ≤ 4) (hqc : q ≤ cp) (hP : ∀ i, i < q → pAt P i = prt wd i) (ah : Option Addr) (qh ch : Nat) (H : List Int) (hH : IR w0 F .u32 ah qh H) (hHU : W32s H) (hHl2 : (H.length : Int) ≤ wd) (S : List Int) (f : Bool) (hf : H = [] → f = false) (hPI : PInv W wd q S H f) :
    CallK Try.prog 21 [.pointer (some ⟨b, 0, none⟩), .slice ap q cp, .int .i64 wd, .slice ah qh ch, .bool f] w0 (Blk b (.cells [Value.slice (some ⟨g, 0, none⟩) 112 c].toArray 63 (0, 0)) :: Own 28 1 (.slice (some ⟨g, 0, none⟩) 112 c) 112 (ints .u32 W) :: F) (Gives w0 fun v F2 => v = .bool true ∧ F2 = Blk b (.cells [Value.slice (some ⟨g, 0, none⟩) 112 c].toArray 63 (0, 0)) :: Own 28 1 (.slice (some ⟨g, 0, none⟩) 112 c) 112 (ints .u32 W) :: F) := by
  have hl := hI.1
  have hHl := hH.1
  subst hHl
  refine c_enter Try.func21 rfl rfl rfl ?_
  refine g_seq ?_
  refine g_region ?_
  refine l_assign rfl rfl ?_
  refine l_nil ?_
  refine g_seq ?_
  refine g_seq ?_
  refine g_region ?_
  refine l_move rfl rfl ?_
  refine l_len rfl Try.underlying34 rfl ?_
  refine l_move rfl rfl ?_
  refine l_nil ?_
  refine g_block ?_
  refine g_loopc (X := Int) [(0, _), (1, _), (2, _), (3, _), (4, _), (17, _)] (.cons rfl (.cons rfl (.cons rfl (.cons rfl (.cons rfl (.cons rfl (.nil))))))) (fun i => 0 ≤ i ∧ i ≤ q) (fun i => (q - i).toNat) (fun i => [(18, .int .i64 i)]) (0) (⟨by omega, by omega⟩) (.cons rfl .nil) ?_
  rintro i ⟨i0, i1⟩ ih
  dsimp only [List.cons_append, List.nil_append] at ih ⊢
  refine g_seq ?_
  refine g_region ?_
  refine l_lss rfl rfl rfl ?_
  refine l_nil ?_
  refine g_seq ?_
  refine g_cond rfl ?_ ?_
  · intro hbr
    have hbr := of_decide_eq_true hbr
    refine g_skip ?_
    refine g_seq ?_
    refine g_block ?_
    refine g_seq ?_
    refine g_region ?_
    refine l_move rfl rfl ?_
    refine l_assign rfl rfl ?_
    refine l_nil ?_
    refine g_seq ?_
    refine g_region ?_
    refine l_move rfl rfl ?_
    refine l_move rfl rfl ?_
    refine l_move rfl rfl ?_
    obtain ⟨b9, o9, rfl, hr9⟩ := hI.some (i := i.toNat) (by omega)
    refine l_ixs rfl Try.underlying34 Try.sizeOf3 rfl rfl (by omega) (by omega) ?_
    refine l_loadc rfl Try.isAgg3 rfl (word_any hr9 (by omega)) ?_
    rw [show P.getD i.toNat 0 = prt wd i.toNat from hP i.toNat (by omega)]
    have hpi := prt_in w1 w2 hq (show i.toNat < q by omega)
    refine l_move rfl rfl ?_
    refine l_call rfl Try.call18 rfl (readp_ok _ _ b g 112 c W hPI.len hc (by omega) hPI.u32 (by omega) (prt wd i.toNat) (by omega) (by omega) wd (by omega) (by omega)) ?_; rintro _ _ ⟨ar, qr, cr, T, fr, th, e, rfl, hT, har, rfl, hG⟩
    obtain ⟨rfl, hTH, rfl, hfr⟩ := hPI.read w1 w2 hq hHl2 hf (show i.toNat < q by omega) hG
    subst hTH
    subst hfr
    obtain rfl := hT.symm
    refine l_move rfl rfl ?_
    refine l_extract rfl rfl rfl ?_
    refine l_extract rfl rfl rfl ?_
    refine l_extract rfl rfl rfl ?_
    refine l_extract rfl rfl rfl ?_
    refine l_assign rfl rfl ?_
    refine l_assign rfl rfl ?_
    refine l_assign rfl rfl ?_
    refine l_assign rfl rfl ?_
    refine l_nil ?_
    refine g_seq ?_
    refine g_region ?_
    refine l_move rfl rfl ?_
    refine l_neq rfl rfl rfl ?_
    refine l_move rfl rfl ?_
    refine l_split 35 rfl ?_ ?_
    · intro hbr
      have hbr := of_decide_eq_true hbr
      (exfalso; omega)
    intro hbr
    have hbr := of_decide_eq_false hbr
    refine l_guard_yes rfl rfl ?_
    refine l_move rfl rfl ?_
    refine l_guard_yes rfl rfl ?_
    refine l_move rfl rfl ?_
    refine l_guard_yes rfl rfl ?_
    refine l_len rfl Try.underlying29 rfl ?_
    refine l_guard_yes rfl rfl ?_
    refine l_gtr rfl rfl rfl ?_
    refine l_guard_yes rfl rfl ?_
    refine l_neqb rfl Try.underlying4 rfl rfl ?_
    rw [show (!(decide (0 < (T.length : Int)) == decide (0 < (T.length : Int)))) = false by simp]
    refine l_pick_f rfl rfl rfl ?_
    refine l_move rfl rfl ?_
    refine l_guard_yes rfl rfl ?_
    refine l_move rfl rfl ?_
    refine l_guard_yes rfl rfl ?_
    refine l_move rfl rfl ?_
    refine l_guard_yes rfl rfl ?_
    refine l_neqb rfl Try.underlying4 rfl rfl ?_
    rw [show (!(fr == fr)) = false by simp]
    refine l_pick_f rfl rfl rfl ?_
    refine l_move rfl rfl ?_
    refine l_guard_yes rfl rfl ?_
    refine l_move rfl rfl ?_
    refine l_guard_yes rfl rfl ?_
    refine l_move rfl rfl ?_
    refine l_guard_yes rfl rfl ?_
    refine l_call rfl Try.call19 rfl (same_words _ _ ar ah _ cr ch T (IR.own rfl (mem_getO 0 rfl) har) hH.ex hHU (by omega)) ?_; rintro _ _ ⟨rfl, rfl⟩
    refine l_guard_yes rfl rfl ?_
    refine l_not rfl rfl ?_
    refine l_pick_f rfl rfl rfl ?_
    refine l_nil ?_
    refine g_cond_f rfl ?_
    refine g_skip ?_
    refine g_inBlock ?_
    refine g_region ?_
    first | refine l_add rfl rfl rfl (w_i64 (by omega) (by omega)) ?_ | refine l_addw rfl rfl rfl ?_
    refine l_move rfl rfl ?_
    refine l_nil ?_
    exact g_againi (ih (i + 1) ⟨by omega, by omega⟩ (by omega)) (.cons rfl (.cons rfl (.cons rfl (.cons rfl (.cons rfl (.cons rfl (.cons rfl (.nil))))))))
  intro hbr
  have hbr := of_decide_eq_false hbr
  refine g_exit rfl ?_
  refine g_seq ?_
  refine g_region ?_
  refine l_assign rfl rfl ?_
  refine l_nil ?_
  refine g_ret Try.func21 rfl (.tmp rfl .nil) ?_
  exact Gives.mki ⟨rfl, rfl⟩
structure StepV where
  d : Bool
  a : Option Addr
  n : Nat
  c : Nat
  X : List Int
def stV (o : StepV) : List Value := [.bool o.d, .slice o.a o.n o.c]
def sat (L : List StepV) (i : Nat) : StepV := L.getD i ⟨false, none, 0, 0, []⟩
theorem stV_len (L : List StepV) : ∀ r ∈ L.map stV, r.length = 2 := by
  intro r hr
  obtain ⟨o, _, rfl⟩ := List.mem_map.1 hr
  rfl
theorem stV_at {L : List StepV} {i : Nat} (h : i < L.length) : (L.map stV)[i]? = some (stV (sat L i)) := by simp [sat, h]
def StepOk (w0 : World) (F : List Atom) (o : StepV) : Prop := IR w0 F .u32 o.a o.n o.X ∧ o.n ≤ o.c ∧ W32s o.X ∧ o.n ≤ 9223372036854775807
def portsL (wd : Int) (k : Nat) : List Int := (List.range k).map fun i => prt wd i
theorem portsL_len (wd : Int) (k : Nat) : (portsL wd k).length = k := by simp [portsL]
theorem portsL_succ (wd : Int) (k : Nat) : portsL wd k ++ [prt wd k] = portsL wd (k + 1) := by simp [portsL, List.range_succ]
theorem portsL_at {wd : Int} {k i : Nat} (h : i < k) : pAt (portsL wd k) i = prt wd i := by simp [pAt, portsL, List.getD_eq_getElem?_getD, h]
theorem portsL_bd {wd : Int} (h1 : 1 ≤ wd) (h2 : wd ≤ 16) {k : Nat} (hk : k ≤ 4) : ∀ i, -9223372036854775808 ≤ (portsL wd k).getD i 0 ∧ (portsL wd k).getD i 0 ≤ 9223372036854775807 := by
  intro i
  rcases Nat.lt_or_ge i k with h | h
  · have e : (portsL wd k).getD i 0 = prt wd i := portsL_at h
    have := prt_in h1 h2 hk h
    rw [e]; omega
  · have : (portsL wd k).getD i 0 = 0 := by simp [portsL, List.getD_eq_getElem?_getD, show ¬ i < k by omega]
    rw [this]; decide
abbrev LS := Option Addr × Nat × List Int
def AdOk (l : LS) : Prop := l.2.2.length = 0 ∨ ∃ g, l.1 = some ⟨g, 0, none⟩
structure LInv (wd : Int) (q : Nat) (S H : LS) (f : Bool) (W : List Int) : Prop where
  sa : S.2.2.length = 0 ∨ ∃ g, S.1 = some ⟨g, 0, none⟩
  ha : H.2.2.length = 0 ∨ ∃ g, H.1 = some ⟨g, 0, none⟩
  sl : (S.2.2.length : Int) ≤ wd
  hl : (H.2.2.length : Int) ≤ wd
  su : W32s S.2.2
  hu : W32s H.2.2
  hf : H.2.2 = [] → f = false
  pi : PInv W wd q S.2.2 H.2.2 f
theorem LInv.zero {wd : Int} {q : Nat} (h1 : 1 ≤ wd) (h2 : wd ≤ 16) (hq : q ≤ 4) : LInv wd q (none, 0, []) (none, 0, []) false (List.replicate 112 0) :=
  ⟨.inl rfl, .inl rfl, by simp only [List.length_nil]; omega, by simp only [List.length_nil]; omega, W32s.of (by simp), W32s.of (by simp), fun _ => rfl, PInv.zero h1 h2 hq⟩
theorem LInv.put {wd : Int} {q : Nat} {S H : LS} {f : Bool} {W M W2 : List Int} {e : Int} {a : Option Addr} {c : Nat} (h : LInv wd q S H f W) (h1 : 1 ≤ wd) (h2 : wd ≤ 16) (hq : q ≤ 4) (hM1 : 1 ≤ M.length) (hM2 : (M.length : Int) ≤ wd) (hMU : W32s M) (ha : ∃ g, a = some ⟨g, 0, none⟩) (hP : PutG W 112 3 wd M W2 e) : e = 0 ∧ LInv wd q (a, c, M) H f W2 := by
  obtain ⟨he, hp⟩ := h.pi.put h1 h2 hq h.sl hM1 hM2 hMU hP
  exact ⟨he, .inr ha, h.ha, hM2, h.hl, hMU, h.hu, h.hf, hp⟩
theorem LInv.some {wd : Int} {q : Nat} {S H : LS} {f : Bool} {W W2 P : List Int} {e : Int} (h : LInv wd q S H f W) (h1 : 1 ≤ wd) (h2 : wd ≤ 16) (hq : q ≤ 4) (hq1 : 1 ≤ q) (hP : ∀ i, i < q → pAt P i = prt wd i) (hn : 0 < (S.2.2.length : Int)) (hD : DelG W 112 3 wd P q W2 e) : LInv wd q (none, 0, []) S (decide (0 < (S.2.2.length : Int))) W2 := by
  rw [decide_eq_true hn]
  obtain ⟨he, hp⟩ := h.pi.deliver h1 h2 hq hq1 h.sl h.hl h.su hP hD
  have hne : S.2.2 ≠ [] := by intro h; rw [h] at hn; simp at hn
  rw [if_neg hne, if_neg hne] at hp
  exact ⟨.inl rfl, h.sa, by simp only [List.length_nil]; omega, h.sl, W32s.of (by simp), h.su, fun h => absurd h hne, hp⟩
theorem LInv.none {wd : Int} {q : Nat} {S H : LS} {f : Bool} {W W2 P : List Int} {e : Int} (h : LInv wd q S H f W) (h1 : 1 ≤ wd) (h2 : wd ≤ 16) (hq : q ≤ 4) (hq1 : 1 ≤ q) (hP : ∀ i, i < q → pAt P i = prt wd i) (hn : ¬ 0 < (S.2.2.length : Int)) (hD : DelG W 112 3 wd P q W2 e) : LInv wd q (none, 0, []) H (decide (0 < (S.2.2.length : Int))) W2 := by
  rw [decide_eq_false hn]
  obtain ⟨he, hp⟩ := h.pi.deliver h1 h2 hq hq1 h.sl h.hl h.su hP hD
  have hne : S.2.2 = [] := List.length_eq_zero_iff.1 (by omega)
  rw [if_pos hne, if_pos hne] at hp
  exact ⟨.inl rfl, h.ha, by simp only [List.length_nil]; omega, h.hl, W32s.of (by simp), h.hu, fun _ => rfl, hp⟩
theorem LInv.zero_e {wd : Int} {q : Nat} {S H : LS} {f : Bool} {W W2 P : List Int} {e : Int} (h : LInv wd q S H f W) (h1 : 1 ≤ wd) (h2 : wd ≤ 16) (hq : q ≤ 4) (hq1 : 1 ≤ q) (hP : ∀ i, i < q → pAt P i = prt wd i) (hD : DelG W 112 3 wd P q W2 e) : e = 0 := (h.pi.deliver h1 h2 hq hq1 h.sl h.hl h.su hP hD).1
set_option maxHeartbeats 4000000 in
theorem last_ok (w0 : World) (F : List Atom) (x y : Int) (x0 : 0 ≤ x) (x1 : x ≤ 255) (y0 : 0 ≤ y) (y1 : y ≤ 255) (sa0 : Option Addr) (ns nc : Nat) (L : List StepV) (hLl : L.length = ns) (hns : ns ≤ 9223372036854775807) (hs : ns = 0 ∨ ∃ b o, sa0 = some ⟨b, o, none⟩ ∧ RowAt w0 F b o (L.map stV).flatten) (hok : ∀ i, i < ns → StepOk w0 F (sat L i)) :
    CallK Try.prog 5 [.int .u8 x, .int .u8 y, .slice sa0 ns nc] w0 (F) (Gives w0 fun v F2 => v = .bool true ∧ F2 = F) := by
  refine c_enter Try.func5 rfl rfl rfl ?_
  refine g_seq ?_
  refine g_region ?_
  refine l_assign rfl rfl ?_
  refine l_nil ?_
  refine g_seq ?_
  refine g_region ?_
  refine l_move rfl rfl ?_
  first | refine l_conv rfl Try.underlying5 Try.underlying3 rfl (w_i64 (by omega) (by omega)) ?_ | refine l_convw rfl Try.underlying5 Try.underlying3 rfl ?_
  refine l_rem rfl rfl rfl (by omega) (by omega) (w_i64 (by omega) (by omega)) ?_
  refine l_add rfl rfl rfl (w_i64 (by omega) (by omega)) ?_
  obtain ⟨wd, hwd⟩ : ∃ wd, 1 + x % 16 = wd := ⟨_, rfl⟩
  rw [hwd]
  have w1 : 1 ≤ wd := by omega
  have w2 : wd ≤ 16 := by omega
  refine l_assign rfl rfl ?_
  refine l_nil ?_
  refine g_seq ?_
  refine g_region ?_
  refine l_call rfl Try.call8 rfl (new_ok _ _ 7 (by omega) (by omega)) ?_; rintro _ _ ⟨b, g, c, rfl, hc, hF9⟩; rw [hF9]; clear hF9
  rw [show ((7 : Int) * 16).toNat = 112 from rfl] at *
  refine l_move rfl rfl ?_
  refine l_extract rfl rfl rfl ?_
  refine l_extract rfl rfl rfl ?_
  refine l_assign rfl rfl ?_
  refine l_assign rfl rfl ?_
  refine l_nil ?_
  refine g_seq ?_
  refine g_seq ?_
  refine g_region ?_
  refine l_move rfl rfl ?_
  refine l_neq rfl rfl rfl ?_
  refine l_nil ?_
  refine g_cond rfl ?_ ?_
  · intro hbr
    have hbr := of_decide_eq_true hbr
    (exfalso; omega)
  intro hbr
  have hbr := of_decide_eq_false hbr
  refine g_skip ?_
  refine g_seq ?_
  refine g_region ?_
  refine l_assign rfl rfl ?_
  refine l_nil ?_
  refine g_seq ?_
  refine g_region ?_
  refine l_assign rfl rfl ?_
  refine l_nil ?_
  refine g_seq ?_
  refine g_seq ?_
  refine g_region ?_
  refine l_move rfl rfl ?_
  first | refine l_conv rfl Try.underlying5 Try.underlying3 rfl (w_i64 (by omega) (by omega)) ?_ | refine l_convw rfl Try.underlying5 Try.underlying3 rfl ?_
  refine l_rem rfl rfl rfl (by omega) (by omega) (w_i64 (by omega) (by omega)) ?_
  refine l_add rfl rfl rfl (w_i64 (by omega) (by omega)) ?_
  obtain ⟨q, hq9⟩ := Int.eq_ofNat_of_zero_le (show 0 ≤ 1 + y % 4 by omega)
  rw [hq9]
  have q1 : 1 ≤ q := by omega
  have q4 : q ≤ 4 := by omega
  refine l_move rfl rfl ?_
  refine l_nil ?_
  refine g_block ?_
  refine g_own_nil 3 1 ?_
  refine g_loopk (X := Int × Option Addr × Nat) [(2, _), (6, _), (7, _), (8, _), (10, _), (32, _)] (.cons rfl (.cons rfl (.cons rfl (.cons rfl (.cons rfl (.cons rfl (.nil))))))) (fun z => 0 ≤ z.1 ∧ z.1 ≤ q ∧ (z.1.toNat = 0 ∨ ∃ g, z.2.1 = some ⟨g, 0, none⟩)) (fun z => (q - z.1).toNat) (fun z => [(11, .slice z.2.1 z.1.toNat z.2.2), (33, .int .i64 z.1)]) (fun z => Own 3 1 (.slice z.2.1 z.1.toNat z.2.2) z.1.toNat (ints .i64 (portsL wd z.1.toNat)) :: Blk b (.cells [Value.slice (some ⟨g, 0, none⟩) 112 c].toArray 63 (0, 0)) :: Own 28 1 (.slice (some ⟨g, 0, none⟩) 112 c) 112 (ints .u32 (List.replicate 112 0)) :: F) ((0, none, 0)) (⟨by simp only; omega, by simp only; omega, .inl rfl⟩) (.cons rfl (.cons rfl .nil)) ((fun w hw => hw)) ?_
  rintro ⟨i, a1, c1⟩ ⟨i0, i1, ha1⟩ ih
  dsimp only [List.cons_append, List.nil_append] at ih ⊢
  simp only at i0 i1 ha1
  refine g_seq ?_
  refine g_region ?_
  refine l_lss rfl rfl rfl ?_
  refine l_nil ?_
  refine g_seq ?_
  refine g_cond rfl ?_ ?_
  · intro hbr
    have hbr := of_decide_eq_true hbr
    refine g_skip ?_
    refine g_seq ?_
    refine g_block ?_
    refine g_seq ?_
    refine g_region ?_
    refine l_move rfl rfl ?_
    refine l_assign rfl rfl ?_
    refine l_nil ?_
    refine g_region ?_
    refine l_move rfl rfl ?_
    refine l_move rfl rfl ?_
    first | refine l_add rfl rfl rfl (w_i64 (by omega) (by omega)) ?_ | refine l_addw rfl rfl rfl ?_
    refine l_move rfl rfl ?_
    first | refine l_add rfl rfl rfl (w_i64 (by omega) (by omega)) ?_ | refine l_addw rfl rfl rfl ?_
    refine l_move rfl rfl ?_
    refine l_move rfl rfl ?_
    first | refine l_add rfl rfl rfl (w_i64 (by omega) (by omega)) ?_ | refine l_addw rfl rfl rfl ?_
    have hmb : 0 ≤ i * (3 + wd) ∧ i * (3 + wd) ≤ 4 * (3 + wd) := ⟨Int.mul_nonneg (by omega) (by omega), Int.mul_le_mul_of_nonneg_right (by omega) (by omega)⟩
    refine l_mul rfl rfl rfl (w_i64 (by omega) (by omega)) ?_
    refine l_add rfl rfl rfl (w_i64 (by omega) (by omega)) ?_
    rw [show 3 + 2 + wd + i * (3 + wd) = prt wd i.toNat by unfold prt; rw [Int.toNat_of_nonneg i0]; omega]
    refine l_buildSlice rfl Try.underlying34 Try.sizeOf3 Try.zeroValue3 rfl rfl rfl rfl rfl rfl ?_; intro b46
    refine l_does rfl (does_apps 1 (by_ := 8) (kd := .i64) (V := portsL wd i.toNat) (W := [prt wd i.toNat]) (m := i.toNat) (m2 := 1) (m3 := (i + 1).toNat) (V3 := portsL wd (i + 1).toNat) Try.underlying34 Try.type3 rfl rfl rfl rfl rfl rfl rfl ⟨rfl, .inl ⟨_, _, _, rfl, .own (mem_getO 0 rfl)⟩⟩ (by omega) (by simp only [maxLen]; omega) (by omega) (by rw [show (i + 1).toNat = i.toNat + 1 by omega]; exact portsL_succ wd _) (fun _ _ => rfl)) ?_
    rintro _ _ ⟨a47, c47, ha47, hn47, rfl, rfl⟩
    refine l_assign rfl rfl ?_
    refine l_nil ?_
    refine g_inBlock ?_
    refine g_region ?_
    first | refine l_add rfl rfl rfl (w_i64 (by omega) (by omega)) ?_ | refine l_addw rfl rfl rfl ?_
    refine l_move rfl rfl ?_
    refine l_nil ?_
    exact g_againi (ih (i + 1, a47, c47) ⟨by simp only; omega, by simp only; omega, ha47⟩ (by simp only; omega)) (.cons rfl (.cons rfl (.cons rfl (.cons rfl (.cons rfl (.cons rfl (.cons rfl (.cons rfl (.nil)))))))))
  intro hbr
  have hbr := of_decide_eq_false hbr
  refine g_exit rfl ?_
  obtain rfl : i = q := by omega
  rw [Int.toNat_natCast] at ha1 ⊢
  refine g_seq ?_
  refine g_region ?_
  refine l_assign rfl rfl ?_
  refine l_assign rfl rfl ?_
  refine l_nil ?_
  refine g_seq ?_
  refine g_region ?_
  refine l_assign rfl rfl ?_
  refine l_nil ?_
  refine g_seq ?_
  refine g_seq ?_
  refine g_region ?_
  refine l_move rfl rfl ?_
  refine l_len rfl Try.underlying41 rfl ?_
  refine l_move rfl rfl ?_
  refine l_nil ?_
  refine g_block ?_
  refine g_wnil 28 .u32 ?_
  refine g_wnil 28 .u32 ?_
  refine g_fronto g ?_
  refine g_frontb b ?_
  refine g_loopk (X := Int × LS × LS × Bool × List Int) [(2, _), (7, _), (8, _), (10, _), (11, _), (50, _)] (.cons rfl (.cons rfl (.cons rfl (.cons rfl (.cons rfl (.cons rfl (.nil))))))) (fun z => 0 ≤ z.1 ∧ z.1 ≤ ns ∧ LInv wd q z.2.1 z.2.2.1 z.2.2.2.1 z.2.2.2.2) (fun z => (ns - z.1).toNat) (fun z => [(13, .slice z.2.1.1 z.2.1.2.2.length z.2.1.2.1), (14, .slice z.2.2.1.1 z.2.2.1.2.2.length z.2.2.1.2.1), (15, .bool z.2.2.2.1), (51, .int .i64 z.1)]) (fun z => Blk b (.cells [Value.slice (some ⟨g, 0, none⟩) 112 c].toArray 63 (0, 0)) :: Own 28 1 (.slice (some ⟨g, 0, none⟩) 112 c) 112 (ints .u32 z.2.2.2.2) :: Own 28 1 (.slice z.2.1.1 z.2.1.2.2.length z.2.1.2.1) z.2.1.2.2.length (ints .u32 z.2.1.2.2) :: Own 28 1 (.slice z.2.2.1.1 z.2.2.1.2.2.length z.2.2.1.2.1) z.2.2.1.2.2.length (ints .u32 z.2.2.1.2.2) :: Own 3 1 (.slice a1 q c1) q (ints .i64 (portsL wd q)) :: F) ((0, (none, 0, []), (none, 0, []), false, List.replicate 112 0)) (⟨by simp only; omega, by simp only; omega, LInv.zero w1 w2 q4⟩) (.cons rfl (.cons rfl (.cons rfl (.cons rfl .nil)))) ((fun w hw => hw)) ?_
  rintro ⟨i, ⟨sa, sc, S⟩, ⟨ah, ch, H⟩, f, W⟩ ⟨i0, i1, hL⟩ ih
  dsimp only [List.cons_append, List.nil_append] at ih ⊢
  simp only at i0 i1 hL
  obtain ⟨lsa, lha, lsl, lhl, lsu, lhu, lhf, lpi⟩ := id hL
  simp only at lsa lha lsl lhl lsu lhu lhf lpi
  refine g_seq ?_
  refine g_region ?_
  refine l_lss rfl rfl rfl ?_
  refine l_nil ?_
  refine g_seq ?_
  refine g_cond rfl ?_ ?_
  · intro hbr
    have hbr := of_decide_eq_true hbr
    refine g_skip ?_
    refine g_seq ?_
    refine g_block ?_
    refine g_seq ?_
    refine g_region ?_
    refine l_move rfl rfl ?_
    refine l_assign rfl rfl ?_
    refine l_nil ?_
    refine g_seq ?_
    refine g_seq ?_
    refine g_region ?_
    refine l_move rfl rfl ?_
    refine l_move rfl rfl ?_
    obtain ⟨b1, o1, rfl, hr1⟩ := hs.resolve_left (show ¬ ns = 0 by omega)
    refine l_ixs rfl Try.underlying41 Try.sizeOf43 rfl rfl (by omega) (by omega) ?_
    refine l_fieldAddr rfl fa_43_0 rfl ?_
    refine l_loadc (v := .bool (sat L i.toNat).d) rfl Try.isAgg4 rfl ((row_elem hr1.ex (stV_len L) (stV_at (show i.toNat < L.length by omega))).cell (j := 0) rfl) ?_
    refine l_nil ?_
    refine g_cond rfl ?_ ?_
    · intro hbr
      refine g_seq ?_
      refine g_seq ?_
      refine g_region ?_
      refine l_move rfl rfl ?_
      refine l_move rfl rfl ?_
      refine l_move rfl rfl ?_
      refine l_move rfl rfl ?_
      refine l_fact (own_cases (mem_getO 4 rfl)) ?_; intro hown
      have hqc : q ≤ c1 := by
        rcases hown.2.2 with ⟨_, h⟩ | ⟨g9, cp, h, h2⟩
        · omega
        · cases h
          exact h2
      refine l_call rfl Try.call16 rfl (deliver_ok _ _ b g 112 c W lpi.len hc (by omega) lpi.u32 (by omega) 3 (by omega) (by omega) wd (by omega) (by omega) a1 q c1 (portsL wd q) (IR.own (portsL_len wd q) (mem_getO 2 rfl) ha1) (portsL_bd w1 w2 q4) (by omega) hqc) ?_; rintro _ _ ⟨W2, e, rfl, hW2, rfl, hD⟩
      obtain rfl := hL.zero_e w1 w2 q4 q1 (fun i hi => portsL_at hi) hD
      refine l_neq rfl rfl rfl ?_
      refine l_nil ?_
      refine g_cond rfl ?_ ?_
      · intro hbr
        have hbr := of_decide_eq_true hbr
        (exfalso; omega)
      intro hbr
      have hbr := of_decide_eq_false hbr
      refine g_skip ?_
      refine g_seq ?_
      refine g_region ?_
      refine l_move rfl rfl ?_
      refine l_len rfl Try.underlying29 rfl ?_
      refine l_gtr rfl rfl rfl ?_
      refine l_assign rfl rfl ?_
      refine l_nil ?_
      refine g_seq ?_
      refine g_seq ?_
      refine g_region ?_
      refine l_move rfl rfl ?_
      refine l_nil ?_
      refine g_cond rfl ?_ ?_
      · intro hbr
        have hbr := of_decide_eq_true hbr
        refine g_region ?_
        refine l_move rfl rfl ?_
        refine l_assign rfl rfl ?_
        refine l_nil ?_
        refine g_region ?_
        (first | have hLc := hL.some w1 w2 q4 q1 (fun i hi => portsL_at hi) (by simp only; omega) hD | have hLc := hL.none w1 w2 q4 q1 (fun i hi => portsL_at hi) (by simp only; omega) hD)
        refine gl_heap (F' := Own 28 1 (.slice none ([] : List Int).length 0) ([] : List Int).length (ints .u32 ([] : List Int)) :: _) (fun w hw => hw.own_nil 28 1) ?_
        refine l_assign rfl rfl ?_
        refine l_nil ?_
        refine g_seq ?_
        refine g_region ?_
        (first | have hLd := hLc | have hLd := hL)
        refine l_move rfl rfl ?_
        refine l_move rfl rfl ?_
        refine l_move rfl rfl ?_
        refine l_fronto g ?_
        refine l_frontb b ?_
        refine l_call rfl Try.call20 rfl (staged_ok _ _ b g 112 c _ hLd.pi.len hc (by omega) hLd.pi.u32 (by omega) 3 (by omega) (by omega) wd (by omega) (by omega)) ?_; rintro _ _ ⟨kk, e9, rfl, rfl, hG⟩
        obtain ⟨rfl, hkk⟩ := hLd.pi.staged w1 w2 hLd.sl hG
        try simp only at hkk
        try simp only [List.length_nil] at hkk
        refine l_move rfl rfl ?_
        refine l_extract rfl rfl rfl ?_
        refine l_extract rfl rfl rfl ?_
        refine l_assign rfl rfl ?_
        refine l_assign rfl rfl ?_
        refine l_nil ?_
        refine g_seq ?_
        refine g_region ?_
        refine l_move rfl rfl ?_
        refine l_neq rfl rfl rfl ?_
        refine l_move rfl rfl ?_
        refine l_split 107 rfl ?_ ?_
        · intro hbr
          have hbr := of_decide_eq_true hbr
          (exfalso; omega)
        intro hbr
        have hbr := of_decide_eq_false hbr
        refine l_guard_yes rfl rfl ?_
        refine l_move rfl rfl ?_
        refine l_guard_yes rfl rfl ?_
        refine l_move rfl rfl ?_
        refine l_guard_yes rfl rfl ?_
        refine l_len rfl Try.underlying29 rfl ?_
        refine l_guard_yes rfl rfl ?_
        refine l_min rfl rfl rfl ?_
        refine l_guard_yes rfl rfl ?_
        refine l_neq rfl rfl rfl ?_
        refine l_pick_f rfl rfl rfl ?_
        refine l_move rfl rfl ?_
        refine l_split 114 rfl ?_ ?_
        · intro hbr
          have hbr := of_decide_eq_true hbr
          (exfalso; omega)
        intro hbr
        have hbr := of_decide_eq_false hbr
        refine l_guard_yes rfl rfl ?_
        refine l_move rfl rfl ?_
        refine l_guard_yes rfl rfl ?_
        refine l_move rfl rfl ?_
        refine l_guard_yes rfl rfl ?_
        refine l_move rfl rfl ?_
        refine l_guard_yes rfl rfl ?_
        refine l_move rfl rfl ?_
        refine l_guard_yes rfl rfl ?_
        refine l_move rfl rfl ?_
        refine l_guard_yes rfl rfl ?_
        refine l_fronto g ?_
        refine l_frontb b ?_
        refine l_fact (own_cases (show Own 3 1 (.slice a1 q c1) q (ints .i64 (portsL wd q)) ∈ _ from (by first | exact mem_getO 0 rfl | exact mem_getO 1 rfl | exact mem_getO 2 rfl | exact mem_getO 3 rfl | exact mem_getO 4 rfl | exact mem_getO 5 rfl | exact mem_getO 6 rfl))) ?_; intro hown
        have hqc : q ≤ c1 := by
          rcases hown.2.2 with ⟨_, h⟩ | ⟨g9, cp, h, h2⟩
          · omega
          · cases h
            exact h2
        refine l_call rfl Try.call21 rfl (all_ok _ _ b g c _ hc wd w1 w2 a1 q c1 (portsL wd q) (by first | exact IR.own (portsL_len wd q) (mem_getO 0 rfl) ha1 | exact IR.own (portsL_len wd q) (mem_getO 1 rfl) ha1 | exact IR.own (portsL_len wd q) (mem_getO 2 rfl) ha1 | exact IR.own (portsL_len wd q) (mem_getO 3 rfl) ha1 | exact IR.own (portsL_len wd q) (mem_getO 4 rfl) ha1 | exact IR.own (portsL_len wd q) (mem_getO 5 rfl) ha1) q4 hqc (fun i hi => portsL_at hi) _ _ _ _ (by first | exact IR.own rfl (mem_getO 0 rfl) hLd.ha | exact IR.own rfl (mem_getO 1 rfl) hLd.ha | exact IR.own rfl (mem_getO 2 rfl) hLd.ha | exact IR.own rfl (mem_getO 3 rfl) hLd.ha | exact IR.own rfl (mem_getO 4 rfl) hLd.ha | exact IR.own rfl (mem_getO 5 rfl) hLd.ha) hLd.hu hLd.hl _ _ hLd.hf hLd.pi) ?_; rintro _ _ ⟨rfl, rfl⟩
        refine l_guard_yes rfl rfl ?_
        refine l_not rfl rfl ?_
        refine l_pick_f rfl rfl rfl ?_
        refine l_nil ?_
        refine g_cond_f rfl ?_
        refine g_skip ?_
        refine g_inBlock ?_
        refine g_region ?_
        first | refine l_add rfl rfl rfl (w_i64 (by omega) (by omega)) ?_ | refine l_addw rfl rfl rfl ?_
        refine l_move rfl rfl ?_
        refine l_nil ?_
        (first
          | exact g_againi (ih (i + 1, (none, 0, []), (sa, sc, S), decide (0 < (S.length : Int)), W2) ⟨by simp only; omega, by simp only; omega, hLd⟩ (by simp only; omega)) (.cons rfl (.cons rfl (.cons rfl (.cons rfl (.cons rfl (.cons rfl (.cons rfl (.cons rfl (.cons rfl (.cons rfl (.nil)))))))))))
          | exact g_againi (ih (i + 1, (none, 0, []), (ah, ch, H), decide (0 < (S.length : Int)), W2) ⟨by simp only; omega, by simp only; omega, hLd⟩ (by simp only; omega)) (.cons rfl (.cons rfl (.cons rfl (.cons rfl (.cons rfl (.cons rfl (.cons rfl (.cons rfl (.cons rfl (.cons rfl (.nil)))))))))))
          | exact g_againi (ih (i + 1, (some ⟨gw, 0, none⟩, M.length, M), (ah, ch, H), f, W2) ⟨by simp only; omega, by simp only; omega, hLd⟩ (by simp only; omega)) (.cons rfl (.cons rfl (.cons rfl (.cons rfl (.cons rfl (.cons rfl (.cons rfl (.cons rfl (.cons rfl (.cons rfl (.nil)))))))))))
          | exact g_againi (ih (i + 1, (sa, sc, S), (ah, ch, H), f, W) ⟨by simp only; omega, by simp only; omega, hLd⟩ (by simp only; omega)) (.cons rfl (.cons rfl (.cons rfl (.cons rfl (.cons rfl (.cons rfl (.cons rfl (.cons rfl (.cons rfl (.cons rfl (.nil))))))))))))
      intro hbr
      have hbr := of_decide_eq_false hbr
      refine g_skip ?_
      refine g_region ?_
      (first | have hLc := hL.some w1 w2 q4 q1 (fun i hi => portsL_at hi) (by simp only; omega) hD | have hLc := hL.none w1 w2 q4 q1 (fun i hi => portsL_at hi) (by simp only; omega) hD)
      refine gl_heap (F' := Own 28 1 (.slice none ([] : List Int).length 0) ([] : List Int).length (ints .u32 ([] : List Int)) :: _) (fun w hw => hw.own_nil 28 1) ?_
      refine l_assign rfl rfl ?_
      refine l_nil ?_
      refine g_seq ?_
      refine g_region ?_
      (first | have hLd := hLc | have hLd := hL)
      refine l_move rfl rfl ?_
      refine l_move rfl rfl ?_
      refine l_move rfl rfl ?_
      refine l_fronto g ?_
      refine l_frontb b ?_
      refine l_call rfl Try.call20 rfl (staged_ok _ _ b g 112 c _ hLd.pi.len hc (by omega) hLd.pi.u32 (by omega) 3 (by omega) (by omega) wd (by omega) (by omega)) ?_; rintro _ _ ⟨kk, e9, rfl, rfl, hG⟩
      obtain ⟨rfl, hkk⟩ := hLd.pi.staged w1 w2 hLd.sl hG
      try simp only at hkk
      try simp only [List.length_nil] at hkk
      refine l_move rfl rfl ?_
      refine l_extract rfl rfl rfl ?_
      refine l_extract rfl rfl rfl ?_
      refine l_assign rfl rfl ?_
      refine l_assign rfl rfl ?_
      refine l_nil ?_
      refine g_seq ?_
      refine g_region ?_
      refine l_move rfl rfl ?_
      refine l_neq rfl rfl rfl ?_
      refine l_move rfl rfl ?_
      refine l_split 107 rfl ?_ ?_
      · intro hbr
        have hbr := of_decide_eq_true hbr
        (exfalso; omega)
      intro hbr
      have hbr := of_decide_eq_false hbr
      refine l_guard_yes rfl rfl ?_
      refine l_move rfl rfl ?_
      refine l_guard_yes rfl rfl ?_
      refine l_move rfl rfl ?_
      refine l_guard_yes rfl rfl ?_
      refine l_len rfl Try.underlying29 rfl ?_
      refine l_guard_yes rfl rfl ?_
      refine l_min rfl rfl rfl ?_
      refine l_guard_yes rfl rfl ?_
      refine l_neq rfl rfl rfl ?_
      refine l_pick_f rfl rfl rfl ?_
      refine l_move rfl rfl ?_
      refine l_split 114 rfl ?_ ?_
      · intro hbr
        have hbr := of_decide_eq_true hbr
        (exfalso; omega)
      intro hbr
      have hbr := of_decide_eq_false hbr
      refine l_guard_yes rfl rfl ?_
      refine l_move rfl rfl ?_
      refine l_guard_yes rfl rfl ?_
      refine l_move rfl rfl ?_
      refine l_guard_yes rfl rfl ?_
      refine l_move rfl rfl ?_
      refine l_guard_yes rfl rfl ?_
      refine l_move rfl rfl ?_
      refine l_guard_yes rfl rfl ?_
      refine l_move rfl rfl ?_
      refine l_guard_yes rfl rfl ?_
      refine l_fronto g ?_
      refine l_frontb b ?_
      refine l_fact (own_cases (show Own 3 1 (.slice a1 q c1) q (ints .i64 (portsL wd q)) ∈ _ from (by first | exact mem_getO 0 rfl | exact mem_getO 1 rfl | exact mem_getO 2 rfl | exact mem_getO 3 rfl | exact mem_getO 4 rfl | exact mem_getO 5 rfl | exact mem_getO 6 rfl))) ?_; intro hown
      have hqc : q ≤ c1 := by
        rcases hown.2.2 with ⟨_, h⟩ | ⟨g9, cp, h, h2⟩
        · omega
        · cases h
          exact h2
      refine l_call rfl Try.call21 rfl (all_ok _ _ b g c _ hc wd w1 w2 a1 q c1 (portsL wd q) (by first | exact IR.own (portsL_len wd q) (mem_getO 0 rfl) ha1 | exact IR.own (portsL_len wd q) (mem_getO 1 rfl) ha1 | exact IR.own (portsL_len wd q) (mem_getO 2 rfl) ha1 | exact IR.own (portsL_len wd q) (mem_getO 3 rfl) ha1 | exact IR.own (portsL_len wd q) (mem_getO 4 rfl) ha1 | exact IR.own (portsL_len wd q) (mem_getO 5 rfl) ha1) q4 hqc (fun i hi => portsL_at hi) _ _ _ _ (by first | exact IR.own rfl (mem_getO 0 rfl) hLd.ha | exact IR.own rfl (mem_getO 1 rfl) hLd.ha | exact IR.own rfl (mem_getO 2 rfl) hLd.ha | exact IR.own rfl (mem_getO 3 rfl) hLd.ha | exact IR.own rfl (mem_getO 4 rfl) hLd.ha | exact IR.own rfl (mem_getO 5 rfl) hLd.ha) hLd.hu hLd.hl _ _ hLd.hf hLd.pi) ?_; rintro _ _ ⟨rfl, rfl⟩
      refine l_guard_yes rfl rfl ?_
      refine l_not rfl rfl ?_
      refine l_pick_f rfl rfl rfl ?_
      refine l_nil ?_
      refine g_cond_f rfl ?_
      refine g_skip ?_
      refine g_inBlock ?_
      refine g_region ?_
      first | refine l_add rfl rfl rfl (w_i64 (by omega) (by omega)) ?_ | refine l_addw rfl rfl rfl ?_
      refine l_move rfl rfl ?_
      refine l_nil ?_
      (first
        | exact g_againi (ih (i + 1, (none, 0, []), (sa, sc, S), decide (0 < (S.length : Int)), W2) ⟨by simp only; omega, by simp only; omega, hLd⟩ (by simp only; omega)) (.cons rfl (.cons rfl (.cons rfl (.cons rfl (.cons rfl (.cons rfl (.cons rfl (.cons rfl (.cons rfl (.cons rfl (.nil)))))))))))
        | exact g_againi (ih (i + 1, (none, 0, []), (ah, ch, H), decide (0 < (S.length : Int)), W2) ⟨by simp only; omega, by simp only; omega, hLd⟩ (by simp only; omega)) (.cons rfl (.cons rfl (.cons rfl (.cons rfl (.cons rfl (.cons rfl (.cons rfl (.cons rfl (.cons rfl (.cons rfl (.nil)))))))))))
        | exact g_againi (ih (i + 1, (some ⟨gw, 0, none⟩, M.length, M), (ah, ch, H), f, W2) ⟨by simp only; omega, by simp only; omega, hLd⟩ (by simp only; omega)) (.cons rfl (.cons rfl (.cons rfl (.cons rfl (.cons rfl (.cons rfl (.cons rfl (.cons rfl (.cons rfl (.cons rfl (.nil)))))))))))
        | exact g_againi (ih (i + 1, (sa, sc, S), (ah, ch, H), f, W) ⟨by simp only; omega, by simp only; omega, hLd⟩ (by simp only; omega)) (.cons rfl (.cons rfl (.cons rfl (.cons rfl (.cons rfl (.cons rfl (.cons rfl (.cons rfl (.cons rfl (.cons rfl (.nil))))))))))))
    intro hbr
    refine g_seq ?_
    refine g_region ?_
    refine l_move rfl rfl ?_
    refine l_move rfl rfl ?_
    refine l_ixs rfl Try.underlying41 Try.sizeOf43 rfl rfl (by omega) (by omega) ?_
    refine l_fieldAddr rfl fa_43_1 rfl ?_
    have hso := hok i.toNat (by omega)
    obtain ⟨hoI, hoc, hoU, hon⟩ := id hso
    refine l_loadc (v := .slice (sat L i.toNat).a (sat L i.toNat).n (sat L i.toNat).c) rfl Try.isAgg29 rfl ((row_elem hr1.ex (stV_len L) (stV_at (show i.toNat < L.length by omega))).cell (j := 1) rfl) ?_
    refine l_len rfl Try.underlying29 rfl ?_
    refine l_gtr rfl rfl rfl ?_
    refine l_nil ?_
    refine g_cond rfl ?_ ?_
    · intro hbr
      have hbr := of_decide_eq_true hbr
      refine g_seq ?_
      refine gp_start mo (by kernel_rfl) (by kernel_rfl) ?_
      obtain ⟨bM, oM, haM, hrM⟩ := hoI.some (i := 0) (by omega)
      obtain ⟨k, hk⟩ : ∃ k : Nat, (min wd ((sat L i.toNat).n : Int)).toNat = k := ⟨_, rfl⟩
      obtain ⟨M, hM⟩ : ∃ M : List Int, (sat L i.toNat).X.take k = M := ⟨_, rfl⟩
      have hMl : M.length = k := by rw [← hM, List.length_take, hoI.1]; omega
      have hMu : W32s M := by rw [← hM]; exact take_u hoU k
      refine gp_quiet 0 rfl rfl rfl rfl rfl rfl (q_move rfl) ?_
      refine gp_quiet 1 rfl rfl rfl rfl rfl rfl (q_move rfl) ?_
      refine gp_quiet 2 rfl rfl rfl rfl rfl rfl (q_ixs Try.underlying41 Try.sizeOf43 rfl rfl (by omega) (by omega)) ?_
      refine gp_quiet 3 rfl rfl rfl rfl rfl rfl (q_fieldAddr fa_43_1 rfl) ?_
      refine gp_quiet 4 rfl rfl rfl rfl rfl rfl (q_loadc (v := .slice (some ⟨bM, oM, none⟩) (sat L i.toNat).n (sat L i.toNat).c) Try.isAgg29 rfl (by rw [← haM]; exact ((row_elem hr1.ex (stV_len L) (stV_at (show i.toNat < L.length by omega))).cell (j := 1) rfl))) ?_
      refine gp_quiet 5 rfl rfl rfl rfl rfl rfl (q_move rfl) ?_
      refine gp_quiet 6 rfl rfl rfl rfl rfl rfl (q_move rfl) ?_
      refine gp_quiet 7 rfl rfl rfl rfl rfl rfl (q_move rfl) ?_
      refine gp_quiet 8 rfl rfl rfl rfl rfl rfl (q_ixs Try.underlying41 Try.sizeOf43 rfl rfl (by omega) (by omega)) ?_
      refine gp_quiet 9 rfl rfl rfl rfl rfl rfl (q_fieldAddr fa_43_1 rfl) ?_
      refine gp_quiet 10 rfl rfl rfl rfl rfl rfl (q_loadc (v := .slice (some ⟨bM, oM, none⟩) (sat L i.toNat).n (sat L i.toNat).c) Try.isAgg29 rfl (by rw [← haM]; exact ((row_elem hr1.ex (stV_len L) (stV_at (show i.toNat < L.length by omega))).cell (j := 1) rfl))) ?_
      refine gp_quiet 11 rfl rfl rfl rfl rfl rfl (q_len Try.underlying29 rfl) ?_
      refine gp_quiet 12 rfl rfl rfl rfl rfl rfl (q_min rfl rfl) ?_
      refine gp_quiet 13 rfl rfl rfl rfl rfl rfl (q_slice_hi Try.underlying29 Try.sizeOf28 rfl rfl (by omega) (by omega)) ?_
      refine gp_effa 14 [13] [12, 11, 10, 9, 8, 7, 6, 5, 4, 3, 2, 1, 0] rfl rfl rfl rfl rfl rfl rfl (does_call Try.call11 rfl (copy_words _ _ (some ⟨bM, oM, none⟩) (min wd ((sat L i.toNat).n : Int)).toNat (sat L i.toNat).c M (by rw [← hM, hk]; exact ir_take hoI.1 hrM.ex (by omega)) (by omega) hMu)) ?_
      rintro _ _ ⟨gw, rfl, rfl⟩
      refine ⟨?_, ?_⟩
      · refine .cons rfl rfl rfl rfl rfl (q_min rfl rfl) ?_
        refine .cons rfl rfl rfl rfl rfl (q_len Try.underlying29 rfl) ?_
        refine .cons rfl rfl rfl rfl rfl (q_loadc (v := .slice (some ⟨bM, oM, none⟩) (sat L i.toNat).n (sat L i.toNat).c) Try.isAgg29 rfl (by rw [← haM]; exact ((row_elem hr1.ex (stV_len L) (stV_at (show i.toNat < L.length by omega))).cell (j := 1) rfl))) ?_
        refine .cons rfl rfl rfl rfl rfl (q_fieldAddr fa_43_1 rfl) ?_
        refine .cons rfl rfl rfl rfl rfl (q_ixs Try.underlying41 Try.sizeOf43 rfl rfl (by omega) (by omega)) ?_
        refine .cons rfl rfl rfl rfl rfl (q_move rfl) ?_
        refine .cons rfl rfl rfl rfl rfl (q_move rfl) ?_
        refine .cons rfl rfl rfl rfl rfl (q_move rfl) ?_
        refine .cons rfl rfl rfl rfl rfl (q_loadc (v := .slice (some ⟨bM, oM, none⟩) (sat L i.toNat).n (sat L i.toNat).c) Try.isAgg29 rfl (by rw [← haM]; exact ((row_elem hr1.ex (stV_len L) (stV_at (show i.toNat < L.length by omega))).cell (j := 1) rfl))) ?_
        refine .cons rfl rfl rfl rfl rfl (q_fieldAddr fa_43_1 rfl) ?_
        refine .cons rfl rfl rfl rfl rfl (q_ixs Try.underlying41 Try.sizeOf43 rfl rfl (by omega) (by omega)) ?_
        refine .cons rfl rfl rfl rfl rfl (q_move rfl) ?_
        refine .cons rfl rfl rfl rfl rfl (q_move rfl) ?_
        exact .nil
      refine gp_quiet 15 rfl rfl rfl rfl rfl rfl (q_assign rfl) ?_
      refine gp_end rfl rfl ?_
      refine g_seq ?_
      refine g_region ?_
      rw [hk]
      subst hMl
      refine l_move rfl rfl ?_
      refine l_move rfl rfl ?_
      refine l_move rfl rfl ?_
      refine l_move rfl rfl ?_
      refine l_fronto g ?_
      refine l_frontb b ?_
      refine l_call rfl Try.call9 rfl (put_ok _ _ b g 112 c W lpi.len hc (by omega) lpi.u32 (by omega) 3 (by omega) (by omega) wd (by omega) (by omega) (some ⟨gw, 0, none⟩) M.length M.length M (IR.own rfl (mem_getO 0 rfl) (.inr ⟨_, rfl⟩)) (by omega)) ?_; rintro _ _ ⟨W2, e, rfl, hW2, rfl, hP⟩
      obtain ⟨rfl, hLc⟩ := hL.put (a := some ⟨gw, 0, none⟩) (c := M.length) w1 w2 q4 (by omega) (by omega) hMu ⟨gw, rfl⟩ hP
      refine l_neq rfl rfl rfl ?_
      refine l_nil ?_
      refine g_cond rfl ?_ ?_
      · intro hbr
        have hbr := of_decide_eq_true hbr
        (exfalso; omega)
      intro hbr
      have hbr := of_decide_eq_false hbr
      refine g_skip ?_
      refine g_seq ?_
      refine g_region ?_
      (first | have hLd := hLc | have hLd := hL)
      refine l_move rfl rfl ?_
      refine l_move rfl rfl ?_
      refine l_move rfl rfl ?_
      refine l_fronto g ?_
      refine l_frontb b ?_
      refine l_call rfl Try.call20 rfl (staged_ok _ _ b g 112 c _ hLd.pi.len hc (by omega) hLd.pi.u32 (by omega) 3 (by omega) (by omega) wd (by omega) (by omega)) ?_; rintro _ _ ⟨kk, e9, rfl, rfl, hG⟩
      obtain ⟨rfl, hkk⟩ := hLd.pi.staged w1 w2 hLd.sl hG
      try simp only at hkk
      try simp only [List.length_nil] at hkk
      refine l_move rfl rfl ?_
      refine l_extract rfl rfl rfl ?_
      refine l_extract rfl rfl rfl ?_
      refine l_assign rfl rfl ?_
      refine l_assign rfl rfl ?_
      refine l_nil ?_
      refine g_seq ?_
      refine g_region ?_
      refine l_move rfl rfl ?_
      refine l_neq rfl rfl rfl ?_
      refine l_move rfl rfl ?_
      refine l_split 107 rfl ?_ ?_
      · intro hbr
        have hbr := of_decide_eq_true hbr
        (exfalso; omega)
      intro hbr
      have hbr := of_decide_eq_false hbr
      refine l_guard_yes rfl rfl ?_
      refine l_move rfl rfl ?_
      refine l_guard_yes rfl rfl ?_
      refine l_move rfl rfl ?_
      refine l_guard_yes rfl rfl ?_
      refine l_len rfl Try.underlying29 rfl ?_
      refine l_guard_yes rfl rfl ?_
      refine l_min rfl rfl rfl ?_
      refine l_guard_yes rfl rfl ?_
      refine l_neq rfl rfl rfl ?_
      refine l_pick_f rfl rfl rfl ?_
      refine l_move rfl rfl ?_
      refine l_split 114 rfl ?_ ?_
      · intro hbr
        have hbr := of_decide_eq_true hbr
        (exfalso; omega)
      intro hbr
      have hbr := of_decide_eq_false hbr
      refine l_guard_yes rfl rfl ?_
      refine l_move rfl rfl ?_
      refine l_guard_yes rfl rfl ?_
      refine l_move rfl rfl ?_
      refine l_guard_yes rfl rfl ?_
      refine l_move rfl rfl ?_
      refine l_guard_yes rfl rfl ?_
      refine l_move rfl rfl ?_
      refine l_guard_yes rfl rfl ?_
      refine l_move rfl rfl ?_
      refine l_guard_yes rfl rfl ?_
      refine l_fronto g ?_
      refine l_frontb b ?_
      refine l_fact (own_cases (show Own 3 1 (.slice a1 q c1) q (ints .i64 (portsL wd q)) ∈ _ from (by first | exact mem_getO 0 rfl | exact mem_getO 1 rfl | exact mem_getO 2 rfl | exact mem_getO 3 rfl | exact mem_getO 4 rfl | exact mem_getO 5 rfl | exact mem_getO 6 rfl))) ?_; intro hown
      have hqc : q ≤ c1 := by
        rcases hown.2.2 with ⟨_, h⟩ | ⟨g9, cp, h, h2⟩
        · omega
        · cases h
          exact h2
      refine l_call rfl Try.call21 rfl (all_ok _ _ b g c _ hc wd w1 w2 a1 q c1 (portsL wd q) (by first | exact IR.own (portsL_len wd q) (mem_getO 0 rfl) ha1 | exact IR.own (portsL_len wd q) (mem_getO 1 rfl) ha1 | exact IR.own (portsL_len wd q) (mem_getO 2 rfl) ha1 | exact IR.own (portsL_len wd q) (mem_getO 3 rfl) ha1 | exact IR.own (portsL_len wd q) (mem_getO 4 rfl) ha1 | exact IR.own (portsL_len wd q) (mem_getO 5 rfl) ha1) q4 hqc (fun i hi => portsL_at hi) _ _ _ _ (by first | exact IR.own rfl (mem_getO 0 rfl) hLd.ha | exact IR.own rfl (mem_getO 1 rfl) hLd.ha | exact IR.own rfl (mem_getO 2 rfl) hLd.ha | exact IR.own rfl (mem_getO 3 rfl) hLd.ha | exact IR.own rfl (mem_getO 4 rfl) hLd.ha | exact IR.own rfl (mem_getO 5 rfl) hLd.ha) hLd.hu hLd.hl _ _ hLd.hf hLd.pi) ?_; rintro _ _ ⟨rfl, rfl⟩
      refine l_guard_yes rfl rfl ?_
      refine l_not rfl rfl ?_
      refine l_pick_f rfl rfl rfl ?_
      refine l_nil ?_
      refine g_cond_f rfl ?_
      refine g_skip ?_
      refine g_inBlock ?_
      refine g_region ?_
      first | refine l_add rfl rfl rfl (w_i64 (by omega) (by omega)) ?_ | refine l_addw rfl rfl rfl ?_
      refine l_move rfl rfl ?_
      refine l_nil ?_
      (first
        | exact g_againi (ih (i + 1, (none, 0, []), (sa, sc, S), decide (0 < (S.length : Int)), W2) ⟨by simp only; omega, by simp only; omega, hLd⟩ (by simp only; omega)) (.cons rfl (.cons rfl (.cons rfl (.cons rfl (.cons rfl (.cons rfl (.cons rfl (.cons rfl (.cons rfl (.cons rfl (.nil)))))))))))
        | exact g_againi (ih (i + 1, (none, 0, []), (ah, ch, H), decide (0 < (S.length : Int)), W2) ⟨by simp only; omega, by simp only; omega, hLd⟩ (by simp only; omega)) (.cons rfl (.cons rfl (.cons rfl (.cons rfl (.cons rfl (.cons rfl (.cons rfl (.cons rfl (.cons rfl (.cons rfl (.nil)))))))))))
        | exact g_againi (ih (i + 1, (some ⟨gw, 0, none⟩, M.length, M), (ah, ch, H), f, W2) ⟨by simp only; omega, by simp only; omega, hLd⟩ (by simp only; omega)) (.cons rfl (.cons rfl (.cons rfl (.cons rfl (.cons rfl (.cons rfl (.cons rfl (.cons rfl (.cons rfl (.cons rfl (.nil)))))))))))
        | exact g_againi (ih (i + 1, (sa, sc, S), (ah, ch, H), f, W) ⟨by simp only; omega, by simp only; omega, hLd⟩ (by simp only; omega)) (.cons rfl (.cons rfl (.cons rfl (.cons rfl (.cons rfl (.cons rfl (.cons rfl (.cons rfl (.cons rfl (.cons rfl (.nil))))))))))))
    intro hbr
    have hbr := of_decide_eq_false hbr
    refine g_skip ?_
    refine g_seq ?_
    refine g_region ?_
    (first | have hLd := hLc | have hLd := hL)
    refine l_move rfl rfl ?_
    refine l_move rfl rfl ?_
    refine l_move rfl rfl ?_
    refine l_fronto g ?_
    refine l_frontb b ?_
    refine l_call rfl Try.call20 rfl (staged_ok _ _ b g 112 c _ hLd.pi.len hc (by omega) hLd.pi.u32 (by omega) 3 (by omega) (by omega) wd (by omega) (by omega)) ?_; rintro _ _ ⟨kk, e9, rfl, rfl, hG⟩
    obtain ⟨rfl, hkk⟩ := hLd.pi.staged w1 w2 hLd.sl hG
    try simp only at hkk
    try simp only [List.length_nil] at hkk
    refine l_move rfl rfl ?_
    refine l_extract rfl rfl rfl ?_
    refine l_extract rfl rfl rfl ?_
    refine l_assign rfl rfl ?_
    refine l_assign rfl rfl ?_
    refine l_nil ?_
    refine g_seq ?_
    refine g_region ?_
    refine l_move rfl rfl ?_
    refine l_neq rfl rfl rfl ?_
    refine l_move rfl rfl ?_
    refine l_split 107 rfl ?_ ?_
    · intro hbr
      have hbr := of_decide_eq_true hbr
      (exfalso; omega)
    intro hbr
    have hbr := of_decide_eq_false hbr
    refine l_guard_yes rfl rfl ?_
    refine l_move rfl rfl ?_
    refine l_guard_yes rfl rfl ?_
    refine l_move rfl rfl ?_
    refine l_guard_yes rfl rfl ?_
    refine l_len rfl Try.underlying29 rfl ?_
    refine l_guard_yes rfl rfl ?_
    refine l_min rfl rfl rfl ?_
    refine l_guard_yes rfl rfl ?_
    refine l_neq rfl rfl rfl ?_
    refine l_pick_f rfl rfl rfl ?_
    refine l_move rfl rfl ?_
    refine l_split 114 rfl ?_ ?_
    · intro hbr
      have hbr := of_decide_eq_true hbr
      (exfalso; omega)
    intro hbr
    have hbr := of_decide_eq_false hbr
    refine l_guard_yes rfl rfl ?_
    refine l_move rfl rfl ?_
    refine l_guard_yes rfl rfl ?_
    refine l_move rfl rfl ?_
    refine l_guard_yes rfl rfl ?_
    refine l_move rfl rfl ?_
    refine l_guard_yes rfl rfl ?_
    refine l_move rfl rfl ?_
    refine l_guard_yes rfl rfl ?_
    refine l_move rfl rfl ?_
    refine l_guard_yes rfl rfl ?_
    refine l_fronto g ?_
    refine l_frontb b ?_
    refine l_fact (own_cases (show Own 3 1 (.slice a1 q c1) q (ints .i64 (portsL wd q)) ∈ _ from (by first | exact mem_getO 0 rfl | exact mem_getO 1 rfl | exact mem_getO 2 rfl | exact mem_getO 3 rfl | exact mem_getO 4 rfl | exact mem_getO 5 rfl | exact mem_getO 6 rfl))) ?_; intro hown
    have hqc : q ≤ c1 := by
      rcases hown.2.2 with ⟨_, h⟩ | ⟨g9, cp, h, h2⟩
      · omega
      · cases h
        exact h2
    refine l_call rfl Try.call21 rfl (all_ok _ _ b g c _ hc wd w1 w2 a1 q c1 (portsL wd q) (by first | exact IR.own (portsL_len wd q) (mem_getO 0 rfl) ha1 | exact IR.own (portsL_len wd q) (mem_getO 1 rfl) ha1 | exact IR.own (portsL_len wd q) (mem_getO 2 rfl) ha1 | exact IR.own (portsL_len wd q) (mem_getO 3 rfl) ha1 | exact IR.own (portsL_len wd q) (mem_getO 4 rfl) ha1 | exact IR.own (portsL_len wd q) (mem_getO 5 rfl) ha1) q4 hqc (fun i hi => portsL_at hi) _ _ _ _ (by first | exact IR.own rfl (mem_getO 0 rfl) hLd.ha | exact IR.own rfl (mem_getO 1 rfl) hLd.ha | exact IR.own rfl (mem_getO 2 rfl) hLd.ha | exact IR.own rfl (mem_getO 3 rfl) hLd.ha | exact IR.own rfl (mem_getO 4 rfl) hLd.ha | exact IR.own rfl (mem_getO 5 rfl) hLd.ha) hLd.hu hLd.hl _ _ hLd.hf hLd.pi) ?_; rintro _ _ ⟨rfl, rfl⟩
    refine l_guard_yes rfl rfl ?_
    refine l_not rfl rfl ?_
    refine l_pick_f rfl rfl rfl ?_
    refine l_nil ?_
    refine g_cond_f rfl ?_
    refine g_skip ?_
    refine g_inBlock ?_
    refine g_region ?_
    first | refine l_add rfl rfl rfl (w_i64 (by omega) (by omega)) ?_ | refine l_addw rfl rfl rfl ?_
    refine l_move rfl rfl ?_
    refine l_nil ?_
    (first
      | exact g_againi (ih (i + 1, (none, 0, []), (sa, sc, S), decide (0 < (S.length : Int)), W2) ⟨by simp only; omega, by simp only; omega, hLd⟩ (by simp only; omega)) (.cons rfl (.cons rfl (.cons rfl (.cons rfl (.cons rfl (.cons rfl (.cons rfl (.cons rfl (.cons rfl (.cons rfl (.nil)))))))))))
      | exact g_againi (ih (i + 1, (none, 0, []), (ah, ch, H), decide (0 < (S.length : Int)), W2) ⟨by simp only; omega, by simp only; omega, hLd⟩ (by simp only; omega)) (.cons rfl (.cons rfl (.cons rfl (.cons rfl (.cons rfl (.cons rfl (.cons rfl (.cons rfl (.cons rfl (.cons rfl (.nil)))))))))))
      | exact g_againi (ih (i + 1, (some ⟨gw, 0, none⟩, M.length, M), (ah, ch, H), f, W2) ⟨by simp only; omega, by simp only; omega, hLd⟩ (by simp only; omega)) (.cons rfl (.cons rfl (.cons rfl (.cons rfl (.cons rfl (.cons rfl (.cons rfl (.cons rfl (.cons rfl (.cons rfl (.nil)))))))))))
      | exact g_againi (ih (i + 1, (sa, sc, S), (ah, ch, H), f, W) ⟨by simp only; omega, by simp only; omega, hLd⟩ (by simp only; omega)) (.cons rfl (.cons rfl (.cons rfl (.cons rfl (.cons rfl (.cons rfl (.cons rfl (.cons rfl (.cons rfl (.cons rfl (.nil))))))))))))
  intro hbr
  have hbr := of_decide_eq_false hbr
  refine g_exit rfl ?_
  refine g_seq ?_
  refine g_region ?_
  refine l_assign rfl rfl ?_
  refine l_nil ?_
  refine g_ret Try.func5 rfl (.tmp rfl .nil) ?_
  exact Gives.mki ⟨rfl, rfl⟩
theorem vis_s43 {w : World} {r : List Value} (h : Vis Try.prog w 43 r) : ∃ (x0 : Bool) (x1 : Option Addr) (n1 c1 : Nat) (X1 : List Int), r = [.bool x0, .slice x1 n1 c1] ∧ True ∧ n1 ≤ c1 ∧ c1 ≤ maxLen ∧ X1.length = n1 ∧ (∀ x ∈ X1, (Lit.int .u32 x).wf = true) ∧ ((n1 = 0 ∧ (x1 = none → c1 = 0)) ∨ ∃ b o, x1 = some ⟨b, o, none⟩ ∧ ∀ (j : Nat) u, (ints .u32 X1)[j]? = some u → w.cell? ⟨b, o + j, none⟩ = some u) := by
  obtain ⟨hl, hf⟩ := vis_struct Try.underlying43 h
  have hc : Try.prog.cellsOf 43 = 2 := by kernel_rfl
  have c29 : Try.prog.cellsOf 29 = 1 := by kernel_rfl
  have c4 : Try.prog.cellsOf 4 = 1 := by kernel_rfl
  match r, hl.trans hc with
  | [z0, z1], _ =>
    obtain ⟨x0, e0⟩ := vis_bool Try.underlying4 (hf 0 _ rfl)
    have w0 := trivial
    obtain ⟨x1, n1, c1, X1, e1, w1⟩ := vis_ints Try.underlying29 Try.underlying28 (by kernel_rfl) (hf 1 _ rfl)
    simp [c29, c4] at e0 e1
    subst e0 e1
    exact ⟨x0, x1, n1, c1, X1, rfl, w0, w1⟩
theorem vis_step {w : World} {r : List Value} (h : Vis Try.prog w 43 r) : ∃ o : StepV, r = stV o ∧ StepOk w [Old w] o := by
  obtain ⟨d, a, n, c, X, rfl, _, h1, h2, h3, h4, h5⟩ := vis_s43 h
  simp only [maxLen] at h2
  refine ⟨⟨d, a, n, c, X⟩, rfl, ⟨h3, ?_⟩, h1, W32s.of fun x hx => wf_u32 (h4 x hx), by simp only; omega⟩
  rcases h5 with ⟨h, _⟩ | ⟨b, o, h, hr⟩
  · exact .inl h
  · exact .inr ⟨b, o, h, RowAt.old (by simp) hr⟩
theorem last_all (W : World) (x y : Int) (hx : 0 ≤ x ∧ x ≤ 255) (hy : 0 ≤ y ∧ y ≤ 255) (a1 : Option Addr) (n1 c1 : Nat) (rows : List (List Value)) (hc1 : n1 ≤ c1) (hm1 : c1 ≤ maxLen) (hl1 : rows.length = n1) (hv1 : ∀ r ∈ rows, r.length = 2 ∧ Vis Try.prog W 43 r)
    (hr1 : (n1 = 0 ∧ (a1 = none → c1 = 0)) ∨ ∃ b o, a1 = some ⟨b, o, none⟩ ∧ ∀ (j : Nat) u, rows.flatten[j]? = some u → W.cell? ⟨b, o + j, none⟩ = some u) :
    CallK Try.prog 5 [.int .u8 x, .int .u8 y, .slice a1 n1 c1] W [Old W] (Gives W fun v F2 => v = .bool true ∧ F2 = [Old W]) := by
  simp only [maxLen] at hm1
  obtain ⟨L, hL, hLok⟩ := rows_choose (f := stV) (R := StepOk W [Old W]) (rows := rows) (fun r hr => vis_step (hv1 r hr).2)
  subst hL
  have hlen : L.length = n1 := by simpa using hl1
  refine last_ok W [Old W] x y hx.1 hx.2 hy.1 hy.2 a1 n1 c1 L hlen (by omega) ?_ (fun i hi => ?_)
  · rcases hr1 with ⟨h, _⟩ | ⟨b, o, h, hr⟩
    · exact .inl h
    · exact .inr ⟨b, o, h, RowAt.old (by simp) hr⟩
  · have : sat L i = L[i] := by simp [sat, hlen, hi]
    rw [this]
    exact hLok _ (List.getElem_mem _)
end Go.Proofs.Ythngpcaljljlaaa.Fw
