import Derived.Test.YthngpcaljljlaaaRefG
import Derived.Test.YthngpcaljljlaaaSmalls
namespace Go.Proofs.Ythngpcaljljlaaa.Fw
open Go Go.Proofs
set_option linter.unusedVariables false
set_option linter.unusedSimpArgs false
set_option maxRecDepth 10000

/- What both sides answer is one. -/
theorem ReadG.same {W : List Int} {n : Nat} {at_ wd : Int} {h : Nat} {T T2 : List Int} {e e2 : Int} (h1 : ReadG W n at_ wd h T e) (h2 : ReadG W n at_ wd h T2 e2) : T = T2 ∧ e = e2 := by
  rcases h1 with ⟨a, b, c⟩ | ⟨a, b, c, d⟩ | ⟨a, c, d⟩ <;> rcases h2 with ⟨a2, b2, c2⟩ | ⟨a2, b2, c2, d2⟩ | ⟨a2, c2, d2⟩
  · exact ⟨b.trans b2.symm, a.trans a2.symm⟩
  · exact absurd c2 c
  · exact absurd c2 c
  · exact absurd c c2
  · exact ⟨b.trans b2.symm, a.trans a2.symm⟩
  · rw [d] at d2; cases d2
  · exact absurd c c2
  · rw [d] at d2; cases d2
  · rw [d] at d2; injection d2 with d2; exact ⟨d2, a.trans a2.symm⟩
theorem StgG.same {W : List Int} {n : Nat} {at_ wd k k2 e e2 : Int} (h1 : StgG W n at_ wd k e) (h2 : StgG W n at_ wd k2 e2) : k = k2 ∧ e = e2 := by
  rcases h1 with ⟨a, b, c⟩ | ⟨a, T, b, c⟩ <;> rcases h2 with ⟨a2, b2, c2⟩ | ⟨a2, T2, b2, c2⟩
  · exact ⟨c.trans c2.symm, b.trans b2.symm⟩
  · exact absurd a2 a
  · exact absurd a a2
  · obtain ⟨rfl, rfl⟩ := b.same b2
    exact ⟨c.trans c2.symm, rfl⟩
theorem RdpG.same {W : List Int} {n : Nat} {at_ wd : Int} {T T2 : List Int} {fr fr2 th th2 : Bool} {e e2 : Int} (h1 : RdpG W n at_ wd T fr th e) (h2 : RdpG W n at_ wd T2 fr2 th2 e2) : T = T2 ∧ fr = fr2 ∧ th = th2 ∧ e = e2 := by
  rcases h1 with ⟨a, b, c, d, f⟩ | ⟨a, b, c, d, f⟩ | ⟨a, b, c, d, f, g⟩ <;> rcases h2 with ⟨a2, b2, c2, d2, f2⟩ | ⟨a2, b2, c2, d2, f2⟩ | ⟨a2, b2, c2, d2, f2, g2⟩
  · exact ⟨c.trans c2.symm, d.trans d2.symm, f.trans f2.symm, a.trans a2.symm⟩
  · exact absurd a2 b
  · exact absurd a2 b
  · exact absurd a b2
  · exact ⟨b.trans b2.symm, c.trans c2.symm, d.trans d2.symm, (f.same f2).2⟩
  · have := (f.same f2).1
    subst this
    rw [b] at c2
    simp at c2
  · exact absurd a b2
  · have := (f.same f2).1
    subst this
    rw [b2] at c
    simp at c
  · exact ⟨(f.same f2).1, g.trans g2.symm, d.trans d2.symm, b.trans b2.symm⟩
theorem PutG.same {W : List Int} {n : Nat} {at_ wd : Int} {M W2 W3 : List Int} {e e2 : Int} (h1 : PutG W n at_ wd M W2 e) (h2 : PutG W n at_ wd M W3 e2) : W2 = W3 ∧ e = e2 := by
  rcases h1 with ⟨a, b, c⟩ | ⟨a, b, c, d⟩ | ⟨a, b, c, d, f⟩ | ⟨a, b, c, d, f, g⟩ | ⟨a, b, c, ⟨T, d⟩, f, g⟩ <;> rcases h2 with ⟨a2, b2, c2⟩ | ⟨a2, b2, c2, d2⟩ | ⟨a2, b2, c2, d2, f2⟩ | ⟨a2, b2, c2, d2, f2, g2⟩ | ⟨a2, b2, c2, ⟨T2, d2⟩, f2, g2⟩ <;> first | exact absurd a2 a | exact absurd a a2 | exact absurd b b2 | exact absurd b2 b | exact absurd c c2 | exact absurd c2 c | (rw [d] at d2; cases d2; done) | (subst_vars; exact ⟨rfl, rfl⟩)
theorem ReadyG.same {W : List Int} {n : Nat} {st wd : Int} {P : List Int} {q : Nat} {e e2 : Int} (h1 : ReadyG W n st wd P q e) (h2 : ReadyG W n st wd P q e2) : e = e2 := by
  have k2 : ∀ {x : Prop}, (¬ ApartP st wd P q ∨ ∃ i, i < q ∧ heldV (part W (pAt P i) (3 + wd)) 3 = none) → ApartP st wd P q → (∀ i, i < q → ∃ T, heldV (part W (pAt P i) (3 + wd)) 3 = some T) → x := by
    intro x h ha hT
    rcases h with h | ⟨i, hi, h⟩
    · exact absurd ha h
    · obtain ⟨T, hT⟩ := hT i hi
      rw [hT] at h; cases h
  have k1 : ∀ {x : Prop}, (¬ inR n st (2 + wd) ∨ ∃ i, i < q ∧ ¬ inR n (pAt P i) (3 + wd)) → Rdy0 n st wd P q → x := by
    intro x h hr
    rcases h with h | ⟨i, hi, h⟩
    · exact absurd hr.2.1 h
    · exact absurd (hr.2.2 i hi) h
  rcases h1 with ⟨a, b⟩ | ⟨a, b, c⟩ | ⟨a, b, c⟩ | ⟨a, b, c, d⟩ <;> rcases h2 with ⟨a2, b2⟩ | ⟨a2, b2, c2⟩ | ⟨a2, b2, c2⟩ | ⟨a2, b2, c2, d2⟩ <;> first
    | (subst_vars; rfl) | exact absurd b2 b | exact absurd b b2 | exact absurd b2.1 b | exact absurd b.1 b2 | exact k1 c b2 | exact k1 c2 b | exact k2 c c2 d2 | exact k2 c2 c d
theorem DelG.same {W : List Int} {n : Nat} {st wd : Int} {P : List Int} {q : Nat} {W2 W3 : List Int} {e e2 : Int} (h1 : DelG W n st wd P q W2 e) (h2 : DelG W n st wd P q W3 e2) : W2 = W3 ∧ e = e2 := by
  have k0 : ReadyG W n st wd P q 0 → ∀ e, e ≠ 0 → (ReadyG W n st wd P q e ∨ (ReadyG W n st wd P q 0 ∧ e = 191 ∧ heldV (part W st (2 + wd)) 2 = none)) → heldV (part W st (2 + wd)) 2 = none := by
    intro h e he h2
    rcases h2 with h2 | h2
    · exact absurd (h2.same h) he
    · exact h2.2.2
  rcases h1 with ⟨a, b, c⟩ | ⟨a, b, c⟩ <;> rcases h2 with ⟨a2, b2, c2⟩ | ⟨a2, b2, c2⟩
  · refine ⟨b.trans b2.symm, ?_⟩
    rcases c with c | ⟨c, d, f⟩ <;> rcases c2 with c2 | ⟨c2, d2, f2⟩
    · exact c.same c2
    · exact absurd (c.same c2) a
    · exact absurd (c2.same c) a2
    · exact d.trans d2.symm
  · have h := k0 b2 e a c
    rcases c2 with ⟨h5, _⟩ | ⟨T, h5, _⟩ <;> (rw [h] at h5; cases h5)
  · have h := k0 b e2 a2 c2
    rcases c with ⟨h5, _⟩ | ⟨T, h5, _⟩ <;> (rw [h] at h5; cases h5)
  · refine ⟨?_, a.trans a2.symm⟩
    rcases c with ⟨h5, h6⟩ | ⟨T, h5, h6, h7⟩ <;> rcases c2 with ⟨h8, h9⟩ | ⟨T2, h8, h9, h10⟩
    · exact h6.trans h9.symm
    · rw [h5] at h8; injection h8 with h8; subst h8; simp at h9
    · rw [h5] at h8; injection h8 with h8; subst h8; simp at h6
    · rw [h5] at h8; injection h8 with h8; subst h8; exact h7.trans h10.symm
/-- Which words a call may write. -/
def OneG (n : Nat) (W : List Int) (kd at_ wd : Int) (nl : Bool) (P : List Int) (q : Nat) (W2 : List Int) : Prop :=
  W2.length = n ∧ W32s W2 ∧ (kd = 4 ∨ ∀ i : Nat, W2.getD i 0 ≠ W.getD i 0 → nl = false ∧ WdOk wd ∧ ((kd = 0 ∧ inR n at_ (2 + wd) ∧ at_ ≤ i ∧ (i : Int) < at_ + (2 + wd)) ∨ (kd = 2 ∧ ((inR n at_ (2 + wd) ∧ at_ ≤ i ∧ (i : Int) < at_ + (2 + wd)) ∨ ∃ k, k < q ∧ inR n (pAt P k) (3 + wd) ∧ pAt P k ≤ i ∧ (i : Int) < pAt P k + (3 + wd)))))
theorem OneG.stay {n : Nat} {W : List Int} {kd at_ wd : Int} {nl : Bool} {P : List Int} {q : Nat} (hW : W.length = n) (hU : W32s W) : OneG n W kd at_ wd nl P q W := ⟨hW, hU, .inr fun i h => absurd rfl h⟩
theorem spl_out {W Y : List Int} {o i : Nat} (ho : o + Y.length ≤ W.length) (h : (spl o Y W).getD i 0 ≠ W.getD i 0) : o ≤ i ∧ i < o + Y.length := by
  rw [spl_getD ho] at h
  split at h
  · assumption
  · exact absurd rfl h
theorem PutG.one {W : List Int} {n : Nat} {at_ wd : Int} {M W2 : List Int} {e : Int} {P : List Int} {q : Nat} (hW : W.length = n) (hU : W32s W) (hM : W32s M) (h : PutG W n at_ wd M W2 e) : OneG n W 0 at_ wd false P q W2 := by
  rcases h with ⟨a, b, c⟩ | ⟨a, b, c, d⟩ | ⟨a, b, c, d, f⟩ | ⟨a, b, c, d, f, g⟩ | ⟨a, b, c, ⟨T, d⟩, f, g⟩
  · rw [c]; exact .stay hW hU
  · rw [d]; exact .stay hW hU
  · rw [f]; exact .stay hW hU
  · rw [g]; exact .stay hW hU
  · subst g
    have hl := stageW_len c.1 c.2
    obtain ⟨w1, w2⟩ := id a
    have hi := id b
    unfold inR at hi
    have ho : at_.toNat + (stageW M wd).length ≤ W.length := by omega
    refine ⟨by rw [spl_length ho]; exact hW, spl_u32 ho (stageW_u hM c.1 c.2 w2) hU, .inr fun i h => ⟨rfl, a, .inl ⟨rfl, b, ?_⟩⟩⟩
    have := spl_out ho h
    omega
theorem clearP_u {W P : List Int} (hU : W32s W) : ∀ k, W32s (clearP W P k)
  | 0 => hU
  | k + 1 => by
    have ih := clearP_u (P := P) hU k
    simp only [clearP]
    intro j
    by_cases h : (pAt P k + 1).toNat < (clearP W P k).length
    · rw [set_getD h]; split
      · decide
      · exact ih j
    · rw [List.set_eq_of_length_le (by omega)]; exact ih j
theorem layP_u {W P Y : List Int} {n : Nat} (hW : W.length = n) (hU : W32s W) (hY : W32s Y) : ∀ k, (∀ i, i < k → (pAt P i).toNat + Y.length ≤ n) → W32s (layP W P Y k)
  | 0, _ => hU
  | k + 1, h => by
    have ih := layP_u (P := P) hW hU hY k fun i hi => h i (by omega)
    have hl := layP_len (P := P) (Y := Y) hW k fun i hi => h i (by omega)
    have := h k (by omega)
    simp only [layP]
    exact spl_u32 (by omega) hY ih
theorem clearP_out {W P : List Int} {i : Nat} : ∀ k, (clearP W P k).getD i 0 ≠ W.getD i 0 → ∃ j, j < k ∧ (pAt P j + 1).toNat = i
  | 0, h => absurd rfl h
  | k + 1, h => by
    simp only [clearP] at h
    by_cases e : (pAt P k + 1).toNat = i
    · exact ⟨k, by omega, e⟩
    · have h3 : ((clearP W P k).set (pAt P k + 1).toNat 0).getD i 0 = (clearP W P k).getD i 0 := by simp [List.getD_eq_getElem?_getD, List.getElem?_set_ne e]
      rw [h3] at h
      obtain ⟨j, hj, e2⟩ := clearP_out k h
      exact ⟨j, by omega, e2⟩
theorem layP_out {W P Y : List Int} {n i : Nat} (hW : W.length = n) : ∀ k, (∀ i, i < k → (pAt P i).toNat + Y.length ≤ n) → (layP W P Y k).getD i 0 ≠ W.getD i 0 → ∃ j, j < k ∧ (pAt P j).toNat ≤ i ∧ i < (pAt P j).toNat + Y.length
  | 0, _, h => absurd rfl h
  | k + 1, hin, h => by
    have hl := layP_len (P := P) (Y := Y) hW k fun i hi => hin i (by omega)
    have hk := hin k (by omega)
    simp only [layP] at h
    by_cases e : (spl (pAt P k).toNat Y (layP W P Y k)).getD i 0 = (layP W P Y k).getD i 0
    · rw [e] at h
      obtain ⟨j, hj, e2⟩ := layP_out hW k (fun i hi => hin i (by omega)) h
      exact ⟨j, by omega, e2⟩
    · exact ⟨k, by omega, spl_out (by omega) e⟩
theorem DelG.one {W : List Int} {n : Nat} {st wd : Int} {P : List Int} {q : Nat} {W2 : List Int} {e : Int} (hW : W.length = n) (hU : W32s W) (h : DelG W n st wd P q W2 e) : OneG n W 2 st wd false P q W2 := by
  rcases h with ⟨a, b, c⟩ | ⟨a, b, c⟩
  · rw [b]; exact .stay hW hU
  · obtain ⟨⟨hwd, q1, q2⟩, hst, hin⟩ := b.rdy rfl
    obtain ⟨w1, w2⟩ := id hwd
    have hst2 := id hst
    unfold inR at hst2
    rcases c with ⟨h5, h6⟩ | ⟨T, h5, h6, h7⟩
    · subst h6
      refine ⟨by rw [clearP_len]; exact hW, clearP_u hU q, .inr fun i h => ⟨rfl, hwd, .inr ⟨rfl, .inr ?_⟩⟩⟩
      obtain ⟨j, hj, e⟩ := clearP_out q h
      have hji := hin j hj
      have hji2 := id hji
      unfold inR at hji2
      exact ⟨j, hj, hji, by omega, by omega⟩
    · subst h7
      have hTl : (T.length : Int) ≤ wd := by
        have := part_len hW hst
        rcases held_len h5 with h | h
        · omega
        · rw [h] at h6; simp at h6
      have hp := portW_len h6 hTl
      have hin2 : ∀ i, i < q → (pAt P i).toNat + (portW T wd).length ≤ n := fun i hi => by
        have := hin i hi
        unfold inR at this
        omega
      have hl := layP_len (P := P) (Y := portW T wd) hW q hin2
      have ho : st.toNat + (List.replicate (2 + wd).toNat (0 : Int)).length ≤ (layP W P (portW T wd) q).length := by rw [hl, List.length_replicate]; omega
      refine ⟨by rw [spl_length ho]; exact hl, spl_u32 ho (rep_u32 _) (layP_u hW hU (portW_u (held_u32 h5 (hU.part _ _)) h6 hTl w2) q hin2), .inr fun i h => ⟨rfl, hwd, .inr ⟨rfl, ?_⟩⟩⟩
      by_cases e : (spl st.toNat (List.replicate (2 + wd).toNat 0) (layP W P (portW T wd) q)).getD i 0 = (layP W P (portW T wd) q).getD i 0
      · rw [e] at h
        obtain ⟨j, hj, e1, e2⟩ := layP_out hW q hin2 h
        have hji := hin j hj
        have hji2 := id hji
        unfold inR at hji2
        exact .inr ⟨j, hj, hji, by omega, by omega⟩
      · have := spl_out ho e
        rw [List.length_replicate] at this
        exact .inl ⟨hst, by omega, by omega⟩
theorem set_u32 {W : List Int} {i : Nat} {x : Int} (hU : W32s W) (h0 : 0 ≤ x) (h1 : x ≤ 4294967295) : W32s (W.set i x) := by
  intro j
  by_cases h : i < W.length
  · rw [set_getD h]; split
    · exact ⟨h0, h1⟩
    · exact hU j
  · rw [List.set_eq_of_length_le (by omega)]; exact hU j
theorem OneG.set {n : Nat} {W : List Int} {at_ wd x : Int} {nl : Bool} {P : List Int} {q i : Nat} (hW : W.length = n) (hU : W32s W) (h0 : 0 ≤ x) (h1 : x ≤ 4294967295) : OneG n W 4 at_ wd nl P q (W.set i x) := ⟨by rw [List.length_set]; exact hW, set_u32 hU h0 h1, .inl rfl⟩
theorem begV_u {B : List Int} (h : W32s B) : W32s (begV B) := by
  unfold begV
  exact spl_u32 (by rw [List.length_take]; simp; omega) (take_u h 80) (rep_u32 80)

end Go.Proofs.Ythngpcaljljlaaa.Fw
