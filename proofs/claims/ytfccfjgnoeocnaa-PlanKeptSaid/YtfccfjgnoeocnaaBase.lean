import Derived.Test.YtfccfjgnoeocnaaProg
import Derived.Test.YtfccfjgnoeocnaaFw20
namespace Go.Proofs.Ytfccfjgnoeocnaa.Fw
open Go Go.Proofs
set_option linter.unusedVariables false
set_option linter.unusedSimpArgs false
set_option maxRecDepth 10000

abbrev Win := Int × Int × Int
def winRow (w : Win) : List Value := [.int .i64 w.1, .int .i64 w.2.1, .int .i64 w.2.2]
def wat (L : List Win) (i : Nat) : Win := L.getD i (0, 0, 0)
def bg (L : List Win) : Nat → Int
  | 0 => 0
  | i + 1 => bg L i + ((wat L i).2.1 + (wat L i).2.2)
def okW (w : Win) : Prop := 0 ≤ w.2.1 ∧ w.2.1 ≤ 16384 ∧ 0 ≤ w.2.2 ∧ w.2.2 ≤ 16384
def I64 (x : Int) : Prop := -9223372036854775808 ≤ x ∧ x ≤ 9223372036854775807
def May (L : List Win) : Prop := 1 ≤ L.length ∧ L.length ≤ 16 ∧ ∀ i, i < L.length → okW (wat L i)
def WR (w0 : World) (F : List Atom) (a : Option Addr) (n : Nat) (L : List Win) : Prop := L.length = n ∧ (∀ i, i < n → I64 (wat L i).1 ∧ I64 (wat L i).2.1 ∧ I64 (wat L i).2.2) ∧ (n = 0 ∨ ∃ b o, a = some ⟨b, o, none⟩ ∧ RowAt w0 F b o (L.map winRow).flatten)
theorem WR.ex {w0 : World} {F0 F : List Atom} {a n L} (h : WR w0 F0 a n L) [e : Ext F0 F] : WR w0 F a n L := ⟨h.1, h.2.1, h.2.2.imp id fun ⟨b, o, h1, h2⟩ => ⟨b, o, h1, h2.ex⟩⟩
theorem WR.some {w0 : World} {F : List Atom} {a n L} (h : WR w0 F a n L) {i : Nat} (hi : i < n) : ∃ b o, a = some ⟨b, o, none⟩ ∧ RowAt w0 F b o (L.map winRow).flatten := by
  rcases h.2.2 with h | h
  · omega
  · exact h
theorem win_len (L : List Win) : ∀ r ∈ L.map winRow, r.length = 3 := by
  intro r hr
  obtain ⟨o, _, rfl⟩ := List.mem_map.1 hr
  rfl
theorem win_at {L : List Win} {i : Nat} (h : i < L.length) : (L.map winRow)[i]? = some (winRow (wat L i)) := by simp [wat, h]
theorem bg_step {L : List Win} {i : Nat} : bg L (i + 1) = bg L i + ((wat L i).2.1 + (wat L i).2.2) := rfl
theorem bg_bound {L : List Win} (h : ∀ i, i < L.length → okW (wat L i)) : ∀ i, i ≤ L.length → 0 ≤ bg L i ∧ bg L i ≤ 32768 * i
  | 0, _ => by simp [bg]
  | i + 1, hi => by
    have h1 := bg_bound h i (by omega)
    have h2 := h i (by omega)
    unfold okW at h2
    rw [bg_step]
    omega
theorem bg_mono {L : List Win} (h : ∀ i, i < L.length → okW (wat L i)) : ∀ {i j : Nat}, i ≤ j → j ≤ L.length → bg L i ≤ bg L j := by
  intro i j hij hj
  induction j with
  | zero => have : i = 0 := by omega
            subst this; exact Int.le_refl _
  | succ j ih =>
    by_cases hh : i = j + 1
    · subst hh; exact Int.le_refl _
    · have h1 := ih (by omega) (by omega)
      have h2 := h j (by omega)
      unfold okW at h2
      rw [bg_step]
      omega
theorem not_may {L : List Win} (h : ¬ May L) (h1 : 1 ≤ L.length) (h2 : L.length ≤ 16) (h3 : ∀ j : Nat, (j : Int) < L.length → okW (wat L j)) : False := h ⟨h1, h2, fun i hi => h3 i (by omega)⟩
theorem ok_next {L : List Win} {i : Int} (h0 : 0 ≤ i) (h : ∀ j : Nat, (j : Int) < i → okW (wat L j)) (h1 : okW (wat L i.toNat)) : ∀ j : Nat, (j : Int) < i + 1 → okW (wat L j) := by
  intro j hj
  by_cases hh : (j : Int) < i
  · exact h j hh
  · have : j = i.toNat := by omega
    rw [this]; exact h1
def bgs (L : List Win) (i : Nat) : List Int := (List.range i).map (bg L)
theorem bgs_len (L : List Win) (i : Nat) : (bgs L i).length = i := by simp [bgs]
theorem bgs_snoc (L : List Win) (i : Nat) : bgs L i ++ [bg L i] = bgs L (i + 1) := by simp [bgs, List.range_succ]
theorem bgs_at {L : List Win} {i j : Nat} (h : j < i) : (bgs L i).getD j 0 = bg L j := by simp [bgs, List.getD_eq_getElem?_getD, h]

end Go.Proofs.Ytfccfjgnoeocnaa.Fw
