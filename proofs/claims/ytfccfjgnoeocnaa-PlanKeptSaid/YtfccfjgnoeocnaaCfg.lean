import Derived.Test.YtfccfjgnoeocnaaBase
namespace Go.Proofs.Ytfccfjgnoeocnaa.Fw
open Go Go.Proofs
set_option linter.unusedVariables false
set_option linter.unusedSimpArgs false
set_option maxRecDepth 10000

structure CoreR where
  a : Option Addr
  n : Nat
  c : Nat
  L : List Win
def coreV (K : CoreR) : Value := .slice K.a K.n K.c
def kat (Ks : List CoreR) (i : Nat) : CoreR := Ks.getD i ⟨none, 0, 0, []⟩
def CoreOk (w0 : World) (F : List Atom) (K : CoreR) : Prop := WR w0 F K.a K.n K.L ∧ K.n ≤ 9223372036854775807
def CR (w0 : World) (F : List Atom) (a : Option Addr) (n : Nat) (Ks : List CoreR) : Prop := Ks.length = n ∧ (∀ i, i < n → CoreOk w0 F (kat Ks i)) ∧ (n = 0 ∨ ∃ b o, a = some ⟨b, o, none⟩ ∧ RowAt w0 F b o (Ks.map coreV))
theorem CR.ex {w0 : World} {F0 F : List Atom} {a n Ks} (h : CR w0 F0 a n Ks) [e : Ext F0 F] : CR w0 F a n Ks := ⟨h.1, fun i hi => ⟨(h.2.1 i hi).1.ex, (h.2.1 i hi).2⟩, h.2.2.imp id fun ⟨b, o, h1, h2⟩ => ⟨b, o, h1, h2.ex⟩⟩
theorem CR.some {w0 : World} {F : List Atom} {a n Ks} (h : CR w0 F a n Ks) {i : Nat} (hi : i < n) : ∃ b o, a = some ⟨b, o, none⟩ ∧ RowAt w0 F b o (Ks.map coreV) := by
  rcases h.2.2 with h | h
  · omega
  · exact h
theorem CR.ok {w0 : World} {F : List Atom} {ca cn Ks} (h : CR w0 F ca cn Ks) {i : Nat} {a n c L} (hk : kat Ks i = ⟨a, n, c, L⟩) (hi : i < cn) : WR w0 F a n L ∧ n ≤ 9223372036854775807 := by
  have := h.2.1 i hi
  rw [hk] at this
  exact this
theorem core_cell {w0 : World} {F : List Atom} {b o i : Nat} {Ks : List CoreR} {a n c L} (h : RowAt w0 F b o (Ks.map coreV)) (hk : kat Ks i = ⟨a, n, c, L⟩) (hi : i < Ks.length) : CellAt w0 F b (o + i * 1) (.slice a n c) := by
  have : (Ks.map coreV)[i]? = some (.slice a n c) := by
    have h1 : Ks[i] = ⟨a, n, c, L⟩ := by rw [← hk]; simp [kat, hi]
    simp [hi, h1, coreV]
  have := h.cell this
  simpa using this
theorem found_lt {L : List Win} (hm : May L) {i j : Nat} (hij : i < j) (hj : j ≤ L.length) : bg L (i + 1) ≤ bg L j := bg_mono hm.2.2 hij hj
end Go.Proofs.Ytfccfjgnoeocnaa.Fw
