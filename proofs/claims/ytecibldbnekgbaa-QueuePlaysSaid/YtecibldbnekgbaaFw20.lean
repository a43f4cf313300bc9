import Derived.Test.YtecibldbnekgbaaFw19
namespace Go.Proofs.Ytecibldbnekgbaa.Fw
open Go
set_option linter.unusedVariables false
set_option linter.unusedSimpArgs false

/- Lists of whole numbers that are read, nil ones too; lists of lists. -/
def IR (w0 : World) (F : List Atom) (kd : IntKind) (a : Option Addr) (n : Nat) (W : List Int) : Prop := W.length = n ∧ (n = 0 ∨ ∃ b o, a = some ⟨b, o, none⟩ ∧ RowAt w0 F b o (ints kd W))
theorem IR.ex {w0 : World} {F0 F : List Atom} {kd a n W} (h : IR w0 F0 kd a n W) [e : Ext F0 F] : IR w0 F kd a n W := ⟨h.1, h.2.imp id fun ⟨b, o, h1, h2⟩ => ⟨b, o, h1, h2.ex⟩⟩
theorem IR.some {w0 : World} {F : List Atom} {kd a n W} (h : IR w0 F kd a n W) {i : Nat} (hi : i < n) : ∃ b o, a = some ⟨b, o, none⟩ ∧ RowAt w0 F b o (ints kd W) := by
  rcases h.2 with h | h
  · omega
  · exact h
theorem IR.own {w0 : World} {F : List Atom} {kd : IntKind} {E n cap : Nat} {a : Option Addr} {W : List Int} (hW : W.length = n) (hm : Own E 1 (.slice a n cap) n (ints kd W) ∈ F) (ha : n = 0 ∨ ∃ g, a = Option.some ⟨g, 0, none⟩) : IR w0 F kd a n W :=
  ⟨hW, ha.imp id fun ⟨g, h⟩ => ⟨g, 0, h, by subst h; exact .own hm⟩⟩
structure LV where
  a : Option Addr
  n : Nat
  c : Nat
def lvV (l : LV) : Value := .slice l.a l.n l.c
def lat (Ls : List LV) (k : Nat) : LV := Ls.getD k ⟨none, 0, 0⟩
theorem lv_cell {w0 : World} {F0 F : List Atom} {b o i : Nat} {Ls : List LV} {a n c} (h : RowAt w0 F0 b o (Ls.map lvV)) (hk : lat Ls i = ⟨a, n, c⟩) (hi : i < Ls.length) [e : Ext F0 F] : CellAt w0 F b (o + i * 1) (.slice a n c) := by
  have : (Ls.map lvV)[i]? = some (.slice a n c) := by
    have h1 : Ls[i] = ⟨a, n, c⟩ := by rw [← hk]; simp [lat, hi]
    simp [hi, h1, lvV]
  have := h.ex.cell (F := F) this
  simpa using this
theorem own_slice {w0 : World} {F : List Atom} {E sz v m xs} (hm : Own E sz v m xs ∈ F) (w : World) (hw : Holds w0 F w) : ∃ a c, v = .slice a m c ∧ (m = 0 ∨ ∃ g, a = some ⟨g, 0, none⟩) := by
  rcases (own_cases hm w hw).2.2 with ⟨rfl, rfl⟩ | ⟨g, c, rfl, _⟩
  · exact ⟨_, _, rfl, .inl rfl⟩
  · exact ⟨_, _, rfl, .inr ⟨g, rfl⟩⟩
theorem fam_slice {w0 : World} {F : List Atom} {E sz : Nat} {Z : List Value} {vs : List (Value × Nat)} (hF : Fam E sz Z vs ∈ F) {v : Value} {n : Nat} (hm : (v, n) ∈ vs) (w : World) (h : Holds w0 F w) : ∃ a c, v = .slice a n c ∧ (n = 0 ∨ ∃ g, a = some ⟨g, 0, none⟩) ∧ n * sz ≤ Z.length ∧ n ≤ maxLen := by
  obtain ⟨h1, h2, h3⟩ := Fam.cases hF hm w h
  rcases h3 with ⟨rfl, rfl⟩ | ⟨g, c, rfl, _⟩
  · exact ⟨_, _, rfl, .inl rfl, h1, h2⟩
  · exact ⟨_, _, rfl, .inr ⟨g, rfl⟩, h1, h2⟩
theorem IR.fam {w0 : World} {F : List Atom} {kd : IntKind} {E n cap : Nat} {a : Option Addr} {W : List Int} {vs : List (Value × Nat)} (hF : Fam E 1 (ints kd W) vs ∈ F) (hm : (Value.slice a n cap, n) ∈ vs) (hn : n ≤ W.length) (ha : n = 0 ∨ ∃ g, a = Option.some ⟨g, 0, none⟩) : IR w0 F kd a n (W.take n) :=
  ⟨by rw [List.length_take]; omega, ha.imp id fun ⟨g, h⟩ => ⟨g, 0, h, by subst h; have := Fam.row (w0 := w0) hF hm; rwa [Nat.mul_one, ints_take] at this⟩⟩
theorem rep_next {n : Nat} {x : Int} {j : Nat} {W : List Int} (hW : W.length = n) (h : ∀ q, q < j → W.getD q 0 = x) (hj : j < n) : ∀ q, q < j + 1 → (W.set j x).getD q 0 = x := by
  intro q hq
  simp only [List.getD_eq_getElem?_getD, List.getElem?_set]
  split
  · rename_i h1
    rw [if_pos (by omega)]; rfl
  · exact (by have := h q (by omega); simpa [List.getD_eq_getElem?_getD] using this)
theorem rep_full {n : Nat} {x : Int} {W : List Int} (hW : W.length = n) (h : ∀ q, q < n → W.getD q 0 = x) : W = List.replicate n x := by
  apply List.ext_getElem
  · simp [hW]
  · intro i h1 h2
    have := h i (by omega)
    simp [h1] at this ⊢
    exact this
theorem rep_snoc (n : Nat) (x : Int) : List.replicate n x ++ [x] = List.replicate (n + 1) x := by rw [List.replicate_succ']
theorem getD_repapp {n m q : Nat} {x y : Int} (h : q < n + m) : (List.replicate n x ++ List.replicate m y).getD q 0 = if q < n then x else y := by
  simp only [List.getD_eq_getElem?_getD, List.getElem?_append, List.length_replicate]
  split
  · simp [*]
  · simp [show q - n < m by omega]
theorem repapp_get {kd : IntKind} {n m q : Nat} {x y : Int} (h1 : n ≤ q) (h2 : q < n + m) : (ints kd (List.replicate n x ++ List.replicate m y))[q]? = some (.int kd y) := by
  have := ints_get (kd := kd) (W := List.replicate n x ++ List.replicate m y) (i := q) (by simp; omega)
  rw [this, getD_repapp h2, if_neg (by omega)]
theorem getD_take {W : List Int} {m q : Nat} (h : q < m) : (W.take m).getD q 0 = W.getD q 0 := by simp [List.getD_eq_getElem?_getD, List.getElem?_take, h]
theorem own_cell {w0 : World} {F : List Atom} {g E n cap : Nat} {X : List Value} [h : OwnIn F g E 1 n cap X] {i : Nat} {v : Value} (hv : X[i]? = some v) : CellAt w0 F g (0 + i * 1) v := by
  have := (RowAt.own (w0 := w0) h.mem).cell hv
  simpa using this
theorem getD_some {α : Type} {X : List α} {i : Nat} {d v : α} (h : X.getD i d = v) (hi : i < X.length) : X[i]? = some v := by
  rw [List.getD_eq_getElem?_getD, List.getElem?_eq_getElem hi] at h
  rw [List.getElem?_eq_getElem hi]
  exact congrArg some h
end Go.Proofs.Ytecibldbnekgbaa.Fw
