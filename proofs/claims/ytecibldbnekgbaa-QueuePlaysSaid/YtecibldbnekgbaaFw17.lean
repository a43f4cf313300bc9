import Derived.Test.YtecibldbnekgbaaFw16
import Derived.SizedLaws
namespace Go.Proofs.Ytecibldbnekgbaa.Fw
open Go
set_option linter.unusedVariables false
set_option linter.unusedSimpArgs false

/- Arguments, with what they weigh. -/
/-- These cells read as a value of this type, and no list or text in it is larger than memory. -/
def Viz (P : Program) (w : World) (t : TypeId) (cs : List Value) : Prop :=
  ∃ (H : Type) (enc : TypeId × Value → H) (base : Nat) (spare : Nat → Bool) (held : Bool) (fuel : Nat) (x : DataW H × List MemPlace), DataW.trod enc P w base spare held fuel t cs = some x ∧ ∀ m ∈ x.1.weights P t, m ≤ reachBytes
theorem Viz.of {P : Program} {w : World} {H : Type} {enc : TypeId × Value → H} {base : Nat} {spare : Nat → Bool} {held : Bool} {t : TypeId} {v : Value} {d : DataW H} {ps : List MemPlace} {ts : List TypeId} {ds : List (DataW H)} (h : DataW.Trod enc P w base spare held t v d ps)
    (hz : (DataW.weightsEach P ts ds).all (· ≤ reachBytes) = true) (j : Nat) (ht : ts[j]? = some t) (hd : ds[j]? = some d) : Viz P w t v.cells.toList := by
  obtain ⟨fuel, h⟩ := h
  exact ⟨H, enc, base, spare, held, fuel, _, h, fun m hm => by simpa using List.all_eq_true.1 hz _ (DataW.weights_mem_each ht hd m hm)⟩
theorem Viz.vis {P : Program} {w : World} {t : TypeId} {cs : List Value} (h : Viz P w t cs) : Vis P w t cs := by
  obtain ⟨H, enc, base, spare, held, fuel, x, h, _⟩ := h
  exact ⟨H, enc, base, spare, held, fuel, x, h⟩
theorem weights_mem_all {H : Type} {P : Program} {e : TypeId} : ∀ {l : List (DataW H)} {d : DataW H}, d ∈ l → ∀ m ∈ d.weights P e, m ∈ DataW.weightsAll P e l
  | d0 :: l, d, hd, m, hm => by
    simp only [DataW.weightsAll, List.mem_append]
    rcases List.mem_cons.1 hd with rfl | hd
    · exact .inl hm
    · exact .inr (weights_mem_all hd m hm)
section
variable {P : Program} {w : World} {t e : TypeId} {cs : List Value}
theorem viz_string (ht : P.underlying t = some .string) (h : Viz P w t cs) : ∃ s : ByteArray, cs = [.string s] ∧ s.size ≤ 140737488351232 := by
  obtain ⟨H, enc, base, spare, held, fuel, x, h, hz⟩ := h
  obtain ⟨n, h1, h3, h2⟩ := DataW.trod_string ht h
  refine ⟨n, h1, ?_⟩
  subst h3
  have := hz _ (List.mem_singleton.2 rfl)
  have hl : n.toList.length = n.size := by
    have : n.toList = n.data.toList := by rw [ByteArray.toList_eq]
    rw [this]; rfl
  simp only [reachBytes] at this
  first | (rw [hl] at this; omega) | (simp at this; omega) | exact this
theorem viz_struct {fs : Array Field} (ht : P.underlying t = some (.struct fs)) (h : Viz P w t cs) : cs.length = P.cellsOf t ∧ ∀ (i : Nat) (f : Field), fs[i]? = some f → Viz P w f.type ((cs.drop f.offset).take (P.cellsOf f.type)) := by
  obtain ⟨H, enc, base, spare, held, fuel, x, h, hz⟩ := h
  obtain ⟨xs, n, _, hx0, hl, hx, hf⟩ := DataW.trod_struct ht h
  refine ⟨hl, fun i f hi => ?_⟩
  have hlt : i < xs.length := by
    rw [hx]
    exact (Array.getElem?_eq_some_iff.1 hi).1
  refine ⟨H, enc, base, spare, held, n, xs[i], by rw [hf i f hi]; simp [hlt], fun m hm => hz m ?_⟩
  subst hx0
  simp only [DataW.weights, ht]
  refine DataW.weights_mem_each (j := i) (t := f.type) (d := xs[i].1) ?_ ?_ m hm
  · simp [hi]
  · simp [hlt]
/-- A slice: its elements' cells, in rows. -/
theorem viz_slice {sz by_ : Nat} (ht : P.underlying t = some (.slice e)) (hsz : P.cellsOf e = sz) (hby : P.bytesOf e = by_) (hpos : 0 < sz) (hvis : Viz P w t cs) :
    ∃ a n c, ∃ rows : List (List Value), cs = [.slice a n c] ∧ n ≤ c ∧ c ≤ maxLen ∧ n * by_ ≤ 140737488351232 ∧ rows.length = n ∧ (∀ r ∈ rows, r.length = sz ∧ Viz P w e r) ∧
      ((n = 0 ∧ (a = none → c = 0)) ∨ ∃ b o, a = some ⟨b, o, none⟩ ∧ ∀ (j : Nat) u, rows.flatten[j]? = some u → w.cell? ⟨b, o + j, none⟩ = some u) := by
  obtain ⟨H, enc, base, spare, held, fuel, x, h, hz⟩ := hvis
  rcases DataW.trod_slice ht h with ⟨rfl, _⟩ | ⟨a, len, cap, elems, rest, m, _, rfl, hx0, _, hl, hm, hel, hE, _⟩
  · exact ⟨none, 0, 0, [], rfl, Nat.le_refl _, Nat.zero_le _, by omega, rfl, (fun r hr => absurd hr List.not_mem_nil), .inl ⟨rfl, fun _ => rfl⟩⟩
  · subst hx0
    simp only [DataW.weights, ht, List.length_map] at hz
    have hbig := hz _ (List.mem_cons_self ..)
    rw [hsz] at hE
    have hrow : ∀ i, i < len → ∃ (r : List Value) (y : DataW H × List MemPlace), w.cells? base (a.add (i * sz)) sz = some r ∧ DataW.trod enc P w base spare held m e r = some y ∧ elems[i]? = some y := by
      intro i hi
      have := hE i hi
      rw [List.getElem?_eq_getElem (by omega)] at this
      simp only [Option.bind_eq_some_iff] at this
      obtain ⟨r, h1, h2⟩ := this
      exact ⟨r, _, h1, h2, List.getElem?_eq_getElem (by omega)⟩
    obtain ⟨rows, ys, h1, h2, h3⟩ := list_choose len hrow
    have hall : ∀ r ∈ rows, r.length = sz ∧ Viz P w e r := by
      intro r hr
      obtain ⟨i, hi, rfl⟩ := List.getElem_of_mem hr
      obtain ⟨hc, hv, hy⟩ := h3 i rows[i] ys[i] (by simp [hi]) (by simp [show i < ys.length by omega])
      refine ⟨(cells_row hc).1, H, enc, base, spare, held, m, _, hv, fun q hq => hz q (List.mem_cons_of_mem _ (List.mem_append_left _ (weights_mem_all (List.mem_map.2 ⟨_, List.mem_of_getElem? hy, rfl⟩) q hq)))⟩
    refine ⟨some a, len, cap, rows, rfl, hl, hm, ?_, h1, hall, ?_⟩
    · rw [hby, hel] at hbig
      simp only [reachBytes] at hbig
      exact Nat.le_trans (Nat.mul_le_mul_right _ (Nat.le_add_right ..)) hbig
    by_cases h0 : len = 0
    · exact .inl ⟨h0, fun h => by cases h⟩
    · obtain ⟨ab, ao, as⟩ := a
      have hsp : as = none := by
        obtain ⟨hc, _⟩ := h3 0 rows[0] ys[0] (by simp [show 0 < rows.length by omega]) (by simp [show 0 < ys.length by omega])
        obtain ⟨hl0, hc0⟩ := cells_row hc
        have := hc0 0 hpos
        rw [List.getElem?_eq_getElem (by omega)] at this
        have hs := spot_none this
        simpa [Addr.add] using hs
      subst hsp
      refine .inr ⟨ab, ao, rfl, fun j u hj => ?_⟩
      have hflen := flat_len (fun r hr => (hall r hr).1)
      have hjl : j < rows.length * sz := by
        rcases Nat.lt_or_ge j (rows.length * sz) with h | h
        · exact h
        · rw [List.getElem?_eq_none (by omega)] at hj; cases hj
      have hdiv : j / sz < rows.length := Nat.div_lt_of_lt_mul (by rw [Nat.mul_comm]; exact hjl)
      have hmod : j % sz < sz := Nat.mod_lt _ hpos
      obtain ⟨hc, _⟩ := h3 (j / sz) rows[j / sz] ys[j / sz] (by simp [hdiv]) (by simp [show j / sz < ys.length by omega])
      obtain ⟨hl0, hc0⟩ := cells_row hc
      have hg := flat_get (fun r hr => (hall r hr).1) (j / sz) (j % sz) rows[j / sz] (by simp [hdiv]) hmod
      have hj' : j / sz * sz + j % sz = j := by rw [Nat.mul_comm]; exact Nat.div_add_mod j sz
      rw [hj', hj] at hg
      have := hc0 (j % sz) hmod
      rw [← hg, add_none, add_none] at this
      simp only [Nat.add_assoc] at this
      rwa [hj'] at this
/-- A slice of whole numbers. -/
theorem viz_ints {k : IntKind} {by_ : Nat} (ht : P.underlying t = some (.slice e)) (he : P.underlying e = some (.int k)) (hc : P.cellsOf e = 1) (hby : P.bytesOf e = by_) (h : Viz P w t cs) :
    ∃ a n c, ∃ W : List Int, cs = [.slice a n c] ∧ n ≤ c ∧ c ≤ maxLen ∧ n * by_ ≤ 140737488351232 ∧ W.length = n ∧ (∀ x ∈ W, (Lit.int k x).wf = true) ∧
      ((n = 0 ∧ (a = none → c = 0)) ∨ ∃ b o, a = some ⟨b, o, none⟩ ∧ ∀ (j : Nat) u, (ints k W)[j]? = some u → w.cell? ⟨b, o + j, none⟩ = some u) := by
  obtain ⟨a, n, c, rows, h1, h2, h3, hz, h4, h5, h6⟩ := viz_slice ht hc hby (by decide) h
  obtain ⟨W, hW, hwf⟩ := rows_choose (f := fun x : Int => [Value.int k x]) (R := fun x => (Lit.int k x).wf = true) (rows := rows) (fun r hr => by
    obtain ⟨x, hx, hw⟩ := vis_int he (h5 r hr).2.vis
    exact ⟨x, hx, hw⟩)
  have hflat : rows.flatten = ints k W := by
    subst hW
    clear h4 h5 h6 hwf
    induction W with
    | nil => rfl
    | cons x W ih => simp only [List.map_cons, List.flatten_cons, ih]; rfl
  refine ⟨a, n, c, W, h1, h2, h3, hz, by rw [← h4, hW]; simp, hwf, ?_⟩
  rwa [hflat] at h6
end
theorem argz_ints {P : Program} {w : World} {t e : TypeId} {k : IntKind} {r : Reach} {b0 by_ : Nat} {v : Value} (ht : P.underlying t = some (.slice e)) (he : P.underlying e = some (.int k)) (hc : P.cellsOf e = 1) (hby : P.bytesOf e = by_) (hv : Value.okWide P w r b0 t v) (h : Viz P w t v.cells.toList) :
    ∃ a n c, ∃ W : List Int, v = .slice a n c ∧ n ≤ c ∧ c ≤ maxLen ∧ n * by_ ≤ 140737488351232 ∧ W.length = n ∧ (∀ x ∈ W, (Lit.int k x).wf = true) ∧
      ((n = 0 ∧ (a = none → c = 0)) ∨ ∃ b o, a = some ⟨b, o, none⟩ ∧ ∀ (j : Nat) u, (ints k W)[j]? = some u → w.cell? ⟨b, o + j, none⟩ = some u) := by
  obtain ⟨a, n, c, rfl⟩ := Go.WideShapes.okWide_slice ht hv
  obtain ⟨a', n', c', W, h1, h2⟩ := viz_ints ht he hc hby h
  simp only [Value.cells, List.cons.injEq, Value.slice.injEq, and_true] at h1
  obtain ⟨rfl, rfl, rfl⟩ := h1
  exact ⟨_, _, _, W, rfl, h2⟩
theorem argz_rows {P : Program} {w : World} {t e : TypeId} {sz by_ : Nat} {r : Reach} {b0 : Nat} {v : Value} (ht : P.underlying t = some (.slice e)) (hsz : P.cellsOf e = sz) (hby : P.bytesOf e = by_) (hpos : 0 < sz) (hv : Value.okWide P w r b0 t v) (h : Viz P w t v.cells.toList) :
    ∃ a n c, ∃ rows : List (List Value), v = .slice a n c ∧ n ≤ c ∧ c ≤ maxLen ∧ n * by_ ≤ 140737488351232 ∧ rows.length = n ∧ (∀ r ∈ rows, r.length = sz ∧ Viz P w e r) ∧
      ((n = 0 ∧ (a = none → c = 0)) ∨ ∃ b o, a = some ⟨b, o, none⟩ ∧ ∀ (j : Nat) u, rows.flatten[j]? = some u → w.cell? ⟨b, o + j, none⟩ = some u) := by
  obtain ⟨a, n, c, rfl⟩ := Go.WideShapes.okWide_slice ht hv
  obtain ⟨a', n', c', rows, h1, h2⟩ := viz_slice ht hsz hby hpos h
  simp only [Value.cells, List.cons.injEq, Value.slice.injEq, and_true] at h1
  obtain ⟨rfl, rfl, rfl⟩ := h1
  exact ⟨_, _, _, rows, rfl, h2⟩
theorem argz_struct {P : Program} {w : World} {t : TypeId} {fs : Array Field} {r : Reach} {b0 : Nat} {v : Value} (ht : P.underlying t = some (.struct fs)) (hv : Value.okWide P w r b0 t v) (h : Viz P w t v.cells.toList) : ∃ l : List Value, v = .agg l.toArray ∧ Viz P w t l := by
  obtain ⟨cs, rfl, _⟩ := Go.WideShapes.okWide_struct ht hv
  exact ⟨cs.toList, by simp, h⟩
end Go.Proofs.Ytecibldbnekgbaa.Fw
