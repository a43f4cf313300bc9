import Derived.Test.YtecibldbnekgbaaFw10
import Derived.ChangeArms
import Derived.ChangeShapes
import Derived.WideShapes
namespace Go.Proofs.Ytecibldbnekgbaa.Fw
open Go
set_option linter.unusedVariables false
set_option linter.unusedSimpArgs false

/-- These cells read as a value of this type. -/
def Vis (P : Program) (w : World) (t : TypeId) (cs : List Value) : Prop :=
  ∃ (H : Type) (enc : TypeId × Value → H) (base : Nat) (spare : Nat → Bool) (held : Bool) (fuel : Nat) (x : DataW H × List MemPlace), DataW.trod enc P w base spare held fuel t cs = some x
theorem Vis.of {P : Program} {w : World} {H : Type} {enc : TypeId × Value → H} {base : Nat} {spare : Nat → Bool} {held : Bool} {t : TypeId} {v : Value} {d : DataW H} {ps : List MemPlace} (h : DataW.Trod enc P w base spare held t v d ps) : Vis P w t v.cells.toList := by
  obtain ⟨fuel, h⟩ := h
  exact ⟨H, enc, base, spare, held, fuel, _, h⟩
section
variable {P : Program} {w : World} {t e : TypeId} {cs : List Value}
theorem vis_int {k : IntKind} (ht : P.underlying t = some (.int k)) (h : Vis P w t cs) : ∃ n, cs = [.int k n] ∧ (Lit.int k n).wf = true := by
  obtain ⟨H, enc, base, spare, held, fuel, x, h⟩ := h
  obtain ⟨n, h1, _, h2⟩ := DataW.trod_int ht h
  exact ⟨n, h1, h2⟩
theorem vis_bool (ht : P.underlying t = some .bool) (h : Vis P w t cs) : ∃ b, cs = [.bool b] := by
  obtain ⟨H, enc, base, spare, held, fuel, x, h⟩ := h
  obtain ⟨n, h1, _⟩ := DataW.trod_bool ht h
  exact ⟨n, h1⟩
theorem vis_string (ht : P.underlying t = some .string) (h : Vis P w t cs) : ∃ s : ByteArray, cs = [.string s] ∧ s.size ≤ maxLen := by
  obtain ⟨H, enc, base, spare, held, fuel, x, h⟩ := h
  obtain ⟨n, h1, _, h2⟩ := DataW.trod_string ht h
  exact ⟨n, h1, h2⟩
theorem vis_struct {fs : Array Field} (ht : P.underlying t = some (.struct fs)) (h : Vis P w t cs) : cs.length = P.cellsOf t ∧ ∀ (i : Nat) (f : Field), fs[i]? = some f → Vis P w f.type ((cs.drop f.offset).take (P.cellsOf f.type)) := by
  obtain ⟨H, enc, base, spare, held, fuel, x, h⟩ := h
  obtain ⟨xs, n, _, _, hl, hx, hf⟩ := DataW.trod_struct ht h
  refine ⟨hl, fun i f hi => ?_⟩
  have hlt : i < xs.length := by
    rw [hx]
    exact (Array.getElem?_eq_some_iff.1 hi).1
  exact ⟨H, enc, base, spare, held, n, xs[i], by rw [hf i f hi]; simp [hlt]⟩
theorem list_choose {α β : Type} {R : Nat → α → β → Prop} : ∀ (n : Nat), (∀ i, i < n → ∃ a b, R i a b) → ∃ (l : List α) (m : List β), l.length = n ∧ m.length = n ∧ ∀ i a b, l[i]? = some a → m[i]? = some b → R i a b
  | 0, _ => ⟨[], [], rfl, rfl, by simp⟩
  | n + 1, h => by
    obtain ⟨l, m, h1, h2, h3⟩ := list_choose n (fun i hi => h i (by omega))
    obtain ⟨a, b, hab⟩ := h n (by omega)
    refine ⟨l ++ [a], m ++ [b], by simp [h1], by simp [h2], fun i x y hx hy => ?_⟩
    by_cases hi : i < n
    · rw [List.getElem?_append_left (by omega)] at hx hy
      exact h3 i x y hx hy
    · by_cases hin : i = n
      · subst hin
        rw [List.getElem?_append_right (by omega)] at hx hy
        simp [h1] at hx; simp [h2] at hy
        subst hx hy
        exact hab
      · rw [List.getElem?_eq_none (by simp; omega)] at hx
        cases hx
theorem cells_row {base : Nat} {a : Addr} {n : Nat} {l : List Value} (h : w.cells? base a n = some l) : l.length = n ∧ ∀ i, i < n → w.cell? (a.add i) = l[i]? := by
  unfold World.cells? at h
  split at h
  · have key : ∀ (m : Nat) (k : Nat) (l : List Value), ((List.range' k m).mapM fun i => w.cell? (a.add i)) = some l → l.length = m ∧ ∀ i, i < m → w.cell? (a.add (k + i)) = l[i]? := by
      intro m
      induction m with
      | zero => intro k l h; simp at h; subst h; simp
      | succ m ih =>
        intro k l h
        simp only [List.range'_succ, List.mapM_cons, bind, Option.bind_eq_some_iff, pure, Option.some.injEq] at h
        obtain ⟨v, hv, vs, hvs, rfl⟩ := h
        obtain ⟨h1, h2⟩ := ih (k + 1) vs hvs
        refine ⟨by simp [h1], fun i hi => ?_⟩
        cases i with
        | zero => simpa using hv
        | succ i => have := h2 i (by omega); rw [show k + 1 + i = k + (i + 1) by omega] at this; simpa using this
    have := key n 0 l (by rw [← List.range_eq_range']; exact h)
    simpa using this
  · cases h
theorem spot_none {a : Addr} {v : Value} (h : w.cell? a = some v) : a.spot = none := by
  unfold World.cell? at h
  split at h
  · split at h
    · cases h
    · rename_i hs; simpa using hs
  · cases h
theorem flat_get {α : Type} {sz : Nat} : ∀ {rows : List (List α)}, (∀ r ∈ rows, r.length = sz) → ∀ (i j : Nat) (r : List α), rows[i]? = some r → j < sz → rows.flatten[i * sz + j]? = r[j]?
  | [], _, i, j, r, h, _ => by simp at h
  | q :: rows, hl, 0, j, r, h, hj => by
    simp at h; subst h
    have hq := hl q (by simp)
    rw [List.flatten_cons, Nat.zero_mul, Nat.zero_add, List.getElem?_append_left (by omega)]
  | q :: rows, hl, i + 1, j, r, h, hj => by
    have hq := hl q (by simp)
    have ih := flat_get (rows := rows) (fun r hr => hl r (by simp [hr])) i j r (by simpa using h) hj
    rw [List.flatten_cons, List.getElem?_append_right (by rw [hq, Nat.succ_mul]; omega)]
    rw [show (i + 1) * sz + j - q.length = i * sz + j by rw [hq, Nat.succ_mul]; omega]
    exact ih
theorem flat_len {α : Type} {sz : Nat} : ∀ {rows : List (List α)}, (∀ r ∈ rows, r.length = sz) → rows.flatten.length = rows.length * sz
  | [], _ => by simp
  | q :: rows, hl => by
    have ih := flat_len (rows := rows) (fun r hr => hl r (by simp [hr]))
    simp only [List.flatten_cons, List.length_append, ih, hl q (by simp), List.length_cons, Nat.succ_mul]; omega
/-- A slice: its elements' cells, in rows. -/
theorem vis_slice {sz : Nat} (ht : P.underlying t = some (.slice e)) (hsz : P.cellsOf e = sz) (hpos : 0 < sz) (hvis : Vis P w t cs) :
    ∃ a n c, ∃ rows : List (List Value), cs = [.slice a n c] ∧ n ≤ c ∧ c ≤ maxLen ∧ rows.length = n ∧ (∀ r ∈ rows, r.length = sz ∧ Vis P w e r) ∧
      ((n = 0 ∧ (a = none → c = 0)) ∨ ∃ b o, a = some ⟨b, o, none⟩ ∧ ∀ (j : Nat) u, rows.flatten[j]? = some u → w.cell? ⟨b, o + j, none⟩ = some u) := by
  obtain ⟨H, enc, base, spare, held, fuel, x, h⟩ := hvis
  rcases DataW.trod_slice ht h with ⟨rfl, _⟩ | ⟨a, len, cap, elems, rest, m, _, rfl, _, _, hl, hm, hel, hE, _⟩
  · exact ⟨none, 0, 0, [], rfl, Nat.le_refl _, Nat.zero_le _, rfl, (fun r hr => absurd hr List.not_mem_nil), .inl ⟨rfl, fun _ => rfl⟩⟩
  · rw [hsz] at hE
    have hrow : ∀ i, i < len → ∃ (r : List Value) (y : DataW H × List MemPlace), w.cells? base (a.add (i * sz)) sz = some r ∧ DataW.trod enc P w base spare held m e r = some y := by
      intro i hi
      have := hE i hi
      rw [List.getElem?_eq_getElem (by omega)] at this
      simp only [Option.bind_eq_some_iff] at this
      obtain ⟨r, h1, h2⟩ := this
      exact ⟨r, _, h1, h2⟩
    obtain ⟨rows, ys, h1, h2, h3⟩ := list_choose len hrow
    have hall : ∀ r ∈ rows, r.length = sz ∧ Vis P w e r := by
      intro r hr
      obtain ⟨i, hi, rfl⟩ := List.getElem_of_mem hr
      obtain ⟨hc, hv⟩ := h3 i rows[i] ys[i] (by simp [hi]) (by simp [show i < ys.length by omega])
      exact ⟨(cells_row hc).1, H, enc, base, spare, held, m, _, hv⟩
    refine ⟨some a, len, cap, rows, rfl, hl, hm, h1, hall, ?_⟩
    by_cases h0 : len = 0
    · exact .inl ⟨h0, fun h => by cases h⟩
    · obtain ⟨ab, ao, as⟩ := a
      have hsp : as = none := by
        obtain ⟨hc, _⟩ := h3 0 rows[0] ys[0] (by simp [show 0 < rows.length by omega]) (by simp [show 0 < ys.length by omega])
        obtain ⟨hl0, hc0⟩ := cells_row hc
        have := hc0 0 hpos
        rw [List.getElem?_eq_getElem (by omega)] at this
        have hs := spot_none this
        simpa [Addr.add] using hs
      subst hsp
      refine .inr ⟨ab, ao, rfl, fun j u hj => ?_⟩
      have hflen := flat_len (fun r hr => (hall r hr).1)
      have hjl : j < rows.length * sz := by
        rcases Nat.lt_or_ge j (rows.length * sz) with h | h
        · exact h
        · rw [List.getElem?_eq_none (by omega)] at hj; cases hj
      have hdiv : j / sz < rows.length := Nat.div_lt_of_lt_mul (by rw [Nat.mul_comm]; exact hjl)
      have hmod : j % sz < sz := Nat.mod_lt _ hpos
      obtain ⟨hc, _⟩ := h3 (j / sz) rows[j / sz] ys[j / sz] (by simp [hdiv]) (by simp [show j / sz < ys.length by omega])
      obtain ⟨hl0, hc0⟩ := cells_row hc
      have hg := flat_get (fun r hr => (hall r hr).1) (j / sz) (j % sz) rows[j / sz] (by simp [hdiv]) hmod
      have hj' : j / sz * sz + j % sz = j := by rw [Nat.mul_comm]; exact Nat.div_add_mod j sz
      rw [hj', hj] at hg
      have := hc0 (j % sz) hmod
      rw [← hg, add_none, add_none] at this
      simp only [Nat.add_assoc] at this
      rwa [hj'] at this
theorem rows_choose {α : Type} {f : α → List Value} {R : α → Prop} : ∀ {rows : List (List Value)}, (∀ r ∈ rows, ∃ x, r = f x ∧ R x) → ∃ xs : List α, rows = xs.map f ∧ ∀ x ∈ xs, R x
  | [], _ => ⟨[], rfl, by simp⟩
  | r :: rows, h => by
    obtain ⟨x, hx, hr⟩ := h r (by simp)
    obtain ⟨xs, h1, h2⟩ := rows_choose (rows := rows) (fun r hr => h r (by simp [hr]))
    refine ⟨x :: xs, by simp [hx, h1], fun y hy => ?_⟩
    rcases List.mem_cons.1 hy with rfl | hy
    · exact hr
    · exact h2 y hy
/-- A slice of whole numbers. -/
theorem vis_ints {k : IntKind} (ht : P.underlying t = some (.slice e)) (he : P.underlying e = some (.int k)) (hc : P.cellsOf e = 1) (h : Vis P w t cs) :
    ∃ a n c, ∃ W : List Int, cs = [.slice a n c] ∧ n ≤ c ∧ c ≤ maxLen ∧ W.length = n ∧ (∀ x ∈ W, (Lit.int k x).wf = true) ∧
      ((n = 0 ∧ (a = none → c = 0)) ∨ ∃ b o, a = some ⟨b, o, none⟩ ∧ ∀ (j : Nat) u, (ints k W)[j]? = some u → w.cell? ⟨b, o + j, none⟩ = some u) := by
  obtain ⟨a, n, c, rows, h1, h2, h3, h4, h5, h6⟩ := vis_slice ht hc (by decide) h
  obtain ⟨W, hW, hwf⟩ := rows_choose (f := fun x : Int => [Value.int k x]) (R := fun x => (Lit.int k x).wf = true) (rows := rows) (fun r hr => by
    obtain ⟨x, hx, hw⟩ := vis_int he (h5 r hr).2
    exact ⟨x, hx, hw⟩)
  have hflat : rows.flatten = ints k W := by
    subst hW
    clear h4 h5 h6 hwf
    induction W with
    | nil => rfl
    | cons x W ih => simp only [List.map_cons, List.flatten_cons, ih]; rfl
  refine ⟨a, n, c, W, h1, h2, h3, by rw [← h4, hW]; simp, hwf, ?_⟩
  rwa [hflat] at h6
end
theorem arg_ints {P : Program} {w : World} {t e : TypeId} {k : IntKind} {r : Reach} {b0 : Nat} {v : Value} (ht : P.underlying t = some (.slice e)) (he : P.underlying e = some (.int k)) (hc : P.cellsOf e = 1) (hv : Value.okWide P w r b0 t v) (h : Vis P w t v.cells.toList) :
    ∃ a n c, ∃ W : List Int, v = .slice a n c ∧ n ≤ c ∧ c ≤ maxLen ∧ W.length = n ∧ (∀ x ∈ W, (Lit.int k x).wf = true) ∧
      ((n = 0 ∧ (a = none → c = 0)) ∨ ∃ b o, a = some ⟨b, o, none⟩ ∧ ∀ (j : Nat) u, (ints k W)[j]? = some u → w.cell? ⟨b, o + j, none⟩ = some u) := by
  obtain ⟨a, n, c, rfl⟩ := Go.WideShapes.okWide_slice ht hv
  obtain ⟨a', n', c', W, h1, h2⟩ := vis_ints ht he hc h
  simp only [Value.cells, List.cons.injEq, Value.slice.injEq, and_true] at h1
  obtain ⟨rfl, rfl, rfl⟩ := h1
  exact ⟨_, _, _, W, rfl, h2⟩
theorem arg_rows {P : Program} {w : World} {t e : TypeId} {sz : Nat} {r : Reach} {b0 : Nat} {v : Value} (ht : P.underlying t = some (.slice e)) (hsz : P.cellsOf e = sz) (hpos : 0 < sz) (hv : Value.okWide P w r b0 t v) (h : Vis P w t v.cells.toList) :
    ∃ a n c, ∃ rows : List (List Value), v = .slice a n c ∧ n ≤ c ∧ c ≤ maxLen ∧ rows.length = n ∧ (∀ r ∈ rows, r.length = sz ∧ Vis P w e r) ∧
      ((n = 0 ∧ (a = none → c = 0)) ∨ ∃ b o, a = some ⟨b, o, none⟩ ∧ ∀ (j : Nat) u, rows.flatten[j]? = some u → w.cell? ⟨b, o + j, none⟩ = some u) := by
  obtain ⟨a, n, c, rfl⟩ := Go.WideShapes.okWide_slice ht hv
  obtain ⟨a', n', c', rows, h1, h2⟩ := vis_slice ht hsz hpos h
  simp only [Value.cells, List.cons.injEq, Value.slice.injEq, and_true] at h1
  obtain ⟨rfl, rfl, rfl⟩ := h1
  exact ⟨_, _, _, rows, rfl, h2⟩
theorem arg_struct {P : Program} {w : World} {t : TypeId} {fs : Array Field} {r : Reach} {b0 : Nat} {v : Value} (ht : P.underlying t = some (.struct fs)) (hv : Value.okWide P w r b0 t v) (h : Vis P w t v.cells.toList) : ∃ l : List Value, v = .agg l.toArray ∧ Vis P w t l := by
  obtain ⟨cs, rfl, _⟩ := Go.WideShapes.okWide_struct ht hv
  exact ⟨cs.toList, by simp, h⟩
/-- An element of a row of rows. -/
theorem row_elem {w0 : World} {F : List Atom} {b o sz i : Nat} {rows : List (List Value)} {r : List Value} (h : RowAt w0 F b o rows.flatten) (hl : ∀ r ∈ rows, r.length = sz) (hi : rows[i]? = some r) : RowAt w0 F b (o + i * sz) r := by
  intro w hw j u hu
  have hr : r ∈ rows := List.mem_of_getElem? hi
  have hj : j < sz := by
    rw [← hl r hr]
    exact (List.getElem?_eq_some_iff.1 hu).1
  have := h w hw (i * sz + j) u ((flat_get hl i j r hi hj).trans hu)
  rwa [← Nat.add_assoc] at this
theorem wf_i64 {a : Int} (h : (Lit.int .i64 a).wf = true) : -9223372036854775808 ≤ a ∧ a ≤ 9223372036854775807 := by
  simp [Lit.wf, IntKind.min, IntKind.max, IntKind.signed, IntKind.bits] at h
  omega
theorem wf_u32 {a : Int} (h : (Lit.int .u32 a).wf = true) : 0 ≤ a ∧ a ≤ 4294967295 := by
  simp [Lit.wf, IntKind.min, IntKind.max, IntKind.signed, IntKind.bits] at h
  omega
theorem wf_u8 {a : Int} (h : (Lit.int .u8 a).wf = true) : 0 ≤ a ∧ a ≤ 255 := by
  simp [Lit.wf, IntKind.min, IntKind.max, IntKind.signed, IntKind.bits] at h
  omega
theorem wf_u64 {a : Int} (h : (Lit.int .u64 a).wf = true) : 0 ≤ a ∧ a ≤ 18446744073709551615 := by
  simp [Lit.wf, IntKind.min, IntKind.max, IntKind.signed, IntKind.bits] at h
  omega
/-- What was there stands as it did: what a row asks. -/
theorem holds_old (W : World) : Holds W [Old W] W :=
  ⟨rfl, rfl, rfl, fun A hA => by simp at hA; subst hA; exact fun b hb => rfl, fun A hA b hb => by simp at hA; subst hA; exact hb, by simp⟩
theorem law_calls {P : Program} {f : FuncId} {args : List Value} {W : World} (h : CallK P f args W [Old W] (Gives W fun v F2 => v = .bool true ∧ F2 = [Old W])) :
    Calls P f args.toArray W fun e w' => e = .returned (.bool true) ∧ RowKit.Below W.heap.size W w' := by
  refine (h W (holds_old W)).mono ?_
  rintro en w' ⟨F', ⟨v, F2, rfl, ⟨rfl, rfl⟩, h3⟩, h4⟩
  have hw := h3 w' h4
  refine ⟨rfl, hw.os, hw.tape, hw.output, ?_, fun b hb => hw.ok (Old W) (by simp) b hb⟩
  rcases Nat.eq_zero_or_pos W.heap.size with h0 | h0
  · rw [h0]; exact Nat.zero_le _
  · have := hw.lt (Old W) (by simp) (W.heap.size - 1) (show W.heap.size - 1 < W.heap.size by omega)
    omega
end Go.Proofs.Ytecibldbnekgbaa.Fw
