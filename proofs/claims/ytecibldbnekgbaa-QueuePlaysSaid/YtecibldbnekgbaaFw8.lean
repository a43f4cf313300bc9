import Derived.Test.YtecibldbnekgbaaFw7
import Derived.Lib.SliceRun
namespace Go.Proofs.Ytecibldbnekgbaa.Fw
open Go
set_option linter.unusedVariables false
set_option linter.unusedSimpArgs false

/-- A row of whole numbers of one kind. -/
def ints (kd : IntKind) (W : List Int) : List Value := W.map (Value.int kd)
theorem ints_length (kd : IntKind) (W : List Int) : (ints kd W).length = W.length := by simp [ints]
theorem ints_get {kd : IntKind} {W : List Int} {i : Nat} (h : i < W.length) : (ints kd W)[i]? = some (.int kd (W.getD i 0)) := by
  simp [ints, h]
theorem ints_scalar (kd : IntKind) (W : List Int) : (ints kd W).all scalar = true := by simp [ints, scalar]
theorem ints_set (kd : IntKind) (W : List Int) (i : Nat) (x : Int) : (ints kd W).set i (.int kd x) = ints kd (W.set i x) := by simp [ints, List.map_set]
theorem ints_append (kd : IntKind) (V W : List Int) : ints kd V ++ ints kd W = ints kd (V ++ W) := by simp [ints]
theorem ints_take (kd : IntKind) (W : List Int) (m : Nat) : (ints kd W).take m = ints kd (W.take m) := by simp [ints, List.map_take]
theorem ints_drop (kd : IntKind) (W : List Int) (m : Nat) : (ints kd W).drop m = ints kd (W.drop m) := by simp [ints, List.map_drop]
theorem ints_spl (kd : IntKind) (o : Nat) (V W : List Int) : spl o (ints kd V) (ints kd W) = ints kd (spl o V W) := by simp [spl, ints_take, ints_drop, ints_append, ints_length]
theorem ints_rep (kd : IntKind) (m : Nat) (x : Int) : List.replicate m (Value.int kd x) = ints kd (List.replicate m x) := by simp [ints]
theorem ints_inj {kd : IntKind} {V W : List Int} (h : ints kd V = ints kd W) : V = W := by
  have := congrArg (List.map (fun v : Value => match v with | .int _ q => q | _ => 0)) h
  simpa [ints, Function.comp_def] using this
theorem mem_getO {F : List Atom} {A : Atom} (i : Nat) (h : getO F i = some A) : A ∈ F := List.mem_of_getElem? (getO_eq h)
theorem word_at {w0 F E kd g m cap W} (hm : Own E 1 (.slice (some ⟨g, 0, none⟩) m cap) m (ints kd W) ∈ F) {j : Nat} (hj : j < W.length) : CellAt w0 F g (0 + j * 1) (.int kd (W.getD j 0)) := by
  have := (RowAt.own (w0 := w0) hm).cell (ints_get hj)
  simpa using this
theorem word_row {w0 F kd b o} {W : List Int} (h : RowAt w0 F b o (ints kd W)) {j : Nat} (hj : j < W.length) : CellAt w0 F b (o + j * 1) (.int kd (W.getD j 0)) := by
  have := h.cell (ints_get hj)
  simpa using this

theorem ResV.cellsb {P w0 e F a T b o sz rs vs E fr} {c l : List Value} (h1 : lk e a = some (.pointer (some ⟨b, o, none⟩))) (h2 : ∀ w, (isAgg T).run P w = .ok true w) (h3 : ∀ w, (sizeOf T).run P w = .ok sz w) (hb : Has w0 F b (.cells c.toArray E fr)) (hl : takeO c o sz = some l) (h : ResV P w0 e F rs vs) :
    ResV P w0 e F (.cell a T :: rs) (.agg l.toArray :: vs) := .cells h1 h2 h3 (takeO_eq hl).2 (.blk hb hl) h
theorem ResV.cellb {P w0 e F a T b o v rs vs E fr} {c : List Value} (h1 : lk e a = some (.pointer (some ⟨b, o, none⟩))) (h2 : ∀ w, (isAgg T).run P w = .ok false w) (hb : Has w0 F b (.cells c.toArray E fr)) (hv : c[o]? = some v) (h : ResV P w0 e F rs vs) :
    ResV P w0 e F (.cell a T :: rs) (v :: vs) := .cell h1 h2 (.blk hb hv) h
section
variable {P : Program} {f : FuncId} {w0 : World} {K : Post} {n : Nat} {d : List Deferred} {ops : Array Oper} {rest : List Oper} {k : List Item} {e : Env} {F : List Atom}
variable {ty : TypeId} {pos : String} {aft : Array Edge}
theorem l_storew {x y g j T u E m cap F'} {kd : IntKind} {W : List Int} (i : Nat) (hS : ∀ w, (sizeOf T).run P w = .ok 1 w) (hx : evO e x = some (.pointer (some ⟨g, 0 + j * 1, none⟩))) (hy : evO e y = some (.int kd u))
    (hi : getO F i = some (Own E 1 (.slice (some ⟨g, 0, none⟩) m cap) m (ints kd W))) (hj : j < W.length) (hF : setO F i (Own E 1 (.slice (some ⟨g, 0, none⟩) m cap) m (ints kd (W.set j u))) = some F')
    (hk : GL P f w0 K n d ops rest k e F') : GL P f w0 K n d ops (.mk none (.store T x y) ty pos aft none :: rest) k e F := by
  refine l_storeo (o := 0 + j * 1) i hS hx hy rfl hi (by rw [ints_length]; omega) ?_ hk
  rw [ints_set]
  simpa using hF
/-- Elements of a row appended: a row of words. -/
theorem l_makew {t x y T E inf m} {kq kd kd2 : IntKind} (ht : Nat.ble (t + 1) n = true) (hT : P.underlying T = some (.slice E)) (hi : P.info? E = some inf) (hz : inf.zero = some (.int kq 0)) (h1 : inf.size = 1) (hx : evO e x = some (.int kd m)) (hy : evO e y = some (.int kd2 m))
    (h0 : 0 ≤ m) (hb : (inf.bytes : Int) * m ≤ 281474976710656) (h63 : m ≤ 9223372036854775807)
    (hk : ∀ b, GL P f w0 K n d ops rest k ((t, .slice (some ⟨b, 0, none⟩) m.toNat m.toNat) :: e) (Own E 1 (.slice (some ⟨b, 0, none⟩) m.toNat m.toNat) m.toNat (ints kq (List.replicate m.toNat 0)) :: F)) :
    GL P f w0 K n d ops (.mk (some t) (.makeSlice T x y) ty pos aft none :: rest) k e F := by
  refine l_make1 ht hT hi hz rfl h1 hx hy h0 hb h63 fun b => ?_
  rw [ints_rep]
  exact hk b
theorem l_appendw {t x y T E by_ m m2 m3 inf z v u} {F1 : Value → List Atom} {kd : IntKind} {V W V3 : List Int} (i : Nat) (ht : Nat.ble (t + 1) n = true) (hT : P.underlying T = some (.slice E)) (hi : P.info? E = some inf) (hz : inf.zero = some z) (hsz : inf.size = 1) (hby : inf.bytes = by_) (hzs : z.cells.size = 1)
    (hx : evO e x = some v) (hy : evO e y = some u) (hF : getO F i = some (Own E 1 v m (ints kd V))) (hu : Reads w0 F u m2 1 (ints kd W)) (hb : (m + m2) * by_ ≤ 140737488355328) (h63 : m + m2 ≤ maxLen) (hm3 : m + m2 = m3) (hV3 : V ++ W = V3)
    (hset : ∀ v', setO F i (Own E 1 v' m3 (ints kd V3)) = some (F1 v'))
    (hk : ∀ v', (v' = .slice none 0 0 ↔ v = .slice none 0 0 ∧ m2 = 0) → GL P f w0 K n d ops rest k ((t, v') :: e) (F1 v')) :
    GL P f w0 K n d ops (.mk (some t) (.call ⟨.builtin .append, #[x, y], #[T, T]⟩) ty pos aft none :: rest) k e F :=
  by
  subst hm3 hV3
  exact l_append i ht hT hi hz hsz hby hzs rfl hx hy hF hu (ints_scalar _ _) hb h63 (by rw [ints_append]; exact hset) hk
theorem l_copyw {t x y T E m m2 g o c cap c2 u F'} {kd : IntKind} {V W : List Int} (i : Nat) (ht : Nat.ble (t + 1) n = true) (hT : P.underlying T = some (.slice E)) (hS : ∀ w, (sizeOf E).run P w = .ok 1 w)
    (hx : evO e x = some (.slice (some ⟨g, o, none⟩) m c)) (hy : evO e y = some u) (hF : getO F i = some (Own E 1 (.slice (some ⟨g, 0, none⟩) c2 cap) c2 (ints kd V))) (hu : Reads w0 F u m2 1 (ints kd W))
    (ho : o + min m2 m ≤ V.length) (hset : setO F i (Own E 1 (.slice (some ⟨g, 0, none⟩) c2 cap) c2 (ints kd (spl o (W.take (min m2 m)) V))) = some F')
    (hk : GL P f w0 K n d ops rest k ((t, .int .i64 (min m2 m : Nat)) :: e) F') :
    GL P f w0 K n d ops (.mk (some t) (.call ⟨.builtin .copy, #[x, y], #[T, T]⟩) ty pos aft none :: rest) k e F := by
  refine l_copy i ht hT hS hx hy hF hu (ints_scalar _ _) (by rw [ints_length]; omega) ?_ hk
  rw [Nat.mul_one, ints_take, ints_spl]
  exact hset
theorem spl_full {α : Type} {q m : Nat} {W V : List α} (hV : V.length = m) (hW : m ≤ W.length) (hq : m ≤ q) : spl 0 (W.take (min q m)) V = W.take m := by
  have : min q m = m := Nat.min_eq_right hq
  rw [this]
  simp [spl, Nat.min_eq_left hW, hV]
theorem spl_two {α : Type} {a : Nat} {x y : α} {W : List α} (h : a + 2 ≤ W.length) : spl a [x, y] W = (W.set a x).set (a + 1) y := by
  have h1 := setsO_spl (vs := [x, y]) (o := a) (c := W) (by simp; omega)
  simp only [setsO, setO_of (show a < W.length by omega)] at h1
  rw [setO_of (show a + 1 < (W.set a x).length by simp; omega)] at h1
  injection h1 with h1
  exact h1.symm
/-- Words of 32 bits. -/
def U32s (W : List Int) : Prop := ∀ i, 0 ≤ W.getD i 0 ∧ W.getD i 0 ≤ 4294967295
theorem U32s.set {W : List Int} (h : U32s W) {x : Int} (hx : 0 ≤ x ∧ x ≤ 4294967295) (i : Nat) : U32s (W.set i x) := by
  intro j
  have hj := h j
  simp only [List.getD_eq_getElem?_getD, List.getElem?_set] at hj ⊢
  split
  · split
    · exact hx
    · simp
  · exact hj
theorem U32s.of {W : List Int} (h : ∀ x ∈ W, 0 ≤ x ∧ x ≤ 4294967295) : U32s W := by
  intro i
  rcases Nat.lt_or_ge i W.length with hi | hi
  · have : W.getD i 0 = W[i] := by simp [hi]
    rw [this]; exact h _ (List.getElem_mem _)
  · have : W.getD i 0 = 0 := by simp [List.getD_eq_getElem?_getD, hi]
    rw [this]; decide
theorem spl_nil {α : Type} (o : Nat) (V : List α) : spl o [] V = V := by simp [spl]
theorem row_from {w0 F g o o'} {cap sz : Nat} {i : Int} {xs : List Value} (h : RowAt w0 F g o xs) (ho : i < cap ∧ o' = o + i.toNat * sz ∨ cap ≤ i ∧ o' = o) (hl : xs.length ≤ cap * sz) : RowAt w0 F g o' (xs.drop (i.toNat * sz)) := by
  rcases ho with ⟨_, rfl⟩ | ⟨h1, _⟩
  · intro w hw j u hj
    rw [List.getElem?_drop] at hj
    have := h w hw _ u hj
    rwa [← Nat.add_assoc] at this
  · intro w hw j u hj
    have : cap * sz ≤ i.toNat * sz := Nat.mul_le_mul_right _ (show cap ≤ i.toNat by omega)
    rw [List.drop_eq_nil_of_le (show xs.length ≤ i.toNat * sz by omega)] at hj
    simp at hj
theorem words_from {w0 F g o' kd} {cap : Nat} {i : Int} {W : List Int} (h : RowAt w0 F g 0 (ints kd W)) (ho : i < cap ∧ o' = 0 + i.toNat * 1 ∨ cap ≤ i ∧ o' = 0) (hl : W.length ≤ cap) : RowAt w0 F g o' (ints kd (W.drop i.toNat)) := by
  have := row_from h ho (by rw [ints_length]; omega)
  rwa [Nat.mul_one, ints_drop] at this
/-- clear: zeros. -/
theorem run_clear {P : Program} {w0 w : World} {T E g m cap : Nat} {z : Value} {ty : TypeId} {xs : List Value} {F : List Atom} (hT : P.underlying T = some (.slice E)) (hz : ∀ w, (zeroValue E).run P w = .ok z w) (hs : scalar z = true)
    (h : Holds w0 (Own E 1 (.slice (some ⟨g, 0, none⟩) m cap) m xs :: F) w) :
    ∃ w', (Builtin.clear_ #[T] ty #[.slice (some ⟨g, 0, none⟩) m cap]).run P w = .ok (.tuple #[]) w' ∧ Holds w0 (Own E 1 (.slice (some ⟨g, 0, none⟩) m cap) m (List.replicate m z) :: F) w' := by
  have hu : ∀ w, (underlying T).run P w = .ok (.slice E) w := fun w => by simp [underlying, hT, go_sem]
  have hlen : xs.length = m := by have := Own.len h (List.mem_cons_self ..); simpa using this
  have hcells : z.cells = #[z] := by cases z <;> simp_all [Value.cells, scalar]
  have hzc : (Builtin.zeroCells #[z] m).toList = List.replicate m z := by
    apply List.ext_getElem
    · simp [Builtin.zeroCells]
    · intro i h1 h2
      simp [Builtin.zeroCells, Nat.mod_one]
  obtain ⟨w', hr, hw'⟩ := run_store_own (P := P) (vs := List.replicate m z) (o := 0) h (by simp [hs]) (by simp [hlen])
  have hspl : spl 0 (List.replicate m z) xs = List.replicate m z := by simp [spl, hlen]
  rw [hspl] at hw'
  refine ⟨w', ?_, hw'⟩
  cases m with
  | zero =>
    simp [storeCells, Sem.run, pure] at hr
    subst hr
    simp [Builtin.clear_, hu, go_sem]
  | succ m =>
    have : (Builtin.clear_ #[T] ty #[.slice (some ⟨g, 0, none⟩) (m + 1) cap]).run P w = ((storeCells ⟨g, 0, none⟩ (List.replicate (m + 1) z)).run P w).andThen fun _ w' => .ok (.tuple #[]) w' := by
      rw [← hzc, ← hcells]
      simp only [Builtin.clear_]
      simp [hu, hz, go_sem]
    rw [this, hr]
    rfl
theorem l_clear {x T E g m cap z F'} {xs : List Value} (i : Nat) (hT : P.underlying T = some (.slice E)) (hz : ∀ w, (zeroValue E).run P w = .ok z w) (hs : scalar z = true) (hx : evO e x = some (.slice (some ⟨g, 0, none⟩) m cap))
    (hF : getO F i = some (Own E 1 (.slice (some ⟨g, 0, none⟩) m cap) m xs)) (hset : setO F i (Own E 1 (.slice (some ⟨g, 0, none⟩) m cap) m (List.replicate m z)) = some F') (hk : GL P f w0 K n d ops rest k e F') :
    GL P f w0 K n d ops (.mk none (.call ⟨.builtin .clear, #[x], #[T]⟩) ty pos aft none :: rest) k e F :=
  l_none fun ρ w ha hw => by
    have hargs : (#[x] : Array Operand).map ρ = [Value.slice (some ⟨g, 0, none⟩) m cap].toArray := kn_args (xs := [x]) ha (by simp [evL, hx])
    obtain ⟨l', h1', h2'⟩ := perm_set (a' := Own E 1 (.slice (some ⟨g, 0, none⟩) m cap) m (List.replicate m z)) (getO_eq hF)
    have he := (setO_eq hset).2
    subst he
    obtain ⟨w', hr, hw'⟩ := run_clear (P := P) (ty := ty) hT hz hs (hw.perm h1')
    exact ⟨_, w', _, .inl (run_builtin ρ hargs (by simp only [builtin]; exact run_value hr)), hw'.perm h2'.symm, hk⟩
theorem l_eqsn {t x y a m cap T E T2} (ht : Nat.ble (t + 1) n = true) (hT : P.underlying T = some (.slice E)) (hx : evO e x = some (.slice a m cap)) (hy : evO e y = some (.slice none 0 0))
    (hk : GL P f w0 K n d ops rest k ((t, .bool a.isNone) :: e) F) : GL P f w0 K n d ops (.mk (some t) (.binOp .eql T x y T2) ty pos aft none :: rest) k e F :=
  l_bin ht hx hy (fun w => by simp [eqGuard, go_sem]) (fun w => Lib.run_eql_slice_nil w T E a m cap 0 0 hT) hk
end
end Go.Proofs.Ytecibldbnekgbaa.Fw
