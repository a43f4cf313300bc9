import Derived.Test.YtecibldbnekgbaaFw5
namespace Go.Proofs.Ytecibldbnekgbaa.Fw
open Go
set_option linter.unusedVariables false
set_option linter.unusedSimpArgs false

theorem oneCell_of {u : Value} (h : scalar u = true) : u.oneCell' = true := by cases u <;> simp_all [scalar, Value.oneCell']
/-- An append to a row of the call's own: the row is told anew, wherever it lies then. -/
theorem run_append_atom {P : Program} {w0 w : World} {T E sz by_ n m c : Nat} {ty : TypeId} {v z : Value} {inf : TypeInfo} {xs news : List Value} {a : Addr} {F : List Atom}
    (hT : P.underlying T = some (.slice E)) (hi : P.info? E = some inf) (hz : inf.zero = some z) (hsz : inf.size = sz) (hby : inf.bytes = by_) (hzs : z.cells.size = sz) (hpos : 0 < sz)
    (h : Holds w0 (Own E sz v n xs :: F) w) (hl : news.length = m * sz) (hnews : ∀ (j : Nat) u, news[j]? = some u → w.cell? (a.add j) = some u) (h1 : news.all scalar = true) (hb : (n + m) * by_ ≤ 140737488355328) (h63 : n + m ≤ maxLen) :
    ∃ v' w', (Builtin.append_ #[T, T] ty #[v, .slice (some a) m c]).run P w = .ok v' w' ∧ Holds w0 (Own E sz v' (n + m) (xs ++ news) :: F) w' ∧ (v' = .slice none 0 0 ↔ v = .slice none 0 0 ∧ m = 0) := by
  have h1' : ∀ u ∈ news, u.oneCell' = true := fun u hu => oneCell_of (List.all_eq_true.1 h1 u hu)
  have hown := Own.owns (h.ok _ (List.mem_cons_self ..))
  obtain ⟨v', w', hr, ho, hg, hn⟩ := run_append_own (P := P) w 0 T ty E inf z sz by_ hT hi hz hsz hby hzs hpos v n xs hown a m c news hl hnews h1' h63 hb (Nat.zero_le _)
  refine ⟨v', w', hr, ?_, hn⟩
  have hold : ∀ b, b < w.heap.size → ¬ (Own E sz v n xs).fp b → w'.heap[b]? = w.heap[b]? := fun b hb hnb => hg.block b hb (fun e => hnb e.symm)
  have hfp : ∀ b, v'.ownBlock = some b → v.ownBlock = some b ∨ w.heap.size ≤ b := by
    intro b hb'
    subst hsz
    rcases hown.2 with ⟨rfl, rfl⟩ | ⟨g, cap, cur, rfl, _, hgg, hnc, hcm, hcs, htake⟩
    · by_cases hm : m = 0
      · subst hm
        have : v' = .slice none 0 0 := hn.2 ⟨rfl, rfl⟩
        subst this
        simp [Value.ownBlock] at hb'
      · have hr2 := run_append_nil (P := P) w T ty E inf z hT hi hz a m c news hl hnews (by omega) (by simp only [maxLen] at h63; omega) (by subst hby; simp only [Nat.zero_add] at hb; omega)
        rw [hr2] at hr
        injection hr with hv _
        subst hv
        simp only [Value.ownBlock, Option.some.injEq] at hb'
        exact .inr (by omega)
    · by_cases hroom : n + m ≤ cap
      · have hfit : n * inf.size + news.length ≤ cur.size := by rw [hl, hcs, ← Nat.add_mul]; exact Nat.mul_le_mul_right _ hroom
        have hr2 := run_append_room (P := P) w T ty E inf hT hi g n cap cur hgg a m c news hl hnews h1' hroom hfit
        rw [hr2] at hr
        injection hr with hv _
        subst hv
        exact .inl hb'
      · have holds : ∀ (j : Nat) u, xs[j]? = some u → w.cell? ((⟨g, 0, none⟩ : Addr).add j) = some u := hown.cells (g := g) rfl
        have hr2 := run_append_grow (P := P) w T ty E inf z hT hi hz ⟨g, 0, none⟩ n cap xs hown.1 holds a m c news hl hnews (by omega) (by simp only [maxLen] at h63; omega) (growslice_fits (by omega) (by subst hby; exact hb))
        rw [hr2] at hr
        injection hr with hv _
        subst hv
        simp only [Value.ownBlock, Option.some.injEq] at hb'
        exact .inr (by omega)
  exact h.turn hg.os hg.tape hg.output hg.size hold (Own.of_owns ho) hfp (fun b hb' => (ho.lt b hb').2)

section
variable {P : Program} {f : FuncId} {w0 : World} {K : Post} {n : Nat} {d : List Deferred} {ops : Array Oper} {rest : List Oper} {k : List Item} {e : Env} {F : List Atom}
variable {ty : TypeId} {pos : String} {aft : Array Edge}

theorem run_builtin {P : Program} {b : Builtin} {dst : Option Tmp} {args : Array Operand} {tys : Array TypeId} {ty : TypeId} {pos : String} {aft : Array Edge} {vs : List Value} {v : Value} {w w' : World} (ρ : Operand → Value) (hargs : args.map ρ = vs.toArray)
    (h : (builtin b tys ty (args.map fun | .const _ => true | _ => false) vs.toArray).run P w = .ok (.value v) w') : (execOp ρ (.mk dst (.call ⟨.builtin b, args, tys⟩) ty pos aft none)).run P w = .ok (.value v) w' := by
  simp only [execOp, resolve, hargs]
  exact h
theorem kn_args {xs : List Operand} {vs : List Value} {ρ : Operand → Value} (ha : Kn e ρ) (hx : evL e xs = some vs) : xs.toArray.map ρ = vs.toArray := by
  have : ∀ (xs : List Operand) (vs : List Value), evL e xs = some vs → xs.map ρ = vs := by
    intro xs
    induction xs with
    | nil => intro vs h; simp [evL] at h; simp [h]
    | cons x xs ih =>
      intro vs h
      simp only [evL] at h
      split at h
      · cases h
      · rename_i v hv
        split at h
        · cases h
        · rename_i vs' hvs
          cases h
          simp [ha _ _ hv, ih _ hvs]
  simp [this xs vs hx]
/-- An append of a row that reads so, to a row of the call's own. -/
theorem l_append {t x y T E sz by_ m m2 inf z v u} {F1 : Value → List Atom} {xs news : List Value} (i : Nat) (ht : Nat.ble (t + 1) n = true) (hT : P.underlying T = some (.slice E)) (hi : P.info? E = some inf) (hz : inf.zero = some z) (hsz : inf.size = sz) (hby : inf.bytes = by_) (hzs : z.cells.size = sz) (hpos : Nat.blt 0 sz = true)
    (hx : evO e x = some v) (hy : evO e y = some u) (hF : getO F i = some (Own E sz v m xs)) (hu : Reads w0 F u m2 sz news) (h1 : news.all scalar = true) (hb : (m + m2) * by_ ≤ 140737488355328) (h63 : m + m2 ≤ maxLen)
    (hset : ∀ v', setO F i (Own E sz v' (m + m2) (xs ++ news)) = some (F1 v'))
    (hk : ∀ v', (v' = .slice none 0 0 ↔ v = .slice none 0 0 ∧ m2 = 0) → GL P f w0 K n d ops rest k ((t, v') :: e) (F1 v')) :
    GL P f w0 K n d ops (.mk (some t) (.call ⟨.builtin .append, #[x, y], #[T, T]⟩) ty pos aft none :: rest) k e F :=
  l_eff ht fun ρ w ha hw => by
    have hpos' : 0 < sz := Nat.le_of_ble_eq_true hpos
    have hargs : (#[x, y] : Array Operand).map ρ = [v, u].toArray := kn_args (xs := [x, y]) ha (by simp [evL, hx, hy])
    rcases hu.2 with ⟨b, o, cap, rfl, hrow⟩ | ⟨rfl, rfl⟩
    · obtain ⟨l', h1', _⟩ := perm_set (a' := Own E sz v m xs) (getO_eq hF)
      obtain ⟨v', w', hr, hw', hn⟩ := run_append_atom (P := P) (ty := ty) (c := cap) (a := ⟨b, o, none⟩) hT hi hz hsz hby hzs hpos' (hw.perm h1') hu.1 (fun j u hj => by rw [add_none]; exact hrow w hw j u hj) h1 hb h63
      obtain ⟨l2, h2, h3⟩ := perm_set (a' := Own E sz v' (m + m2) (xs ++ news)) (getO_eq hF)
      have he := (setO_eq (hset v')).2
      refine ⟨v', w', F1 v', run_builtin ρ hargs (by simp only [builtin]; exact run_value hr), ?_, hk v' hn⟩
      rw [he]
      exact (hw'.perm ((((h1'.symm.trans h2).cons_inv).cons _))).perm h3.symm
    · have hnil : news = [] := List.eq_nil_of_length_eq_zero (by simpa using hu.1)
      subst hnil
      have hown := Own.owns (hw.ok _ (List.mem_of_getElem? (getO_eq hF)))
      have hr := run_append_owned_none (P := P) w 0 T ty E inf sz hT hi v m xs hown
      have he := (setO_eq (hset v)).2
      refine ⟨v, w, F1 v, run_builtin ρ hargs (by simp only [builtin]; exact run_value hr), ?_, hk v (by simp)⟩
      rw [he]
      have : F.set i (Own E sz v (m + 0) (xs ++ [])) = F := by
        have := getO_eq hF
        simp only [Nat.add_zero, List.append_nil]
        apply List.ext_getElem?
        intro q
        by_cases hq : i = q
        · subst hq
          obtain ⟨hlt, hval⟩ := List.getElem?_eq_some_iff.1 this
          rw [List.getElem?_set_self hlt, ← hval]
          simp [hlt]
        · rw [List.getElem?_set_ne hq]
      rw [this]
      exact hw
/-- A copy of a row that reads so, onto a row of the call's own. -/
theorem l_copy {t x y T E sz m m2 g o c cap c2 u F'} {xs src : List Value} (i : Nat) (ht : Nat.ble (t + 1) n = true) (hT : P.underlying T = some (.slice E)) (hS : ∀ w, (sizeOf E).run P w = .ok sz w)
    (hx : evO e x = some (.slice (some ⟨g, o, none⟩) m c)) (hy : evO e y = some u) (hF : getO F i = some (Own E sz (.slice (some ⟨g, 0, none⟩) c2 cap) c2 xs)) (hu : Reads w0 F u m2 sz src) (h1 : src.all scalar = true)
    (ho : o + min m2 m * sz ≤ xs.length) (hset : setO F i (Own E sz (.slice (some ⟨g, 0, none⟩) c2 cap) c2 (spl o (src.take (min m2 m * sz)) xs)) = some F')
    (hk : GL P f w0 K n d ops rest k ((t, .int .i64 (min m2 m : Nat)) :: e) F') :
    GL P f w0 K n d ops (.mk (some t) (.call ⟨.builtin .copy, #[x, y], #[T, T]⟩) ty pos aft none :: rest) k e F :=
  l_eff ht fun ρ w ha hw => by
    have hun : ∀ w, (underlying T).run P w = .ok (.slice E) w := fun w => by simp [underlying, hT, go_sem]
    have hargs : (#[x, y] : Array Operand).map ρ = [.slice (some ⟨g, o, none⟩) m c, u].toArray := kn_args (xs := [x, y]) ha (by simp [evL, hx, hy])
    obtain ⟨l', h1', h2'⟩ := perm_set (a' := Own E sz (.slice (some ⟨g, 0, none⟩) c2 cap) c2 (spl o (src.take (min m2 m * sz)) xs)) (getO_eq hF)
    have he := (setO_eq hset).2
    subst he
    have hlen : (src.take (min m2 m * sz)).length = min m2 m * sz := by
      rw [List.length_take, hu.1]
      exact Nat.min_eq_left (Nat.mul_le_mul_right _ (Nat.min_le_left ..))
    obtain ⟨w', hr, hw'⟩ := run_store_own (P := P) (vs := src.take (min m2 m * sz)) (o := o) (hw.perm h1') (by rw [List.all_eq_true] at h1 ⊢; exact fun u hu => h1 u (List.mem_of_mem_take hu)) (by omega)
    refine ⟨_, w', _, run_builtin ρ hargs (by
      simp only [builtin]
      refine run_value (v := .int .i64 (min m2 m : Nat)) ?_
      rcases hu.2 with ⟨b, o2, cap2, rfl, hrow⟩ | ⟨rfl, rfl⟩
      · have hld := run_loadCells_row (P := P) (w := w) (b := b) (o := o2) (l := src.take (min m2 m * sz)) (fun j u hj => by
          rw [List.getElem?_take] at hj
          split at hj
          · exact hrow w hw j u hj
          · cases hj)
        rw [hlen] at hld
        simp [Builtin.copy_, hun, Builtin.lenOf, Builtin.firstCells, hS, goInt, Nat.min_def, hr, go_sem] at hld hr ⊢
        simp [hld, hr]
      · have : src.take (min 0 m * sz) = [] := by simp
        rw [this] at hr
        simp [Builtin.copy_, hun, Builtin.lenOf, Builtin.firstCells, hS, goInt, storeCells, go_sem] at hr ⊢
        exact hr), hw'.perm h2'.symm, hk⟩

/- Structs and rows put together. -/
def evP (e : Env) : List (Nat × Operand) → Option (List (Nat × Value))
  | [] => some []
  | (i, x) :: xs => match evO e x with
    | none => none
    | some v => match evP e xs with
      | none => none
      | some vs => some ((i, v) :: vs)
theorem kn_parts {ρ : Operand → Value} (ha : Kn e ρ) : ∀ {xs : List (Nat × Operand)} {vs : List (Nat × Value)}, evP e xs = some vs → xs.toArray.map (fun (i, x) => (i, ρ x)) = vs.toArray := by
  have : ∀ (xs : List (Nat × Operand)) (vs : List (Nat × Value)), evP e xs = some vs → xs.map (fun (i, x) => (i, ρ x)) = vs := by
    intro xs
    induction xs with
    | nil => intro vs h; simp [evP] at h; simp [h]
    | cons x xs ih =>
      intro vs h
      obtain ⟨i, x⟩ := x
      simp only [evP] at h
      split at h
      · cases h
      · rename_i v hv
        split at h
        · cases h
        · rename_i vs' hvs
          cases h
          simp [ha _ _ hv, ih _ hvs]
  intro xs vs h
  simp [this xs vs h]
theorem l_build {t T v} {parts : List (Nat × Operand)} {ps : List (Nat × Value)} (ht : Nat.ble (t + 1) n = true) (hp : evP e parts = some ps) (hr : ∀ w, (Instr.build T ps.toArray).run P w = .ok v w)
    (hk : GL P f w0 K n d ops rest k ((t, v) :: e) F) : GL P f w0 K n d ops (.mk (some t) (.build T parts.toArray) ty pos aft none :: rest) k e F :=
  l_val ht (fun ρ w ha hw => by
    simp only [execOp, kn_parts ha hp]
    exact run_value (hr w)) hk
def cellsO : Value → Option (List Value)
  | .agg cs => some cs.toList
  | .tuple _ => none
  | v => some [v]
theorem cellsO_eq {v : Value} {l : List Value} (h : cellsO v = some l) : v.cells = l.toArray := by
  cases v <;> simp_all [cellsO, Value.cells]
  subst h; rfl
def fillO (sz : Nat) : List Value → List (Nat × Value) → Option (List Value)
  | c, [] => some c
  | c, (i, v) :: ps => match cellsO v with
    | none => none
    | some l => match Nat.beq l.length sz with
      | false => none
      | true => match setsO c (i * sz) l with
        | none => none
        | some c' => fillO sz c' ps
theorem setsO_len {α : Type} : ∀ {vs : List α} {o : Nat} {c c' : List α}, setsO c o vs = some c' → c'.length = c.length ∧ (vs ≠ [] → o + vs.length ≤ c.length)
  | [], o, c, c', h => by simp only [setsO, Option.some.injEq] at h; subst h; exact ⟨rfl, fun h => absurd rfl h⟩
  | v :: vs, o, c, c', h => by
    simp only [setsO] at h
    split at h
    · cases h
    · rename_i c1 hc1
      obtain ⟨hlt, rfl⟩ := setO_eq hc1
      obtain ⟨h1, h2⟩ := setsO_len h
      refine ⟨by simpa using h1, fun _ => ?_⟩
      cases vs with
      | nil => simp; omega
      | cons v2 vs => have := h2 (by simp); simp at this ⊢; omega
theorem fold_sets : ∀ (l : List Value) (j off : Nat) (c c' : List Value), setsO c (off + j) l = some c' → (l.zipIdx j).foldl (fun cs (x, i) => cs.setIfInBounds (off + i) x) c.toArray = c'.toArray
  | [], j, off, c, c', h => by simp only [setsO, Option.some.injEq] at h; subst h; rfl
  | v :: l, j, off, c, c', h => by
    simp only [setsO] at h
    split at h
    · cases h
    · rename_i c1 hc1
      obtain ⟨hlt, rfl⟩ := setO_eq hc1
      simp only [List.zipIdx_cons, List.foldl_cons]
      rw [List.setIfInBounds_toArray]
      exact fold_sets l (j + 1) off _ c' h
theorem fill_fillO {sz : Nat} : ∀ {ps : List (Nat × Value)} {c c' : List Value}, fillO sz c ps = some c' → Instr.fill (fun i => some (i * sz, sz)) c.toArray ps = some c'.toArray
  | [], c, c', h => by simp only [fillO, Option.some.injEq] at h; subst h; rfl
  | (i, v) :: ps, c, c', h => by
    simp only [fillO] at h
    split at h
    · cases h
    · rename_i l hl
      split at h
      · cases h
      · rename_i hlen
        have hlen' := Nat.eq_of_beq_eq_true hlen
        split at h
        · cases h
        · rename_i c1 hc1
          have hcells := cellsO_eq hl
          have hle := setsO_len hc1
          have hfold := fold_sets l 0 (i * sz) c c1 hc1
          have hne : ¬ (i * sz + l.length > c.length) := by
            rcases l with _ | ⟨v0, l⟩
            · cases v <;> simp [cellsO] at hl
              rename_i cs
              simp only [List.length_nil, Nat.add_zero] at hlen' ⊢
              subst hlen'
              simp
            · have := hle.2 (by simp); omega
          simp only [Instr.fill, hcells, List.size_toArray, hlen']
          rw [hlen'] at hne
          simp only [ne_eq, not_true_eq_false, decide_false, Bool.false_or, decide_eq_true_eq, if_neg hne]
          have : (l.toArray.zipIdx.foldl (fun cs x => cs.setIfInBounds (i * sz + x.2) x.1) c.toArray) = c1.toArray := by
            rw [← hfold]
            simp [Array.foldl_toList, ← Array.foldl_toList]
          rw [this]
          exact fill_fillO h
def repL : Nat → List Value → List Value
  | 0, _ => []
  | m + 1, zl => zl ++ repL m zl
theorem repL_length (m : Nat) (zl : List Value) : (repL m zl).length = m * zl.length := by
  induction m with
  | zero => simp [repL]
  | succ m ih => simp [repL, ih, Nat.succ_mul, Nat.add_comm]
theorem repL_get (m : Nat) (zl : List Value) : ∀ i, i < m * zl.length → (repL m zl)[i]? = zl[i % zl.length]? := by
  induction m with
  | zero => intro i h; simp at h
  | succ m ih =>
    intro i h
    simp only [repL]
    by_cases hi : i < zl.length
    · rw [List.getElem?_append_left hi, Nat.mod_eq_of_lt hi]
    · rw [List.getElem?_append_right (by omega), ih (i - zl.length) (by rw [Nat.succ_mul] at h; omega)]
      rw [← Nat.mod_eq_sub_mod (by omega)]
theorem made_repL (m : Nat) (zl : List Value) : madeCells zl.toArray (m * zl.length) = (repL m zl).toArray := by
  apply Array.ext
  · simp [madeCells, repL_length]
  · intro i h1 h2
    have hi : i < m * zl.length := by simpa [madeCells] using h1
    have hpos : 0 < zl.length := by
      rcases Nat.eq_zero_or_pos zl.length with h | h
      · rw [h] at hi; simp at hi
      · exact h
    have := repL_get m zl i hi
    have hlt : i % zl.length < zl.length := Nat.mod_lt _ hpos
    rw [List.getElem?_eq_getElem (by simpa using h2), List.getElem?_eq_getElem hlt] at this
    simp only [Option.some.injEq] at this
    simp [madeCells, this, hlt]
theorem fillO_len {sz : Nat} : ∀ {ps : List (Nat × Value)} {c c' : List Value}, fillO sz c ps = some c' → c'.length = c.length
  | [], c, c', h => by simp only [fillO, Option.some.injEq] at h; subst h; rfl
  | (i, v) :: ps, c, c', h => by
    simp only [fillO] at h
    split at h
    · cases h
    · split at h
      · cases h
      · split at h
        · cases h
        · rename_i c1 hc1
          exact (fillO_len h).trans (setsO_len hc1).1
theorem run_buildSlice {P : Program} {T E sz len : Nat} {z : Value} {zl c : List Value} {ps : List (Nat × Value)} {w : World} (hT : P.underlying T = some (.slice E)) (hS : ∀ w, (sizeOf E).run P w = .ok sz w) (hz : ∀ w, (zeroValue E).run P w = .ok z w)
    (hzl : cellsO z = some zl) (hzn : zl.length = sz) (hsm : ¬ (len * sz > 2 ^ 24)) (hc : fillO sz (repL len zl) ps = some c) :
    (Instr.buildSlice T len ps.toArray).run P w = .ok (.slice (some ⟨w.heap.size, 0, none⟩) len len) (w.alloc (.cells c.toArray E)) := by
  have hu : ∀ w, (underlying T).run P w = .ok (.slice E) w := fun w => by simp [underlying, hT, go_sem]
  have hf := fill_fillO hc
  have hcz := cellsO_eq hzl
  have hcells : (Array.range (len * sz)).map ((if len * sz = 0 then (#[] : Array Value) else zl.toArray)[· % (if len * sz = 0 then (#[] : Array Value) else zl.toArray).size]!) = (repL len zl).toArray := by
    by_cases h0 : len * sz = 0
    · have : repL len zl = [] := List.eq_nil_of_length_eq_zero (by rw [repL_length, hzn]; exact h0)
      rw [this, h0]; simp
    · simp only [if_neg h0]
      rw [← made_repL, hzn]
      rfl
  simp only [Instr.buildSlice, Sem.run_bind, hu, hS, Result.andThen_ok, if_neg hsm]
  by_cases h0 : len * sz = 0
  · simp only [if_pos h0] at hcells ⊢
    simp only [Sem.run_bind, Result.andThen_ok, Sem.run_pure, hcells, hf]
    rfl
  · simp only [if_neg h0] at hcells ⊢
    simp only [Sem.run_bind, hz, Result.andThen_ok, Sem.run_pure, hcz, hcells, hf]
    rfl
theorem l_buildSlice {t T E sz len z} {zl : List Value} {parts : List (Nat × Operand)} {ps : List (Nat × Value)} {c : List Value} (ht : Nat.ble (t + 1) n = true) (hT : P.underlying T = some (.slice E)) (hS : ∀ w, (sizeOf E).run P w = .ok sz w) (hz : ∀ w, (zeroValue E).run P w = .ok z w)
    (hzl : cellsO z = some zl) (hzn : zl.length = sz) (hpos : Nat.ble 1 sz = true) (hsmall : Nat.ble (len * sz) 16777216 = true) (hp : evP e parts = some ps) (hc : fillO sz (repL len zl) ps = some c)
    (hk : ∀ b, GL P f w0 K n d ops rest k ((t, .slice (some ⟨b, 0, none⟩) len len) :: e) (Own E sz (.slice (some ⟨b, 0, none⟩) len len) len c :: F)) :
    GL P f w0 K n d ops (.mk (some t) (.buildSlice T len parts.toArray) ty pos aft none :: rest) k e F :=
  l_eff ht fun ρ w ha hw => by
    have hle := Nat.le_of_ble_eq_true hsmall
    have hp1 := Nat.le_of_ble_eq_true hpos
    have hlen : c.length = len * sz := by rw [fillO_len hc, repL_length, hzn]
    have hr := run_buildSlice (w := w) hT hS hz hzl hzn (by omega) hc
    have hw2 := (hw.new (.cells c.toArray E (0, 0))).blk_own (sz := sz) (m := len) (cap := len) hlen (Nat.le_refl _) (by
      have : len * 1 ≤ len * sz := Nat.mul_le_mul_left _ hp1
      simp only [maxLen]; omega)
    rw [List.take_of_length_le (by omega)] at hw2
    refine ⟨_, _, _, ?_, hw2, hk _⟩
    simp only [execOp, kn_parts ha hp]
    exact run_value hr
end
end Go.Proofs.Ytecibldbnekgbaa.Fw
