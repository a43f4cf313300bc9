import Derived.Test.YtecibldbnekgbaaFw4
namespace Go.Proofs.Ytecibldbnekgbaa.Fw
open Go
set_option linter.unusedVariables false
set_option linter.unusedSimpArgs false

/-- What a call does: told of the heap before it, and of the heap and the ending behind it. -/
def CallK (P : Program) (g : FuncId) (args : List Value) (w0 : World) (F : List Atom) (K : Post) : Prop := ∀ w, Holds w0 F w → Calls P g args.toArray w (RK w0 K)
theorem CallK.mono {P g args w0 F} {K K' : Post} (h : CallK P g args w0 F K) (hk : ∀ en F', K en F' → K' en F') : CallK P g args w0 F K' :=
  fun w hw => (h w hw).mono fun e w' ⟨F', h1, h2⟩ => ⟨F', hk _ _ h1, h2⟩
theorem CallK.heap {P g args w0 F F2} {K : Post} (h : CallK P g args w0 F2 K) (hF : ∀ w, Holds w0 F w → Holds w0 F2 w) : CallK P g args w0 F K := fun w hw => h w (hF w hw)
theorem CallK.front {P g args w0 F A F'} {K : Post} (i : Nat) (hi : frontO F i = some (A, F')) (h : CallK P g args w0 (A :: F') K) : CallK P g args w0 F K := h.heap fun w hw => hw.perm (frontO_perm hi)

def envOf (i : Nat) : List Value → Env
  | [] => []
  | v :: vs => (i, v) :: envOf (i + 1) vs
theorem lk_envOf : ∀ {vs : List Value} {i t : Nat} {v : Value}, lk (envOf i vs) t = some v → i ≤ t ∧ vs[t - i]? = some v
  | [], _, _, _, h => by cases h
  | u :: vs, i, t, v, h => by
    simp only [envOf, lk] at h
    split at h
    · rename_i hb
      have := Nat.eq_of_beq_eq_true hb
      subst this
      simpa using h
    · obtain ⟨h1, h2⟩ := lk_envOf h
      refine ⟨by omega, ?_⟩
      rw [show t - i = (t - (i + 1)) + 1 by omega]
      simpa using h2
theorem knows_start {n : Nat} {args : List Value} (hle : args.length ≤ n) : Knows n [] (envOf 0 args) { tmps := args.toArray ++ Array.replicate (n - args.toArray.size) undef, defers := [] } := by
  refine ⟨by simp; omega, rfl, fun t v h => ?_⟩
  obtain ⟨_, h2⟩ := lk_envOf h
  have hlt : t < args.length := by
    rcases Nat.lt_or_ge t args.length with h' | h'
    · exact h'
    · simp [List.getElem?_eq_none h'] at h2
  rw [Array.getElem?_append_left (by simpa using hlt)]
  simpa using h2
theorem c_enter {P f w0 K F fn c n} {args : List Value} (hf : P.funcs[f]? = some fn) (hb : fn.body = some c) (hn : fn.ntmps = n) (hle : Nat.ble args.length n = true)
    (h : G P f w0 K n [] [.code c] (envOf 0 args) F) : CallK P f args w0 F K := by
  intro w hw cs
  subst hn
  have hst := knows_start (Nat.le_of_ble_eq_true hle)
  have henter : Frame.enter P f args.toArray .normal = ({ (default : Frame) with fn := f, kind := .normal } : Frame).at { tmps := args.toArray ++ Array.replicate (fn.ntmps - args.toArray.size) undef, defers := [] } [.code c] := by
    simp [Frame.enter, Frame.at, hf, hb]
  rw [henter]
  exact h _ w hst hw cs

/- Results. -/
inductive ResV (P : Program) (w0 : World) (e : Env) (F : List Atom) : List ResultVar → List Value → Prop
  | nil : ResV P w0 e F [] []
  | tmp {r v rs vs} : lk e r = some v → ResV P w0 e F rs vs → ResV P w0 e F (.tmp r :: rs) (v :: vs)
  | cell {a T b o v rs vs} : lk e a = some (.pointer (some ⟨b, o, none⟩)) → (∀ w, (isAgg T).run P w = .ok false w) → CellAt w0 F b o v → ResV P w0 e F rs vs → ResV P w0 e F (.cell a T :: rs) (v :: vs)
  | cells {a T b o sz rs vs} {l : List Value} : lk e a = some (.pointer (some ⟨b, o, none⟩)) → (∀ w, (isAgg T).run P w = .ok true w) → (∀ w, (sizeOf T).run P w = .ok sz w) → l.length = sz → RowAt w0 F b o l → ResV P w0 e F rs vs → ResV P w0 e F (.cell a T :: rs) (.agg l.toArray :: vs)
def resVal : List Value → Value
  | [v] => v
  | vs => .tuple vs.toArray
theorem run_mapM_cons {P : Program} {α : Type} {g : α → Sem Value} {x : α} {xs : List α} {v : Value} {vs : List Value} {w : World} (h1 : (g x).run P w = .ok v w) (h2 : (xs.mapM g).run P w = .ok vs w) : ((x :: xs).mapM g).run P w = .ok (v :: vs) w := by
  simp [List.mapM_cons, h1, h2, go_sem]
def resG (tmps : Array Value) : ResultVar → Sem Value
  | .tmp t => pure (tmps.getD t undef)
  | .cell a t => do loadVar t (← asAddr (tmps.getD a undef))
theorem ResV.run {P w0 e F} {tmps : Array Value} {w : World} (hk : ∀ t v, lk e t = some v → tmps[t]? = some v) (hw : Holds w0 F w) : ∀ {rs vs}, ResV P w0 e F rs vs →
    (rs.mapM (resG tmps)).run P w = .ok vs w := by
  intro rs vs h
  induction h with
  | nil => rfl
  | tmp h1 _ ih => exact run_mapM_cons (by simp [resG, hk _ _ h1, go_sem]) ih
  | cell h1 h2 h3 _ ih =>
    refine run_mapM_cons ?_ ih
    have hc := h3 w hw
    simp [resG, hk _ _ h1, asAddr, loadVar, h2, load, Sem.run, hc, go_sem]
  | cells h1 h2 h3 h4 h5 _ ih =>
    refine run_mapM_cons ?_ ih
    have hc := run_loadCells_row (P := P) (h5 w hw)
    subst h4
    simp only [loadCells] at hc
    simp [resG, hk _ _ h1, asAddr, loadVar, h2, h3, hc, go_sem]
theorem ResV.results {P w0 e F} {fn : Func} {tmps : Array Value} {w : World} {rs : List ResultVar} {vs : List Value} (hr : fn.results = rs.toArray) (hk : ∀ t v, lk e t = some v → tmps[t]? = some v) (hw : Holds w0 F w) (h : ResV P w0 e F rs vs) : (results fn tmps).run P w = .ok (resVal vs) w := by
  have h1 := h.run hk hw
  have hl : (rs.toArray.mapM (resG tmps)).run P w = .ok vs.toArray w := by
    rw [List.mapM_toArray]
    simp only [map_eq_pure_bind, Sem.run_bind, h1, Result.andThen_ok, Sem.run_pure]
  have hd : Go.results fn tmps = (do let vs ← fn.results.mapM (resG tmps); pure (if h : vs.size = 1 then vs[0] else .tuple vs)) := by
    unfold Go.results; congr
  simp only [hd, hr, Sem.run_bind, hl, Result.andThen_ok, Sem.run_pure]
  congr 1
  match vs with
  | [] => rfl
  | [v] => rfl
  | _ :: _ :: _ => simp [resVal]

section
variable {P : Program} {f : FuncId} {w0 : World} {K : Post} {n : Nat} {d : List Deferred} {ops : Array Oper} {rest : List Oper} {k : List Item} {e : Env} {F : List Atom}
variable {ty : TypeId} {pos : String} {aft : Array Edge}
theorem leave_ret {a : Act} {w : World} {fn : Func} {rs : List ResultVar} {vs : List Value} (hf : P.funcs[f]? = some fn) (hr : fn.results = rs.toArray) (hv : ResV P w0 e F rs vs) (hK : K (.returned (resVal vs)) F) (ha : Knows n [] e a) (hw : Holds w0 F w)
    {cs : List Frame} {todo : List Item} {m : Machine} (hs : Steps P m (lone { ({ (default : Frame) with fn := f, kind := .normal } : Frame).at a todo with mode := .returning } cs w)) :
    ∃ en w' fr, RK w0 K en w' ∧ Comes P m (lone fr cs w') en ∧ fr.fn = f ∧ fr.leaving P w' en :=
  ⟨.returned (resVal vs), w, _, ⟨F, hK, hw⟩, hs, rfl, rfl, ha.dfr, rfl, fn, hf, hv.results hr ha.val hw⟩
theorem g_ret {fn rs vs} (hf : P.funcs[f]? = some fn) (hr : fn.results = rs.toArray) (hv : ResV P w0 e F rs vs) (hK : K (.returned (resVal vs)) F) : G P f w0 K n [] (.code .ret :: k) e F :=
  fun a w ha hw cs => leave_ret hf hr hv hK ha hw (.one step_ret)
theorem g_end {fn rs vs} (hf : P.funcs[f]? = some fn) (hr : fn.results = rs.toArray) (hv : ResV P w0 e F rs vs) (hK : K (.returned (resVal vs)) F) : G P f w0 K n [] [] e F :=
  fun a w ha hw cs => leave_ret hf hr hv hK ha hw (.one step_end)

/- Calls. -/
theorem run_call {P : Program} {dst : Option Tmp} {g : FuncId} {args : Array Operand} {tys : Array TypeId} {ty : TypeId} {pos : String} {aft : Array Edge} {vs : List Value} (ρ : Operand → Value) (hargs : args.map ρ = vs.toArray) (hf : ρ (.func g) = .func (.func g) #[] #[])
    (hcall : ∀ args w, (callFunc g args).run P w = .ok (.enter g args) w) (w : World) : (execOp ρ (.mk dst (.call ⟨.value (.func g), args, tys⟩) ty pos aft none)).run P w = .ok (.enter g vs.toArray) w := by
  simp only [execOp, resolve, hargs, hf, Deferred.ofValue]
  simp [invoke, hcall, go_sem]
theorem l_callk {t g} {args : Array Operand} {tys : Array TypeId} {vs : List Value} {K2 : Post} (ht : Nat.ble (t + 1) n = true) (hcall : ∀ args w, (callFunc g args).run P w = .ok (.enter g args) w) (hx : evL e args.toList = some vs)
    (hc : CallK P g vs w0 F K2) (hk : ∀ en F', K2 en F' → ∃ v, en = .returned v ∧ GL P f w0 K n d ops rest k ((t, v) :: e) F') :
    GL P f w0 K n d ops (.mk (some t) (.call ⟨.value (.func g), args, tys⟩) ty pos aft none :: rest) k e F := by
  intro a w ha hw
  have hargs : args.map a.eval = vs.toArray := by
    have := ha.evs hx
    apply Array.toList_inj.1
    simpa using this
  have hr := run_call (dst := some t) (tys := tys) (ty := ty) (pos := pos) (aft := aft) a.eval hargs rfl hcall w
  show wpL _ _ _ _ _ _
  simp only [wpL, Region.wanted, if_true, Oper.wp, hr, Oper.upon]
  refine (hc w hw).mono ?_
  rintro en w' ⟨F', h1, h2⟩
  obtain ⟨v, rfl, hg⟩ := hk en F' h1
  exact hg _ _ (ha.put t v ht) h2
theorem l_callk0 {g} {args : Array Operand} {tys : Array TypeId} {vs : List Value} {K2 : Post} (hcall : ∀ args w, (callFunc g args).run P w = .ok (.enter g args) w) (hx : evL e args.toList = some vs)
    (hc : CallK P g vs w0 F K2) (hk : ∀ en F', K2 en F' → (∃ v, en = .returned v) ∧ GL P f w0 K n d ops rest k e F') :
    GL P f w0 K n d ops (.mk none (.call ⟨.value (.func g), args, tys⟩) ty pos aft none :: rest) k e F := by
  intro a w ha hw
  have hargs : args.map a.eval = vs.toArray := by
    have := ha.evs hx
    apply Array.toList_inj.1
    simpa using this
  have hr := run_call (dst := none) (tys := tys) (ty := ty) (pos := pos) (aft := aft) a.eval hargs rfl hcall w
  show wpL _ _ _ _ _ _
  simp only [wpL, Region.wanted, if_true, Oper.wp, hr, Oper.upon]
  refine (hc w hw).mono ?_
  rintro en w' ⟨F', h1, h2⟩
  obtain ⟨⟨v, rfl⟩, hg⟩ := hk en F' h1
  exact hg _ _ ha h2

/- Slices of slices. -/
theorem run_slice_any {P : Program} {T E sz : Nat} {a : Option Addr} {m cap : Nat} {lo hi : Option Value} {l h : Nat} {w : World} (hT : P.underlying T = some (.slice E)) (hS : ∀ w, (sizeOf E).run P w = .ok sz w)
    (hlo : (lo = none ∧ l = 0) ∨ ∃ kd, lo = some (.int kd (l : Int))) (hhi : (hi = none ∧ h = m) ∨ ∃ kd, hi = some (.int kd (h : Int))) (h1 : l ≤ h) (h2 : h ≤ cap) :
    (Instr.sliceAt T (.slice a m cap) lo hi none).run P w = .ok (.slice (if cap = l then a else a.map (·.add (l * sz))) (h - l) (cap - l)) w := by
  have hu : ∀ w, (underlying T).run P w = .ok (.slice E) w := fun w => by simp [underlying, hT, go_sem]
  have b1 : (h : Int) ≤ (cap : Int) := by omega
  have b2 : (l : Int) ≤ (h : Int) := by omega
  rcases hlo with ⟨rfl, rfl⟩ | ⟨kd, rfl⟩ <;> rcases hhi with ⟨rfl, rfl⟩ | ⟨kd2, rfl⟩ <;>
    simp [Instr.sliceAt, Instr.slice, hu, hS, Instr.sliceBounds, Instr.sliceBound, asIntOf, h1, h2, go_sem] <;> (intro hh; exact absurd hh (by omega))
theorem l_slice_lo {t x y b o m cap T E sz} {kd : IntKind} {i : Int} (ht : Nat.ble (t + 1) n = true) (hT : P.underlying T = some (.slice E)) (hS : ∀ w, (sizeOf E).run P w = .ok sz w) (hx : evO e x = some (.slice (some ⟨b, o, none⟩) m cap)) (hy : evO e y = some (.int kd i))
    (h0 : 0 ≤ i) (h1 : i ≤ m) (hc : m ≤ cap) (hk : ∀ o', (i < cap ∧ o' = o + i.toNat * sz ∨ cap ≤ i ∧ o' = o) → GL P f w0 K n d ops rest k ((t, .slice (some ⟨b, o', none⟩) (m - i.toNat) (cap - i.toNat)) :: e) F) :
    GL P f w0 K n d ops (.mk (some t) (.slice T x (some y) none none) ty pos aft none :: rest) k e F := by
  obtain ⟨l, rfl⟩ := Int.eq_ofNat_of_zero_le h0
  refine l_val ht (v := .slice (some ⟨b, if cap = l then o else o + l * sz, none⟩) (m - l) (cap - l)) (fun ρ w ha hw => ?_) ?_
  · simp only [execOp, ha _ _ hx, ha _ _ hy, Option.map]
    refine run_value ((run_slice_any hT hS (.inr ⟨kd, rfl⟩) (.inl ⟨rfl, rfl⟩) (by omega) hc).trans ?_)
    split <;> simp [add_none, *]
  · have := hk (if cap = l then o else o + l * sz) (by by_cases hcl : cap = l <;> simp [hcl] <;> omega)
    simpa using this
theorem l_slice_hi {t x y b o m cap T E sz} {kd : IntKind} {i : Int} (ht : Nat.ble (t + 1) n = true) (hT : P.underlying T = some (.slice E)) (hS : ∀ w, (sizeOf E).run P w = .ok sz w) (hx : evO e x = some (.slice (some ⟨b, o, none⟩) m cap)) (hy : evO e y = some (.int kd i))
    (h0 : 0 ≤ i) (h1 : i ≤ cap) (hk : GL P f w0 K n d ops rest k ((t, .slice (some ⟨b, o, none⟩) i.toNat cap) :: e) F) :
    GL P f w0 K n d ops (.mk (some t) (.slice T x none (some y) none) ty pos aft none :: rest) k e F := by
  obtain ⟨h, rfl⟩ := Int.eq_ofNat_of_zero_le h0
  refine l_val ht (fun ρ w ha hw => ?_) hk
  simp only [execOp, ha _ _ hx, ha _ _ hy, Option.map]
  refine run_value ((run_slice_any hT hS (.inl ⟨rfl, rfl⟩) (.inr ⟨kd, rfl⟩) (by omega) (by omega)).trans ?_)
  split <;> simp [add_none, *]
theorem l_slice_lh {t x y z b o m cap T E sz} {kd kd2 : IntKind} {i j : Int} (ht : Nat.ble (t + 1) n = true) (hT : P.underlying T = some (.slice E)) (hS : ∀ w, (sizeOf E).run P w = .ok sz w) (hx : evO e x = some (.slice (some ⟨b, o, none⟩) m cap)) (hy : evO e y = some (.int kd i)) (hz : evO e z = some (.int kd2 j))
    (h0 : 0 ≤ i) (h1 : i ≤ j) (hc : j ≤ cap) (hk : ∀ o', (i < cap ∧ o' = o + i.toNat * sz ∨ cap ≤ i ∧ o' = o) → GL P f w0 K n d ops rest k ((t, .slice (some ⟨b, o', none⟩) (j.toNat - i.toNat) (cap - i.toNat)) :: e) F) :
    GL P f w0 K n d ops (.mk (some t) (.slice T x (some y) (some z) none) ty pos aft none :: rest) k e F := by
  obtain ⟨l, rfl⟩ := Int.eq_ofNat_of_zero_le h0
  obtain ⟨h, rfl⟩ := Int.eq_ofNat_of_zero_le (Int.le_trans h0 h1)
  refine l_val ht (v := .slice (some ⟨b, if cap = l then o else o + l * sz, none⟩) (h - l) (cap - l)) (fun ρ w ha hw => ?_) ?_
  · simp only [execOp, ha _ _ hx, ha _ _ hy, ha _ _ hz, Option.map]
    refine run_value ((run_slice_any hT hS (.inr ⟨kd, rfl⟩) (.inr ⟨kd2, rfl⟩) (by omega) (by omega)).trans ?_)
    split <;> simp [add_none, *]
  · have := hk (if cap = l then o else o + l * sz) (by by_cases hcl : cap = l <;> simp [hcl] <;> omega)
    simpa using this

/- New rows. -/
theorem made_one (z : Value) (m : Nat) : (madeCells #[z] m).toList = List.replicate m z := by
  apply List.ext_getElem
  · simp [madeCells]
  · intro i h1 h2
    simp [madeCells, Nat.mod_one]
theorem l_make1 {t x y T E inf z m} {kd kd2 : IntKind} (ht : Nat.ble (t + 1) n = true) (hT : P.underlying T = some (.slice E)) (hi : P.info? E = some inf) (hz : inf.zero = some z) (hs : scalar z = true) (h1 : inf.size = 1) (hx : evO e x = some (.int kd m)) (hy : evO e y = some (.int kd2 m))
    (h0 : 0 ≤ m) (hb : (inf.bytes : Int) * m ≤ 281474976710656) (h63 : m ≤ 9223372036854775807)
    (hk : ∀ b, GL P f w0 K n d ops rest k ((t, .slice (some ⟨b, 0, none⟩) m.toNat m.toNat) :: e) (Own E 1 (.slice (some ⟨b, 0, none⟩) m.toNat m.toNat) m.toNat (List.replicate m.toNat z) :: F)) :
    GL P f w0 K n d ops (.mk (some t) (.makeSlice T x y) ty pos aft none :: rest) k e F :=
  l_eff ht fun ρ w ha hw => by
    have hr := run_make (P := P) w T E inf z hT hi hz kd kd2 m m h0 (Int.le_refl _) hb h63
    have hcells : z.cells = #[z] := by cases z <;> simp_all [Value.cells, scalar]
    rw [h1, Nat.mul_one, hcells] at hr
    have hw2 : Holds w0 (Blk w.heap.size (.cells (madeCells #[z] m.toNat).toList.toArray E (0, 0)) :: F) (w.alloc (.cells (madeCells #[z] m.toNat) E)) := by simpa using hw.new (.cells (madeCells #[z] m.toNat) E (0, 0))
    have hw3 := hw2.blk_own (sz := 1) (m := m.toNat) (cap := m.toNat) (by simp [madeCells]) (Nat.le_refl _) (by simp only [maxLen]; omega)
    rw [made_one] at hw3
    simp only [Nat.mul_one, List.take_replicate, Nat.min_self] at hw3
    refine ⟨_, _, _, ?_, hw3, hk _⟩
    simp only [execOp, ha _ _ hx, ha _ _ hy]
    exact run_value hr
end
end Go.Proofs.Ytecibldbnekgbaa.Fw
