import Derived.Test.YtjfibfbknfeflaaDoorFw29
import Derived.Laws.StructEq
namespace Go.Proofs.YtjfibfbknfeflaaDoor.Fw
open Go
set_option linter.unusedVariables false
set_option linter.unusedSimpArgs false
set_option linter.unusedSectionVars false

/- Maps whose keys are of any kind. -/
section
variable {κ : Type}
def kvG (kval : κ → Value) (p : κ × Value) : Value × Value := (kval p.1, p.2)
def MapG (kval : κ → Value) (b : Nat) (kv : List (κ × Value)) : Atom where
  fp c := c = b
  ok h := ∃ (es : Array MapEntry) (clock : Nat), h b = some (.map es clock) ∧ es.toList.map (fun e => (e.key, e.val)) = kv.map (kvG kval)
  loc h h' hh ho := let ⟨es, c, h1, h2⟩ := ho; ⟨es, c, by rw [← hh b rfl]; exact h1, h2⟩
def fndG [DecidableEq κ] : List (κ × Value) → κ → Nat → Option (Nat × Value)
  | [], _, _ => none
  | p :: kv, k, i => if k = p.1 then some (i, p.2) else fndG kv k (i + 1)
/-- What the run time does at such keys. -/
structure KeyLaw [DecidableEq κ] (P : Program) (KT : TypeId) (kval : κ → Value) : Prop where
  check : ∀ (w : World) (b : Bool) (k : κ), (Instr.checkKey b 10000 KT (kval k)).run P w = .ok () w
  find : ∀ (w : World) (k : κ) (es : List MapEntry) (kv : List (κ × Value)), es.map (fun e => (e.key, e.val)) = kv.map (kvG kval) → (Instr.findKey KT (kval k) es).run P w = .ok (fndG kv k 0) w
end
theorem beq_bytes (a b : ByteArray) : (a == b) = decide (a = b) := by
  rw [beq_toListBytes]
  by_cases h : a = b
  · subst h; simp
  · have : a.toList ≠ b.toList := fun e => h (by
      rw [ByteArray.toList_eq, ByteArray.toList_eq] at e
      obtain ⟨⟨x⟩⟩ := a
      obtain ⟨⟨y⟩⟩ := b
      simp at e
      rw [e])
    simp [h, this]
theorem findNow_str {k : ByteArray} : ∀ {es : List MapEntry} {kv : List (ByteArray × Value)} {i : Nat}, es.map (fun e => (e.key, e.val)) = kv.map (kvG Value.string) → Instr.findNow .string (.string k) es i = some (fndG kv k i)
  | [], [], _, _ => rfl
  | [], _ :: _, _, h => by simp at h
  | _ :: _, [], _, h => by simp at h
  | e :: es, p :: kv, i, h => by
    simp only [List.map_cons, List.cons.injEq, kvG, Prod.mk.injEq] at h
    obtain ⟨⟨h1, h2⟩, h3⟩ := h
    simp only [Instr.findNow, h1, Instr.sameNow, fndG, beq_bytes]
    by_cases hk : k = p.1
    · subst hk
      simp [h2]
    · simp only [decide_eq_false hk, if_neg hk]
      exact findNow_str h3
theorem keyLaw_string {P : Program} {KT : TypeId} (hK : P.underlying KT = some .string) : KeyLaw P KT Value.string where
  check w b k := by
    have key : ∀ d, (Instr.checkKey b (d + 1) KT (.string k)).run P w = .ok () w := fun d => by
      simp only [Instr.checkKey, Sem.run_bind, run_underlying hK, Result.andThen_ok]
      rfl
    exact key 9999
  find w k es kv h := by
    unfold Instr.findKey
    simp only [Sem.run_bind, run_underlying hK, Result.andThen_ok, findNow_str (i := 0) h]
    rfl
theorem findAsking_law {κ : Type} [DecidableEq κ] {P : Program} {KT : TypeId} {kval : κ → Value} (he : ∀ (w : World) (a b : κ), (Op.equal KT (kval a) (kval b)).run P w = .ok (decide (a = b)) w) (w : World) (k : κ) : ∀ (es : List MapEntry) (kv : List (κ × Value)) (i : Nat), es.map (fun e => (e.key, e.val)) = kv.map (kvG kval) → (Instr.findAsking KT (kval k) es i).run P w = .ok (fndG kv k i) w
  | [], [], _, _ => rfl
  | [], _ :: _, _, h => by simp at h
  | _ :: _, [], _, h => by simp at h
  | e :: es, p :: kv, i, h => by
    simp only [List.map_cons, List.cons.injEq, kvG, Prod.mk.injEq] at h
    obtain ⟨⟨h1, h2⟩, h3⟩ := h
    simp only [Instr.findAsking, Sem.run_bind, h1, he, Result.andThen_ok, fndG]
    by_cases hk : k = p.1
    · simp [hk, h2]
    · simp only [decide_eq_false hk, if_neg hk]
      exact findAsking_law he w k es kv (i + 1) h3
theorem keyLaw_asking {κ : Type} [DecidableEq κ] {P : Program} {KT : TypeId} {td : TypeDesc} {kval : κ → Value} (hK : P.underlying KT = some td) (hs : ∀ a b, Instr.sameNow td (kval a) b = none) (hc : ∀ (w : World) (b : Bool) (k : κ), (Instr.checkKey b 10000 KT (kval k)).run P w = .ok () w) (he : ∀ (w : World) (a b : κ), (Op.equal KT (kval a) (kval b)).run P w = .ok (decide (a = b)) w) : KeyLaw P KT kval where
  check := hc
  find w k es kv h := by
    unfold Instr.findKey
    simp only [Sem.run_bind, run_underlying hK, Result.andThen_ok]
    cases es with
    | nil =>
      cases kv with
      | nil => rfl
      | cons p kv => simp at h
    | cons e es =>
      have : Instr.findNow td (kval k) (e :: es) 0 = none := by simp only [Instr.findNow, hs]
      rw [this]
      exact findAsking_law he w k (e :: es) kv 0 h
section
variable {κ : Type} [DecidableEq κ] {kval : κ → Value}
variable {P : Program} {f : Fr} {w0 : World} {K : Post} {n : Nat} {d : List Deferred} {ops : Array Oper} {rest : List Oper} {k : List Item} {e : Env} {F : List Atom}
variable {ty : TypeId} {pos : String} {aft : Array Edge}
theorem l_makeMapG (kval : κ → Value) {t T} (ht : Nat.ble (t + 1) n = true) (hk : ∀ b, GL P f w0 K n d ops rest k ((t, .map (some b)) :: e) (MapG kval b [] :: F)) :
    GL P f w0 K n d ops (.mk (some t) (.makeMap T none) ty pos aft none :: rest) k e F :=
  l_eff ht fun ρ w ha hw => by
    have h2 := hw.new (.map #[] 0)
    refine ⟨.map (some w.heap.size), _, MapG kval w.heap.size [] :: F, ?_, h2.as (fun ho => ⟨#[], 0, ho, rfl⟩) (fun b hb => hb), hk _⟩
    simp only [execOp, Instr.makeMap, newObj]
    simp [Sem.run, go_sem]
theorem run_lookupG {w : World} {T KT E b} {kk : κ} {kv : List (κ × Value)} {z : Value} {ok : Bool} (hT : P.underlying T = some (.map KT E)) (hK : KeyLaw P KT kval) (hz : (zeroValue E).run P w = .ok z w) {es : Array MapEntry} {clock : Nat} (hb : w.heap[b]? = some (.map es clock)) (hes : es.toList.map (fun e => (e.key, e.val)) = kv.map (kvG kval)) :
    (Instr.lookup T (.map (some b)) (kval kk) ok).run P w = .ok (if ok then .tuple #[((fndG kv kk 0).map (·.2)).getD z, .bool (fndG kv kk 0).isSome] else ((fndG kv kk 0).map (·.2)).getD z) w := by
  unfold Instr.lookup
  have hg : (getObj b).run P w = .ok (.map es clock) w := by simp [getObj, Sem.run, hb]
  simp only [Sem.run_bind, run_underlying hT, Result.andThen_ok, hg, Sem.run_pure, hK.check, hK.find _ _ _ _ hes]
  cases hf : fndG kv kk 0 with
  | none => simp only [Sem.run_bind, hz, Result.andThen_ok, Sem.run_pure]; cases ok <;> rfl
  | some p => simp only [Sem.run_pure, Result.andThen_ok]; cases ok <;> rfl
theorem q_lookupG {t x y T KT E b z ok kx} {kk : κ} {kv : List (κ × Value)} (hT : P.underlying T = some (.map KT E)) (hK : KeyLaw P KT kval) (hz : ∀ w, (zeroValue E).run P w = .ok z w) (hx : evO e x = some (.map (some b))) (hy : evO e y = some kx) (hkx : kx = kval kk) (hm : MapG kval b kv ∈ F) :
    QV P w0 (.mk (some t) (.lookup T x y ok) ty pos aft none) e F (if ok then .tuple #[((fndG kv kk 0).map (·.2)).getD z, .bool (fndG kv kk 0).isSome] else ((fndG kv kk 0).map (·.2)).getD z) := fun ρ w ha hw => by
  subst hkx
  obtain ⟨es, clock, h1, h2⟩ := hw.ok _ hm
  simp only [execOp, ha _ _ hx, ha _ _ hy]
  exact run_value (run_lookupG hT hK (hz w) h1 h2)
theorem q_lookG_yes {t x y T KT E b z i v kx} {kk : κ} {kv : List (κ × Value)} (hf : fndG kv kk 0 = some (i, v)) (hT : P.underlying T = some (.map KT E)) (hK : KeyLaw P KT kval) (hz : ∀ w, (zeroValue E).run P w = .ok z w) (hx : evO e x = some (.map (some b))) (hy : evO e y = some kx) (hkx : kx = kval kk) (hm : MapG kval b kv ∈ F) :
    QV P w0 (.mk (some t) (.lookup T x y true) ty pos aft none) e F (.tuple #[v, .bool true]) := by
  have h := q_lookupG (t := t) (w0 := w0) (ty := ty) (pos := pos) (aft := aft) (ok := true) (kk := kk) hT hK hz hx hy hkx hm
  rw [hf] at h
  exact h
theorem q_lookG_no {t x y T KT E b z kx} {kk : κ} {kv : List (κ × Value)} (hf : fndG kv kk 0 = none) (hT : P.underlying T = some (.map KT E)) (hK : KeyLaw P KT kval) (hz : ∀ w, (zeroValue E).run P w = .ok z w) (hx : evO e x = some (.map (some b))) (hy : evO e y = some kx) (hkx : kx = kval kk) (hm : MapG kval b kv ∈ F) :
    QV P w0 (.mk (some t) (.lookup T x y true) ty pos aft none) e F (.tuple #[z, .bool false]) := by
  have h := q_lookupG (t := t) (w0 := w0) (ty := ty) (pos := pos) (aft := aft) (ok := true) (kk := kk) hT hK hz hx hy hkx hm
  rw [hf] at h
  exact h
theorem q_lookG1 {t x y T KT E b z i v kx} {kk : κ} {kv : List (κ × Value)} (hf : fndG kv kk 0 = some (i, v)) (hT : P.underlying T = some (.map KT E)) (hK : KeyLaw P KT kval) (hz : ∀ w, (zeroValue E).run P w = .ok z w) (hx : evO e x = some (.map (some b))) (hy : evO e y = some kx) (hkx : kx = kval kk) (hm : MapG kval b kv ∈ F) :
    QV P w0 (.mk (some t) (.lookup T x y false) ty pos aft none) e F v := by
  have h := q_lookupG (t := t) (w0 := w0) (ty := ty) (pos := pos) (aft := aft) (ok := false) (kk := kk) hT hK hz hx hy hkx hm
  rw [hf] at h
  exact h
theorem l_lookG_yes {t x y T KT E b z i v kx} {kk : κ} {kv : List (κ × Value)} (ht : Nat.ble (t + 1) n = true) (hf : fndG kv kk 0 = some (i, v)) (hT : P.underlying T = some (.map KT E)) (hK : KeyLaw P KT kval) (hz : ∀ w, (zeroValue E).run P w = .ok z w) (hx : evO e x = some (.map (some b))) (hy : evO e y = some kx) (hkx : kx = kval kk) (hm : MapG kval b kv ∈ F)
    (hk : GL P f w0 K n d ops rest k ((t, .tuple #[v, .bool true]) :: e) F) : GL P f w0 K n d ops (.mk (some t) (.lookup T x y true) ty pos aft none :: rest) k e F := l_val ht (q_lookG_yes hf hT hK hz hx hy hkx hm) hk
theorem l_lookG_no {t x y T KT E b z kx} {kk : κ} {kv : List (κ × Value)} (ht : Nat.ble (t + 1) n = true) (hf : fndG kv kk 0 = none) (hT : P.underlying T = some (.map KT E)) (hK : KeyLaw P KT kval) (hz : ∀ w, (zeroValue E).run P w = .ok z w) (hx : evO e x = some (.map (some b))) (hy : evO e y = some kx) (hkx : kx = kval kk) (hm : MapG kval b kv ∈ F)
    (hk : GL P f w0 K n d ops rest k ((t, .tuple #[z, .bool false]) :: e) F) : GL P f w0 K n d ops (.mk (some t) (.lookup T x y true) ty pos aft none :: rest) k e F := l_val ht (q_lookG_no hf hT hK hz hx hy hkx hm) hk
theorem l_lookG1 {t x y T KT E b z i v kx} {kk : κ} {kv : List (κ × Value)} (ht : Nat.ble (t + 1) n = true) (hf : fndG kv kk 0 = some (i, v)) (hT : P.underlying T = some (.map KT E)) (hK : KeyLaw P KT kval) (hz : ∀ w, (zeroValue E).run P w = .ok z w) (hx : evO e x = some (.map (some b))) (hy : evO e y = some kx) (hkx : kx = kval kk) (hm : MapG kval b kv ∈ F)
    (hk : GL P f w0 K n d ops rest k ((t, v) :: e) F) : GL P f w0 K n d ops (.mk (some t) (.lookup T x y false) ty pos aft none :: rest) k e F := l_val ht (q_lookG1 hf hT hK hz hx hy hkx hm) hk
theorem map_putG {w : World} {b : Nat} {kv kv' : List (κ × Value)} {es : Array MapEntry} {c : Nat} (h : Holds w0 (MapG kval b kv :: F) w) (hes : es.toList.map (fun e => (e.key, e.val)) = kv'.map (kvG kval)) : Holds w0 (MapG kval b kv' :: F) (w.putObj b (.map es c)) :=
  holds_put h (fun b => Iff.rfl) (fun b hb => hb) ⟨es, c, World.putObj_heap_same (h.lt _ (List.mem_cons_self ..) b rfl), hes⟩
/-- A key that is not there is put; the map stands first. -/
theorem does_mapNewG {x y u T KT E b v kx} {kk : κ} {kv : List (κ × Value)} (hf : fndG kv kk 0 = none) (hT : P.underlying T = some (.map KT E)) (hK : KeyLaw P KT kval) (hx : evO e x = some (.map (some b))) (hy : evO e y = some kx) (hkx : kx = kval kk) (hu : evO e u = some v) :
    Does P w0 (.mk none (.mapUpdate T x y u) ty pos aft none) e (MapG kval b kv :: F) (fun _ F2 => F2 = MapG kval b (kv ++ [(kk, v)]) :: F) := fun ρ w ha hw => by
  subst hkx
  obtain ⟨es, clock, h1, h2⟩ := hw.ok _ (List.mem_cons_self ..)
  refine .inl ⟨undef, _, MapG kval b (kv ++ [(kk, v)]) :: F, .inr ⟨?_, rfl⟩, map_putG (es := es.push { key := kval kk, val := v, born := clock }) (c := clock + 1) hw (by simp [h2, kvG]), rfl⟩
  have hg : (getObj b).run P w = .ok (.map es clock) w := by simp [getObj, Sem.run, show w.heap[b]? = _ from h1]
  simp only [execOp, ha _ _ hx, ha _ _ hy, ha _ _ hu, Instr.mapUpdate]
  simp only [Sem.run_bind, run_underlying hT, Result.andThen_ok, hg, hK.check, hK.find _ _ _ _ h2, hf, run_setObj_map (P := P) _ h1, Sem.run_pure]
/-- A key that is there is taken away; the map stands first. -/
theorem does_mapDelG {x y T T2 KT E b i v kx} {kk : κ} {kv : List (κ × Value)} (hf : fndG kv kk 0 = some (i, v)) (hT : P.underlying T = some (.map KT E)) (hK : KeyLaw P KT kval) (hx : evO e x = some (.map (some b))) (hy : evO e y = some kx) (hkx : kx = kval kk) :
    Does P w0 (.mk none (.call ⟨.builtin .delete, #[x, y], #[T, T2]⟩) ty pos aft none) e (MapG kval b kv :: F) (fun _ F2 => F2 = MapG kval b (kv.eraseIdx i) :: F) := fun ρ w ha hw => by
  subst hkx
  obtain ⟨es, clock, h1, h2⟩ := hw.ok _ (List.mem_cons_self ..)
  refine .inl ⟨.tuple #[], _, MapG kval b (kv.eraseIdx i) :: F, .inl ?_, map_putG (es := es.eraseIdxIfInBounds i) (c := clock) hw ?_, rfl⟩
  · have hg : (getObj b).run P w = .ok (.map es clock) w := by simp [getObj, Sem.run, show w.heap[b]? = _ from h1]
    have hargs : (#[x, y] : Array Operand).map ρ = [.map (some b), kval kk].toArray := kn_args (xs := [x, y]) ha (by simp [evL, hx, hy])
    refine run_builtin ρ hargs ?_
    simp [builtin, run_underlying hT, hg, hK.check, hK.find _ _ _ _ h2, hf, run_setObj_map (P := P) _ h1, go_sem, Builtin.delete_]
  · have := congrArg (fun l => l.eraseIdx i) h2
    rw [map_eraseIdx_, map_eraseIdx_] at this
    rw [Array.toList_eraseIdxIfInBounds]
    exact this
theorem l_does0 {o : Op} {Out : Value → List Atom → Prop} (hdo : Does P w0 (.mk none o ty pos aft none) e F Out) (hk : ∀ v F', Out v F' → GL P f w0 K n d ops rest k e F') : GL P f w0 K n d ops (.mk none o ty pos aft none :: rest) k e F := by
  intro a w ha hw
  show wpL _ _ _ _ _ _
  rcases hdo a.eval w ha.kn hw with ⟨v, w', F', hr, hw', ho⟩ | ⟨g, args, hr, hc⟩
  · rcases hr with hr | ⟨hr, rfl⟩ <;> simp only [wpL, Region.wanted, if_true, opR, hr, Oper.upon] <;> exact hk _ _ ho _ _ ha hw'
  · simp only [wpL, Region.wanted, if_true, opR, hr, Oper.upon]
    refine hc.mono ?_
    rintro en w' ⟨v, F', rfl, ho, hw'⟩
    exact hk _ _ ho _ _ ha hw'
theorem q_lenG {t x T KT E b} {kv : List (κ × Value)} (hT : P.underlying T = some (.map KT E)) (hx : evO e x = some (.map (some b))) (hm : MapG kval b kv ∈ F) : QV P w0 (.mk (some t) (.call ⟨.builtin .len, #[x], #[T]⟩) ty pos aft none) e F (.int .i64 (kv.length : Int)) :=
  fun ρ w ha hw => by
    obtain ⟨es, clock, h1, h2⟩ := hw.ok _ hm
    have hl : es.size = kv.length := by have := congrArg List.length h2; simpa using this
    have hg : (getObj b).run P w = .ok (.map es clock) w := by simp [getObj, Sem.run, show w.heap[b]? = _ from h1]
    have hargs : (#[x] : Array Operand).map ρ = [.map (some b)].toArray := kn_args (xs := [x]) ha (by simp [evL, hx])
    refine run_builtin ρ hargs ?_
    simp [builtin, Builtin.len_, run_underlying hT, hg, hl, go_sem, goInt]
theorem l_lenG {t x T KT E b} {kv : List (κ × Value)} (ht : Nat.ble (t + 1) n = true) (hT : P.underlying T = some (.map KT E)) (hx : evO e x = some (.map (some b))) (hm : MapG kval b kv ∈ F)
    (hk : GL P f w0 K n d ops rest k ((t, .int .i64 (kv.length : Int)) :: e) F) : GL P f w0 K n d ops (.mk (some t) (.call ⟨.builtin .len, #[x], #[T]⟩) ty pos aft none :: rest) k e F :=
  l_val ht (q_lenG hT hx hm) hk
end
end Go.Proofs.YtjfibfbknfeflaaDoor.Fw
