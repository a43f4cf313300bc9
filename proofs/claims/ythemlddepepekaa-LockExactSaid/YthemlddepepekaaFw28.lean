import Derived.Test.YthemlddepepekaaFw27
namespace Go.Proofs.Ythemlddepepekaa.Fw
open Go
set_option linter.unusedVariables false
set_option linter.unusedSimpArgs false

/- Maps whose keys are whole numbers. -/
def kvE (p : Int × Value) : Value × Value := (.int .i64 p.1, p.2)
def MapI (b : Nat) (kv : List (Int × Value)) : Atom where
  fp c := c = b
  ok h := ∃ (es : Array MapEntry) (clock : Nat), h b = some (.map es clock) ∧ es.toList.map (fun e => (e.key, e.val)) = kv.map kvE
  loc h h' hh ho := let ⟨es, c, h1, h2⟩ := ho; ⟨es, c, by rw [← hh b rfl]; exact h1, h2⟩
/-- Where a key stands. -/
def fnd : List (Int × Value) → Int → Nat → Option (Nat × Value)
  | [], _, _ => none
  | p :: kv, k, i => if k = p.1 then some (i, p.2) else fnd kv k (i + 1)
theorem findNow_int {k : Int} : ∀ {es : List MapEntry} {kv : List (Int × Value)} {i : Nat}, es.map (fun e => (e.key, e.val)) = kv.map kvE → Instr.findNow (.int .i64) (.int .i64 k) es i = some (fnd kv k i)
  | [], [], _, _ => rfl
  | [], _ :: _, _, h => by simp at h
  | _ :: _, [], _, h => by simp at h
  | e :: es, p :: kv, i, h => by
    simp only [List.map_cons, List.cons.injEq, kvE, Prod.mk.injEq] at h
    obtain ⟨⟨h1, h2⟩, h3⟩ := h
    simp only [Instr.findNow, h1, Instr.sameNow, if_true, fnd]
    by_cases hk : k = p.1
    · subst hk
      simp [h2]
    · have : (k == p.1) = false := by simpa using hk
      simp only [this, if_neg hk]
      exact findNow_int h3
theorem run_findKey_int {P : Program} {w : World} {KT : TypeId} {k : Int} {es : List MapEntry} {kv : List (Int × Value)} (hK : P.underlying KT = some (.int .i64)) (h : es.map (fun e => (e.key, e.val)) = kv.map kvE) : (Instr.findKey KT (.int .i64 k) es).run P w = .ok (fnd kv k 0) w := by
  unfold Instr.findKey
  simp only [Sem.run_bind, run_underlying hK, Result.andThen_ok, findNow_int (i := 0) h]
  rfl
theorem run_checkKey_int {P : Program} {w : World} {KT : TypeId} {k : Int} {b : Bool} (hK : P.underlying KT = some (.int .i64)) : (Instr.checkKey b 10000 KT (.int .i64 k)).run P w = .ok () w := by
  have key : ∀ d, (Instr.checkKey b (d + 1) KT (.int .i64 k)).run P w = .ok () w := fun d => by
    simp only [Instr.checkKey, Sem.run_bind, run_underlying hK, Result.andThen_ok]
    rfl
  exact key 9999
theorem fnd_lt : ∀ {kv : List (Int × Value)} {k : Int} {i j : Nat} {v : Value}, fnd kv k i = some (j, v) → i ≤ j ∧ j < i + kv.length ∧ kv[j - i]? = some (k, v)
  | [], _, _, _, _, h => by simp [fnd] at h
  | p :: kv, k, i, j, v, h => by
    simp only [fnd] at h
    split at h
    · rename_i hk
      simp only [Option.some.injEq, Prod.mk.injEq] at h
      obtain ⟨rfl, rfl⟩ := h
      refine ⟨Nat.le_refl _, by simp, ?_⟩
      rw [Nat.sub_self, hk]; rfl
    · obtain ⟨h1, h2, h3⟩ := fnd_lt h
      refine ⟨by omega, by simp only [List.length_cons]; omega, ?_⟩
      rw [show j - i = (j - (i + 1)) + 1 by omega]
      exact h3
theorem map_eraseIdx_ {α β : Type} (g : α → β) : ∀ (l : List α) (i : Nat), (l.map g).eraseIdx i = (l.eraseIdx i).map g
  | [], _ => by simp
  | _ :: _, 0 => rfl
  | x :: l, i + 1 => by simp [map_eraseIdx_ g l i]
section
variable {P : Program} {f : Fr} {w0 : World} {K : Post} {n : Nat} {d : List Deferred} {ops : Array Oper} {rest : List Oper} {k : List Item} {e : Env} {F : List Atom}
variable {ty : TypeId} {pos : String} {aft : Array Edge}
theorem l_makeMap {t T} (ht : Nat.ble (t + 1) n = true) (hk : ∀ b, GL P f w0 K n d ops rest k ((t, .map (some b)) :: e) (MapI b [] :: F)) :
    GL P f w0 K n d ops (.mk (some t) (.makeMap T none) ty pos aft none :: rest) k e F :=
  l_eff ht fun ρ w ha hw => by
    have h2 := hw.new (.map #[] 0)
    refine ⟨.map (some w.heap.size), _, MapI w.heap.size [] :: F, ?_, h2.as (fun ho => ⟨#[], 0, ho, rfl⟩) (fun b hb => hb), hk _⟩
    simp only [execOp, Instr.makeMap, newObj]
    simp [Sem.run, go_sem]
theorem run_lookup_int {w : World} {T KT E b kk} {kv : List (Int × Value)} {z : Value} {ok : Bool} (hT : P.underlying T = some (.map KT E)) (hK : P.underlying KT = some (.int .i64)) (hz : (zeroValue E).run P w = .ok z w) {es : Array MapEntry} {clock : Nat} (hb : w.heap[b]? = some (.map es clock)) (hes : es.toList.map (fun e => (e.key, e.val)) = kv.map kvE) :
    (Instr.lookup T (.map (some b)) (.int .i64 kk) ok).run P w = .ok (if ok then .tuple #[((fnd kv kk 0).map (·.2)).getD z, .bool (fnd kv kk 0).isSome] else ((fnd kv kk 0).map (·.2)).getD z) w := by
  unfold Instr.lookup
  have hg : (getObj b).run P w = .ok (.map es clock) w := by simp [getObj, Sem.run, hb]
  simp only [Sem.run_bind, run_underlying hT, Result.andThen_ok, hg, Sem.run_pure, run_checkKey_int hK, run_findKey_int hK hes]
  cases hf : fnd kv kk 0 with
  | none => simp only [Sem.run_bind, hz, Result.andThen_ok, Sem.run_pure]; cases ok <;> rfl
  | some p => simp only [Sem.run_pure, Result.andThen_ok]; cases ok <;> rfl
theorem l_lookup {t x y T KT E b kk z ok} {kv : List (Int × Value)} (ht : Nat.ble (t + 1) n = true) (hT : P.underlying T = some (.map KT E)) (hK : P.underlying KT = some (.int .i64)) (hz : ∀ w, (zeroValue E).run P w = .ok z w) (hx : evO e x = some (.map (some b))) (hy : evO e y = some (.int .i64 kk)) (hm : MapI b kv ∈ F)
    (hk : GL P f w0 K n d ops rest k ((t, if ok then .tuple #[((fnd kv kk 0).map (·.2)).getD z, .bool (fnd kv kk 0).isSome] else ((fnd kv kk 0).map (·.2)).getD z) :: e) F) :
    GL P f w0 K n d ops (.mk (some t) (.lookup T x y ok) ty pos aft none :: rest) k e F :=
  l_val ht (fun ρ w ha hw => by
    obtain ⟨es, clock, h1, h2⟩ := hw.ok _ hm
    simp only [execOp, ha _ _ hx, ha _ _ hy]
    exact run_value (run_lookup_int hT hK (hz w) h1 h2)) hk
theorem l_look_yes {t x y T KT E b kk z i v} {kv : List (Int × Value)} (hf : fnd kv kk 0 = some (i, v)) (ht : Nat.ble (t + 1) n = true) (hT : P.underlying T = some (.map KT E)) (hK : P.underlying KT = some (.int .i64)) (hz : ∀ w, (zeroValue E).run P w = .ok z w) (hx : evO e x = some (.map (some b))) (hy : evO e y = some (.int .i64 kk)) (hm : MapI b kv ∈ F)
    (hk : GL P f w0 K n d ops rest k ((t, .tuple #[v, .bool true]) :: e) F) : GL P f w0 K n d ops (.mk (some t) (.lookup T x y true) ty pos aft none :: rest) k e F :=
  l_lookup ht hT hK hz hx hy hm (by rw [hf]; exact hk)
theorem l_look_no {t x y T KT E b kk z} {kv : List (Int × Value)} (hf : fnd kv kk 0 = none) (ht : Nat.ble (t + 1) n = true) (hT : P.underlying T = some (.map KT E)) (hK : P.underlying KT = some (.int .i64)) (hz : ∀ w, (zeroValue E).run P w = .ok z w) (hx : evO e x = some (.map (some b))) (hy : evO e y = some (.int .i64 kk)) (hm : MapI b kv ∈ F)
    (hk : GL P f w0 K n d ops rest k ((t, .tuple #[z, .bool false]) :: e) F) : GL P f w0 K n d ops (.mk (some t) (.lookup T x y true) ty pos aft none :: rest) k e F :=
  l_lookup ht hT hK hz hx hy hm (by rw [hf]; exact hk)
theorem l_look1 {t x y T KT E b kk z i v} {kv : List (Int × Value)} (hf : fnd kv kk 0 = some (i, v)) (ht : Nat.ble (t + 1) n = true) (hT : P.underlying T = some (.map KT E)) (hK : P.underlying KT = some (.int .i64)) (hz : ∀ w, (zeroValue E).run P w = .ok z w) (hx : evO e x = some (.map (some b))) (hy : evO e y = some (.int .i64 kk)) (hm : MapI b kv ∈ F)
    (hk : GL P f w0 K n d ops rest k ((t, v) :: e) F) : GL P f w0 K n d ops (.mk (some t) (.lookup T x y false) ty pos aft none :: rest) k e F :=
  l_lookup ht hT hK hz hx hy hm (by rw [hf]; exact hk)
theorem map_put {w : World} {b : Nat} {kv kv' : List (Int × Value)} {es : Array MapEntry} {c : Nat} (h : Holds w0 (MapI b kv :: F) w) (hes : es.toList.map (fun e => (e.key, e.val)) = kv'.map kvE) : Holds w0 (MapI b kv' :: F) (w.putObj b (.map es c)) :=
  holds_put h (fun b => Iff.rfl) (fun b hb => hb) ⟨es, c, World.putObj_heap_same (h.lt _ (List.mem_cons_self ..) b rfl), hes⟩
theorem run_setObj_map {w : World} {b : Nat} {es : Array MapEntry} {c : Nat} (o : Obj) (h : w.heap[b]? = some (.map es c)) : (setObj b o).run P w = .ok () (w.putObj b o) := by simp [setObj, Sem.run, h, World.putObj]
/-- A key that is not there is put; the map stands first. -/
theorem l_mapNew {x y u T KT E b kk v} {kv : List (Int × Value)} (hf : fnd kv kk 0 = none) (hT : P.underlying T = some (.map KT E)) (hK : P.underlying KT = some (.int .i64)) (hx : evO e x = some (.map (some b))) (hy : evO e y = some (.int .i64 kk)) (hu : evO e u = some v)
    (hk : GL P f w0 K n d ops rest k e (MapI b (kv ++ [(kk, v)]) :: F)) : GL P f w0 K n d ops (.mk none (.mapUpdate T x y u) ty pos aft none :: rest) k e (MapI b kv :: F) :=
  l_none fun ρ w ha hw => by
    obtain ⟨es, clock, h1, h2⟩ := hw.ok _ (List.mem_cons_self ..)
    refine ⟨undef, _, MapI b (kv ++ [(kk, v)]) :: F, .inr ?_, map_put (es := es.push { key := .int .i64 kk, val := v, born := clock }) (c := clock + 1) hw (by simp [h2, kvE]), hk⟩
    have hg : (getObj b).run P w = .ok (.map es clock) w := by simp [getObj, Sem.run, show w.heap[b]? = _ from h1]
    simp only [execOp, ha _ _ hx, ha _ _ hy, ha _ _ hu, Instr.mapUpdate]
    simp only [Sem.run_bind, run_underlying hT, Result.andThen_ok, hg, run_checkKey_int hK, run_findKey_int hK h2, hf, run_setObj_map (P := P) _ h1, Sem.run_pure]
/-- A key that is there is taken away; the map stands first. -/
theorem l_mapDel {x y T T2 KT E b kk i v} {kv : List (Int × Value)} (hf : fnd kv kk 0 = some (i, v)) (hT : P.underlying T = some (.map KT E)) (hK : P.underlying KT = some (.int .i64)) (hx : evO e x = some (.map (some b))) (hy : evO e y = some (.int .i64 kk))
    (hk : GL P f w0 K n d ops rest k e (MapI b (kv.eraseIdx i) :: F)) : GL P f w0 K n d ops (.mk none (.call ⟨.builtin .delete, #[x, y], #[T, T2]⟩) ty pos aft none :: rest) k e (MapI b kv :: F) :=
  l_none fun ρ w ha hw => by
    obtain ⟨es, clock, h1, h2⟩ := hw.ok _ (List.mem_cons_self ..)
    refine ⟨.tuple #[], _, MapI b (kv.eraseIdx i) :: F, .inl ?_, map_put (es := es.eraseIdxIfInBounds i) (c := clock) hw ?_, hk⟩
    · have hg : (getObj b).run P w = .ok (.map es clock) w := by simp [getObj, Sem.run, show w.heap[b]? = _ from h1]
      have hargs : (#[x, y] : Array Operand).map ρ = [.map (some b), .int .i64 kk].toArray := kn_args (xs := [x, y]) ha (by simp [evL, hx, hy])
      refine run_builtin ρ hargs ?_
      simp [builtin, run_underlying hT, hg, run_checkKey_int hK, run_findKey_int hK h2, hf, run_setObj_map (P := P) _ h1, go_sem, Builtin.delete_]
    · have := congrArg (fun l => l.eraseIdx i) h2
      rw [map_eraseIdx_, map_eraseIdx_] at this
      rw [Array.toList_eraseIdxIfInBounds]
      exact this
theorem q_lenm {t x T KT E b} {kv : List (Int × Value)} (hT : P.underlying T = some (.map KT E)) (hx : evO e x = some (.map (some b))) (hm : MapI b kv ∈ F) : QV P w0 (.mk (some t) (.call ⟨.builtin .len, #[x], #[T]⟩) ty pos aft none) e F (.int .i64 (kv.length : Int)) :=
  fun ρ w ha hw => by
    obtain ⟨es, clock, h1, h2⟩ := hw.ok _ hm
    have hl : es.size = kv.length := by have := congrArg List.length h2; simpa using this
    have hg : (getObj b).run P w = .ok (.map es clock) w := by simp [getObj, Sem.run, show w.heap[b]? = _ from h1]
    have hargs : (#[x] : Array Operand).map ρ = [.map (some b)].toArray := kn_args (xs := [x]) ha (by simp [evL, hx])
    refine run_builtin ρ hargs ?_
    simp [builtin, Builtin.len_, run_underlying hT, hg, hl, go_sem, goInt]
theorem l_lenm {t x T KT E b} {kv : List (Int × Value)} (ht : Nat.ble (t + 1) n = true) (hT : P.underlying T = some (.map KT E)) (hx : evO e x = some (.map (some b))) (hm : MapI b kv ∈ F)
    (hk : GL P f w0 K n d ops rest k ((t, .int .i64 (kv.length : Int)) :: e) F) : GL P f w0 K n d ops (.mk (some t) (.call ⟨.builtin .len, #[x], #[T]⟩) ty pos aft none :: rest) k e F :=
  l_val ht (q_lenm hT hx hm) hk
end
end Go.Proofs.Ythemlddepepekaa.Fw
