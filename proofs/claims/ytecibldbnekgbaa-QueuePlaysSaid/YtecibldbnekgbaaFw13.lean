import Derived.Test.YtecibldbnekgbaaFw12
import Derived.Lib.MinMax
namespace Go.Proofs.Ytecibldbnekgbaa.Fw
open Go
set_option linter.unusedVariables false
set_option linter.unusedSimpArgs false

theorem nb_t {b : Bool} (h : (!b) = true) : b = false := by cases b <;> simp_all
theorem nb_f {b : Bool} (h : (!b) = false) : b = true := by cases b <;> simp_all
/- Values in any order, more of them; what is done in any order, more of it. -/
/-- Where a part of a row begins. -/
def sloff (i : Int) (cap o sz : Nat) : Nat := if (cap : Int) ≤ i then o else o + i.toNat * sz
theorem sloff_spec {i : Int} {cap o sz : Nat} : i < cap ∧ sloff i cap o sz = o + i.toNat * sz ∨ cap ≤ i ∧ sloff i cap o sz = o := by
  unfold sloff
  split <;> omega
/-- What stood beside fewer parts stands beside more. -/
class Ext (F0 F : List Atom) : Prop where
  on : ∀ w0 w, Holds w0 F w → Holds w0 F0 w
instance (priority := 3000) ext_refl {F : List Atom} : Ext F F := ⟨fun _ _ h => h⟩
instance ext_cons {F0 F : List Atom} {A : Atom} [h : Ext F0 F] : Ext F0 (A :: F) := ⟨fun w0 w hw => h.on w0 w hw.tail⟩
theorem RowAt.ex {w0 : World} {F0 F : List Atom} {b o : Nat} {l : List Value} (h : RowAt w0 F0 b o l) [e : Ext F0 F] : RowAt w0 F b o l := fun w hw => h w (e.on w0 w hw)
theorem Reads.ex {w0 : World} {F0 F : List Atom} {v : Value} {n sz : Nat} {l : List Value} (h : Reads w0 F0 v n sz l) [e : Ext F0 F] : Reads w0 F v n sz l :=
  ⟨h.1, h.2.imp (fun ⟨b, o, cap, hv, hr⟩ => ⟨b, o, cap, hv, hr.ex⟩) id⟩
section
variable {P : Program} {f : FuncId} {w0 : World} {K : Post} {n : Nat} {d : List Deferred} {ops : Array Oper} {rest : List Oper} {k : List Item} {e : Env} {F : List Atom}
variable {ty : TypeId} {pos : String} {aft : Array Edge}
theorem q_slice_lo {t x y b o m cap T E sz} {kd : IntKind} {i : Int} (hT : P.underlying T = some (.slice E)) (hS : ∀ w, (sizeOf E).run P w = .ok sz w) (hx : evO e x = some (.slice (some ⟨b, o, none⟩) m cap)) (hy : evO e y = some (.int kd i))
    (h0 : 0 ≤ i) (h1 : i ≤ m) (hc : m ≤ cap) : QV P w0 (.mk (some t) (.slice T x (some y) none none) ty pos aft none) e F (.slice (some ⟨b, sloff i cap o sz, none⟩) (m - i.toNat) (cap - i.toNat)) := by
  obtain ⟨l, rfl⟩ := Int.eq_ofNat_of_zero_le h0
  intro ρ w ha hw
  simp only [execOp, ha _ _ hx, ha _ _ hy, Option.map]
  refine run_value ((run_slice_any hT hS (.inr ⟨kd, rfl⟩) (.inl ⟨rfl, rfl⟩) (by omega) hc).trans ?_)
  have : sloff (l : Int) cap o sz = if cap = l then o else o + l * sz := by
    unfold sloff
    by_cases h : cap = l
    · simp [h]
    · simp [h, show ¬ cap ≤ l by omega]
  simp only [Int.ofNat_eq_natCast, Int.toNat_natCast, this]
  split <;> simp [add_none, *]
theorem q_slice_hi {t x y b o m cap T E sz} {kd : IntKind} {i : Int} (hT : P.underlying T = some (.slice E)) (hS : ∀ w, (sizeOf E).run P w = .ok sz w) (hx : evO e x = some (.slice (some ⟨b, o, none⟩) m cap)) (hy : evO e y = some (.int kd i))
    (h0 : 0 ≤ i) (h1 : i ≤ cap) : QV P w0 (.mk (some t) (.slice T x none (some y) none) ty pos aft none) e F (.slice (some ⟨b, o, none⟩) i.toNat cap) := by
  obtain ⟨h, rfl⟩ := Int.eq_ofNat_of_zero_le h0
  intro ρ w ha hw
  simp only [execOp, ha _ _ hx, ha _ _ hy, Option.map]
  refine run_value ((run_slice_any hT hS (.inl ⟨rfl, rfl⟩) (.inr ⟨kd, rfl⟩) (by omega) (by omega)).trans ?_)
  split <;> simp [add_none, *]
theorem q_slice_lh {t x y z b o m cap T E sz} {kd kd2 : IntKind} {i j : Int} (hT : P.underlying T = some (.slice E)) (hS : ∀ w, (sizeOf E).run P w = .ok sz w) (hx : evO e x = some (.slice (some ⟨b, o, none⟩) m cap)) (hy : evO e y = some (.int kd i)) (hz : evO e z = some (.int kd2 j))
    (h0 : 0 ≤ i) (h1 : i ≤ j) (hc : j ≤ cap) : QV P w0 (.mk (some t) (.slice T x (some y) (some z) none) ty pos aft none) e F (.slice (some ⟨b, sloff i cap o sz, none⟩) (j.toNat - i.toNat) (cap - i.toNat)) := by
  obtain ⟨l, rfl⟩ := Int.eq_ofNat_of_zero_le h0
  obtain ⟨h, rfl⟩ := Int.eq_ofNat_of_zero_le (Int.le_trans h0 h1)
  intro ρ w ha hw
  simp only [execOp, ha _ _ hx, ha _ _ hy, ha _ _ hz, Option.map]
  refine run_value ((run_slice_any hT hS (.inr ⟨kd, rfl⟩) (.inr ⟨kd2, rfl⟩) (by omega) (by omega)).trans ?_)
  have : sloff (l : Int) cap o sz = if cap = l then o else o + l * sz := by
    unfold sloff
    by_cases h : cap = l
    · simp [h]
    · simp [h, show ¬ cap ≤ l by omega]
  simp only [Int.ofNat_eq_natCast, Int.toNat_natCast, this]
  split <;> simp [add_none, *]
theorem q_neg {t x a T} {kd : IntKind} (hx : evO e x = some (.int kd a)) (hw' : kd.wrap (-a) = -a) : QV P w0 (.mk (some t) (.unOp .neg T x) ty pos aft none) e F (.int kd (-a)) := by
  intro ρ w ha hw
  simp [execOp, ha _ _ hx, Op.unary, hw', go_sem]
theorem l_neg {t x a T} {kd : IntKind} (ht : Nat.ble (t + 1) n = true) (hx : evO e x = some (.int kd a)) (hw' : kd.wrap (-a) = -a) (hk : GL P f w0 K n d ops rest k ((t, .int kd (-a)) :: e) F) :
    GL P f w0 K n d ops (.mk (some t) (.unOp .neg T x) ty pos aft none :: rest) k e F := l_val ht (q_neg (t := t) (F := F) hx hw') hk
theorem q_max {t x y a b T} {tys : Array TypeId} {kd kd2 : IntKind} (hx : evO e x = some (.int kd a)) (hy : evO e y = some (.int kd2 b)) : QV P w0 (.mk (some t) (.call ⟨.builtin .max, #[x, y], tys⟩) T pos aft none) e F (.int kd (max a b)) := by
  intro ρ w ha hw
  have hargs : (#[x, y] : Array Operand).map ρ = [.int kd a, .int kd2 b].toArray := kn_args (xs := [x, y]) ha (by simp [evL, hx, hy])
  refine run_builtin ρ hargs ?_
  simp only [builtin]
  refine run_value ?_
  simp [go_sem]
theorem q_min {t x y a b T} {tys : Array TypeId} {kd kd2 : IntKind} (hx : evO e x = some (.int kd a)) (hy : evO e y = some (.int kd2 b)) : QV P w0 (.mk (some t) (.call ⟨.builtin .min, #[x, y], tys⟩) T pos aft none) e F (.int kd (min a b)) := by
  intro ρ w ha hw
  have hargs : (#[x, y] : Array Operand).map ρ = [.int kd a, .int kd2 b].toArray := kn_args (xs := [x, y]) ha (by simp [evL, hx, hy])
  refine run_builtin ρ hargs ?_
  simp only [builtin]
  refine run_value ?_
  simp [go_sem]
theorem l_max {t x y a b T} {tys : Array TypeId} {kd kd2 : IntKind} (ht : Nat.ble (t + 1) n = true) (hx : evO e x = some (.int kd a)) (hy : evO e y = some (.int kd2 b)) (hk : GL P f w0 K n d ops rest k ((t, .int kd (max a b)) :: e) F) :
    GL P f w0 K n d ops (.mk (some t) (.call ⟨.builtin .max, #[x, y], tys⟩) T pos aft none :: rest) k e F := l_val ht (q_max (t := t) (F := F) hx hy) hk
theorem l_min {t x y a b T} {tys : Array TypeId} {kd kd2 : IntKind} (ht : Nat.ble (t + 1) n = true) (hx : evO e x = some (.int kd a)) (hy : evO e y = some (.int kd2 b)) (hk : GL P f w0 K n d ops rest k ((t, .int kd (min a b)) :: e) F) :
    GL P f w0 K n d ops (.mk (some t) (.call ⟨.builtin .min, #[x, y], tys⟩) T pos aft none :: rest) k e F := l_val ht (q_min (t := t) (F := F) hx hy) hk
/-- A copy among rows of the call's own, in any order. -/
theorem does_copyw {t x y T E m m2 g o c cap c2 u F'} {kd : IntKind} {V W : List Int} (i : Nat) (hT : P.underlying T = some (.slice E)) (hS : ∀ w, (sizeOf E).run P w = .ok 1 w)
    (hx : evO e x = some (.slice (some ⟨g, o, none⟩) m c)) (hy : evO e y = some u) (hF : getO F i = some (Own E 1 (.slice (some ⟨g, 0, none⟩) c2 cap) c2 (ints kd V))) (hu : Reads w0 F u m2 1 (ints kd W))
    (ho : o + min m2 m ≤ V.length) (hset : setO F i (Own E 1 (.slice (some ⟨g, 0, none⟩) c2 cap) c2 (ints kd (spl o (W.take (min m2 m)) V))) = some F') :
    Does P w0 (.mk (some t) (.call ⟨.builtin .copy, #[x, y], #[T, T]⟩) ty pos aft none) e F (fun v2 F2 => v2 = .int .i64 (min m2 m : Nat) ∧ F2 = F') := by
  intro ρ w ha hw
  have hun : ∀ w, (underlying T).run P w = .ok (.slice E) w := fun w => by simp [underlying, hT, go_sem]
  have hargs : (#[x, y] : Array Operand).map ρ = [.slice (some ⟨g, o, none⟩) m c, u].toArray := kn_args (xs := [x, y]) ha (by simp [evL, hx, hy])
  have hs2 : setO F i (Own E 1 (.slice (some ⟨g, 0, none⟩) c2 cap) c2 (spl o ((ints kd W).take (min m2 m * 1)) (ints kd V))) = some F' := by rw [Nat.mul_one, ints_take, ints_spl]; exact hset
  obtain ⟨l', h1', h2'⟩ := perm_set (a' := Own E 1 (.slice (some ⟨g, 0, none⟩) c2 cap) c2 (spl o ((ints kd W).take (min m2 m * 1)) (ints kd V))) (getO_eq hF)
  have he := (setO_eq hs2).2
  subst he
  have hlen : ((ints kd W).take (min m2 m * 1)).length = min m2 m * 1 := by
    rw [List.length_take, hu.1]
    exact Nat.min_eq_left (Nat.mul_le_mul_right _ (Nat.min_le_left ..))
  obtain ⟨w', hr, hw'⟩ := run_store_own (P := P) (vs := (ints kd W).take (min m2 m * 1)) (o := o) (hw.perm h1') (by have := ints_scalar kd W; rw [List.all_eq_true] at this ⊢; exact fun u hu => this u (List.mem_of_mem_take hu)) (by rw [ints_length]; omega)
  refine .inl ⟨.int .i64 (min m2 m : Nat), w', _, .inl (run_builtin ρ hargs (by
    simp only [builtin]
    refine run_value (v := .int .i64 (min m2 m : Nat)) ?_
    rcases hu.2 with ⟨b, o2, cap2, rfl, hrow⟩ | ⟨rfl, rfl⟩
    · have hld := run_loadCells_row (P := P) (w := w) (b := b) (o := o2) (l := (ints kd W).take (min m2 m * 1)) (fun j u hj => by
        rw [List.getElem?_take] at hj
        split at hj
        · exact hrow w hw j u hj
        · cases hj)
      rw [hlen] at hld
      simp [Builtin.copy_, hun, Builtin.lenOf, Builtin.firstCells, hS, goInt, Nat.min_def, hr, go_sem] at hld hr ⊢
      simp [hld, hr]
    · have : (ints kd W).take (min 0 m * 1) = [] := by simp
      rw [this] at hr
      simp [Builtin.copy_, hun, Builtin.lenOf, Builtin.firstCells, hS, goInt, storeCells, go_sem] at hr ⊢
      exact hr)), hw'.perm h2'.symm, rfl, rfl⟩
/-- A copy of nothing. -/
theorem l_copy0 {t x y T E m g o c c2 a} (ht : Nat.ble (t + 1) n = true) (hT : P.underlying T = some (.slice E)) (hS : ∀ w, (sizeOf E).run P w = .ok 1 w)
    (hx : evO e x = some (.slice (some ⟨g, o, none⟩) m c)) (hy : evO e y = some (.slice a 0 c2)) (hk : GL P f w0 K n d ops rest k ((t, .int .i64 0) :: e) F) :
    GL P f w0 K n d ops (.mk (some t) (.call ⟨.builtin .copy, #[x, y], #[T, T]⟩) ty pos aft none :: rest) k e F :=
  l_val ht (fun ρ w ha hw => by
    have hun : ∀ w, (underlying T).run P w = .ok (.slice E) w := fun w => by simp [underlying, hT, go_sem]
    have hargs : (#[x, y] : Array Operand).map ρ = [.slice (some ⟨g, o, none⟩) m c, .slice a 0 c2].toArray := kn_args (xs := [x, y]) ha (by simp [evL, hx, hy])
    refine run_builtin ρ hargs ?_
    simp only [builtin]
    refine run_value (v := .int .i64 0) ?_
    cases a <;> simp [Builtin.copy_, hun, Builtin.lenOf, Builtin.firstCells, hS, goInt, storeCells, loadCells, go_sem]) hk
theorem words_part {w0 F g o' kd} {cap m : Nat} {i : Int} {W : List Int} (h : RowAt w0 F g 0 (ints kd W)) (ho : i < cap ∧ o' = 0 + i.toNat * 1 ∨ cap ≤ i ∧ o' = 0) (hl : W.length ≤ cap) : RowAt w0 F g o' (ints kd ((W.drop i.toNat).take m)) := by
  have := (words_from h ho hl).mid 0 m
  simpa [ints_take] using this
theorem fill_step {a i x : Int} {W : List Int} (h0 : 0 ≤ a) (hi : 0 ≤ i) (h : a + i < W.length) : (spl a.toNat (List.replicate i.toNat x) W).set (a + i).toNat x = spl a.toNat (List.replicate (i + 1).toNat x) W := by
  have h1 : (i + 1).toNat = i.toNat + 1 := by omega
  have h2 : (a + i).toNat = a.toNat + i.toNat := by omega
  apply List.ext_getElem?
  intro j
  rw [h1, h2, List.getElem?_set, spl_get (by simp; omega), spl_get (by simp; omega), spl_length (by simp; omega)]
  simp only [List.length_replicate, List.getElem?_replicate]
  repeat' split
  all_goals first | rfl | omega | skip
theorem spl_getD {o : Nat} {vs c : List Int} (h : o + vs.length ≤ c.length) (i : Nat) : (spl o vs c).getD i 0 = if o ≤ i ∧ i < o + vs.length then vs.getD (i - o) 0 else c.getD i 0 := by
  simp only [List.getD_eq_getElem?_getD, spl_get h]
  split <;> rfl
end
end Go.Proofs.Ytecibldbnekgbaa.Fw
