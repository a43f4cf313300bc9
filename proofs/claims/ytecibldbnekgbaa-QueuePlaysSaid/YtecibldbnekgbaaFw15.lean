import Derived.Test.YtecibldbnekgbaaFw14
import Derived.Laws.FloatArith
namespace Go.Proofs.Ytecibldbnekgbaa.Fw
open Go
set_option linter.unusedVariables false
set_option linter.unusedSimpArgs false

/- Floats. -/
section
variable {P : Program} {f : FuncId} {w0 : World} {K : Post} {n : Nat} {d : List Deferred} {ops : Array Oper} {rest : List Oper} {k : List Item} {e : Env} {F : List Atom}
variable {ty : TypeId} {pos : String} {aft : Array Edge}
theorem q_itof {t x a S D U} {q : IntKind} {kd : FloatKind} (hS : P.underlying S = some U) (hD : P.underlying D = some (.float kd)) (hx : evO e x = some (.int q a)) : QV P w0 (.mk (some t) (.convert S D x) ty pos aft none) e F (.float kd (floatOfInt kd a)) := by
  intro ρ w ha hw
  simp only [execOp, ha _ _ hx]
  exact run_value (run_convert_int_float w S D q kd a (by rw [hS]; rfl) hD)
theorem l_itof {t x a S D U} {q : IntKind} {kd : FloatKind} (ht : Nat.ble (t + 1) n = true) (hS : P.underlying S = some U) (hD : P.underlying D = some (.float kd)) (hx : evO e x = some (.int q a)) (hk : GL P f w0 K n d ops rest k ((t, .float kd (floatOfInt kd a)) :: e) F) :
    GL P f w0 K n d ops (.mk (some t) (.convert S D x) ty pos aft none :: rest) k e F := l_val ht (q_itof (t := t) (F := F) hS hD hx) hk
theorem q_fquo {t x y a b r T T2} {kd : FloatKind} (hx : evO e x = some (.float kd a)) (hy : evO e y = some (.float kd b)) (h : floatBits .quo kd a b = some r) : QV P w0 (.mk (some t) (.binOp .quo T x y T2) ty pos aft none) e F (.float kd r) := by
  intro ρ w ha hw
  simp only [execOp, ha _ _ hx, ha _ _ hy]
  exact run_value (run_float_arith w .quo T kd a b r h)
theorem l_fquo {t x y a b r T T2} {kd : FloatKind} (ht : Nat.ble (t + 1) n = true) (hx : evO e x = some (.float kd a)) (hy : evO e y = some (.float kd b)) (h : floatBits .quo kd a b = some r) (hk : GL P f w0 K n d ops rest k ((t, .float kd r) :: e) F) :
    GL P f w0 K n d ops (.mk (some t) (.binOp .quo T x y T2) ty pos aft none :: rest) k e F := l_val ht (q_fquo (t := t) (F := F) hx hy h) hk
theorem q_feql {t x y a b T T2} {kd : FloatKind} (hx : evO e x = some (.float kd a)) (hy : evO e y = some (.float kd b)) : QV P w0 (.mk (some t) (.binOp .eql T x y T2) ty pos aft none) e F (.bool (kd.format.order a b == some .eq)) := by
  intro ρ w ha hw
  simp only [execOp, ha _ _ hx, ha _ _ hy, binOp_float_cmp_eql]
  exact run_value rfl
theorem l_feql {t x y a b T T2} {kd : FloatKind} (ht : Nat.ble (t + 1) n = true) (hx : evO e x = some (.float kd a)) (hy : evO e y = some (.float kd b)) (hk : GL P f w0 K n d ops rest k ((t, .bool (kd.format.order a b == some .eq)) :: e) F) :
    GL P f w0 K n d ops (.mk (some t) (.binOp .eql T x y T2) ty pos aft none :: rest) k e F := l_val ht (q_feql (t := t) (F := F) hx hy) hk
theorem l_feqlt {t x y a b T T2} {kd : FloatKind} (ht : Nat.ble (t + 1) n = true) (hx : evO e x = some (.float kd a)) (hy : evO e y = some (.float kd b)) (h : (kd.format.order a b == some .eq) = true) (hk : GL P f w0 K n d ops rest k ((t, .bool true) :: e) F) :
    GL P f w0 K n d ops (.mk (some t) (.binOp .eql T x y T2) ty pos aft none :: rest) k e F := l_feql ht hx hy (by rw [h]; exact hk)
theorem l_makes {t x y T E inf m sz} {zl : List Value} {kd kd2 : IntKind} (ht : Nat.ble (t + 1) n = true) (hT : P.underlying T = some (.slice E)) (hi : P.info? E = some inf) (hz : inf.zero = some (.agg zl.toArray)) (hsz : inf.size = sz) (hl : zl.length = sz) (hpos : 1 ≤ sz) (hx : evO e x = some (.int kd m)) (hy : evO e y = some (.int kd2 m))
    (h0 : 0 ≤ m) (hb : (inf.bytes : Int) * m ≤ 281474976710656) (h63 : m ≤ 9223372036854775807)
    (hk : ∀ b, GL P f w0 K n d ops rest k ((t, .slice (some ⟨b, 0, none⟩) m.toNat m.toNat) :: e) (Own E sz (.slice (some ⟨b, 0, none⟩) m.toNat m.toNat) m.toNat (repL m.toNat zl) :: F)) :
    GL P f w0 K n d ops (.mk (some t) (.makeSlice T x y) ty pos aft none :: rest) k e F :=
  l_eff ht fun ρ w ha hw => by
    have hr := run_make (P := P) w T E inf _ hT hi hz kd kd2 m m h0 (Int.le_refl _) hb h63
    have hc : madeCells (Value.agg zl.toArray).cells (m.toNat * inf.size) = (repL m.toNat zl).toArray := by rw [hsz, ← hl]; exact made_repL m.toNat zl
    rw [hc] at hr
    have hw3 := (hw.new (.cells (repL m.toNat zl).toArray E (0, 0))).blk_own (sz := sz) (m := m.toNat) (cap := m.toNat) (by rw [repL_length, hl]) (Nat.le_refl _) (by simp only [maxLen]; omega)
    rw [List.take_of_length_le (by rw [repL_length, hl]; exact Nat.le_refl _)] at hw3
    refine ⟨_, _, _, ?_, hw3, hk _⟩
    simp only [execOp, ha _ _ hx, ha _ _ hy]
    exact run_value hr
end
end Go.Proofs.Ytecibldbnekgbaa.Fw
