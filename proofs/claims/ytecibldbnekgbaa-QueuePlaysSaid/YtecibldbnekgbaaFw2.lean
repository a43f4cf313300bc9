import Derived.Test.YtecibldbnekgbaaFw1
import Derived.WalkKit
namespace Go.Proofs.Ytecibldbnekgbaa.Fw
open Go
set_option linter.unusedVariables false
set_option linter.unusedSimpArgs false
section ops
variable {P : Program} {f : FuncId} {w0 : World} {K : Post} {n : Nat} {d : List Deferred} {ops : Array Oper} {rest : List Oper} {k : List Item} {e : Env} {F : List Atom}
variable {ty : TypeId} {pos : String} {aft : Array Edge}

def Kn (e : Env) (ρ : Operand → Value) : Prop := ∀ x v, evO e x = some v → ρ x = v
theorem Knows.kn {a : Act} (h : Knows n d e a) : Kn e a.eval := fun x v hx => h.ev hx
/- Names short on purpose: every step of every walk writes one. -/
theorem l_nil (h : G P f w0 K n d k e F) : GL P f w0 K n d ops [] k e F := fun a w ha hw => h a w ha hw

theorem l_eff {t : Tmp} {op : Op} (ht : Nat.ble (t + 1) n = true)
    (h : ∀ ρ w, Kn e ρ → Holds w0 F w → ∃ v w' F', (execOp ρ (.mk (some t) op ty pos aft none)).run P w = .ok (.value v) w' ∧ Holds w0 F' w' ∧ GL P f w0 K n d ops rest k ((t, v) :: e) F') :
    GL P f w0 K n d ops (.mk (some t) op ty pos aft none :: rest) k e F := by
  intro a w ha hw
  obtain ⟨v, w', F', hr, hw', hk⟩ := h a.eval w ha.kn hw
  show wpL _ _ _ _ _ _
  simp only [wpL, Region.wanted, if_true, Oper.wp, hr, Oper.upon]
  exact hk _ _ (ha.put t v ht) hw'

theorem l_val {t : Tmp} {op : Op} {v : Value} (ht : Nat.ble (t + 1) n = true)
    (h : ∀ ρ w, Kn e ρ → Holds w0 F w → (execOp ρ (.mk (some t) op ty pos aft none)).run P w = .ok (.value v) w)
    (hk : GL P f w0 K n d ops rest k ((t, v) :: e) F) : GL P f w0 K n d ops (.mk (some t) op ty pos aft none :: rest) k e F :=
  l_eff ht fun ρ w ha hw => ⟨v, w, F, h ρ w ha hw, hw, hk⟩

theorem l_none {op : Op}
    (h : ∀ ρ w, Kn e ρ → Holds w0 F w → ∃ x w' F', ((execOp ρ (.mk none op ty pos aft none)).run P w = .ok (.value x) w' ∨ (execOp ρ (.mk none op ty pos aft none)).run P w = .ok .skip w') ∧ Holds w0 F' w' ∧ GL P f w0 K n d ops rest k e F') :
    GL P f w0 K n d ops (.mk none op ty pos aft none :: rest) k e F := by
  intro a w ha hw
  obtain ⟨x, w', F', hr, hw', hk⟩ := h a.eval w ha.kn hw
  show wpL _ _ _ _ _ _
  rcases hr with hr | hr <;> simp only [wpL, Region.wanted, if_true, Oper.wp, hr, Oper.upon] <;> exact hk _ _ ha hw'

/- Guards. -/
def gdst (ops : Array Oper) (j : Nat) : Option Tmp := (ops[j]?).bind (·.dst)
theorem Knows.yield {a : Act} (ha : Knows n d e a) {j : Nat} {t : Tmp} {b : Bool} (hj : gdst ops j = some t) (hv : lk e t = some (.bool b)) : yielded ops a.tmps j = some b := by
  unfold gdst at hj
  unfold yielded
  rw [hj]
  simp [ha.val t _ hv]
theorem l_guard_yes {dst : Option Tmp} {op : Op} {j : Nat} {b : Bool} {t : Tmp} (hj : gdst ops j = some t) (hv : lk e t = some (.bool b))
    (h : GL P f w0 K n d ops (.mk dst op ty pos aft none :: rest) k e F) : GL P f w0 K n d ops (.mk dst op ty pos aft (some (j, b)) :: rest) k e F := by
  intro a w ha hw
  have h1 := h a w ha hw
  have hy : Region.wanted (.mk dst op ty pos aft (some (j, b))) (yielded ops a.tmps) = true := by simp [Region.wanted, ha.yield hj hv]
  simp only [wpL, hy, if_true]
  simp only [wpL, Region.wanted, if_true] at h1
  exact h1
theorem l_guard_no {t2 : Tmp} {op : Op} {j : Nat} {b : Bool} {t : Tmp} (hj : gdst ops j = some t) (hv : lk e t = some (.bool (!b))) (ht : Nat.ble (t2 + 1) n = true)
    (h : GL P f w0 K n d ops rest k ((t2, undef) :: e) F) : GL P f w0 K n d ops (.mk (some t2) op ty pos aft (some (j, b)) :: rest) k e F := by
  intro a w ha hw
  have hy : Region.wanted (.mk (some t2) op ty pos aft (some (j, b))) (yielded ops a.tmps) = false := by cases b <;> simp [Region.wanted, ha.yield hj hv]
  simp only [wpL, hy]
  exact h _ _ (ha.put t2 undef ht) hw
theorem l_guard_nou {t2 : Tmp} {op : Op} {j : Nat} {b : Bool} {t : Tmp} (hj : gdst ops j = some t) (hv : lk e t = some (.tuple #[])) (ht : Nat.ble (t2 + 1) n = true)
    (h : GL P f w0 K n d ops rest k ((t2, undef) :: e) F) : GL P f w0 K n d ops (.mk (some t2) op ty pos aft (some (j, b)) :: rest) k e F := by
  intro a w ha hw
  have hy : Region.wanted (.mk (some t2) op ty pos aft (some (j, b))) (yielded ops a.tmps) = false := by
    have : yielded ops a.tmps j = none := by
      unfold gdst at hj
      unfold yielded
      rw [hj]
      simp [ha.val t _ hv]
    simp [Region.wanted, this]
  simp only [wpL, hy]
  exact h _ _ (ha.put t2 undef ht) hw
theorem l_guard_no0 {op : Op} {j : Nat} {b : Bool} {t : Tmp} (hj : gdst ops j = some t) (hv : lk e t = some (.bool (!b)))
    (h : GL P f w0 K n d ops rest k e F) : GL P f w0 K n d ops (.mk none op ty pos aft (some (j, b)) :: rest) k e F := by
  intro a w ha hw
  have hy : Region.wanted (.mk none op ty pos aft (some (j, b))) (yielded ops a.tmps) = false := by cases b <;> simp [Region.wanted, ha.yield hj hv]
  simp only [wpL, hy]
  exact h _ _ ha hw
theorem Knows.put_same {a : Act} (ha : Knows n d e a) {t : Tmp} {v : Value} (hv : lk e t = some v) : Knows n d ((t, v) :: e) a := by
  refine ha.sub fun k u hk => ?_
  simp only [lk] at hk
  split at hk
  · rename_i hb
    have := Nat.eq_of_beq_eq_true hb
    subst this
    rw [hv]; exact hk
  · exact hk
/-- Two ways: a slot's truth. -/
theorem l_split (t : Tmp) {b : Bool} (hv : lk e t = some (.bool b)) (ht : b = true → GL P f w0 K n d ops rest k ((t, .bool true) :: e) F) (hf : b = false → GL P f w0 K n d ops rest k ((t, .bool false) :: e) F) :
    GL P f w0 K n d ops rest k e F := by
  intro a w ha hw
  cases b with
  | true => exact ht rfl a w (ha.put_same hv) hw
  | false => exact hf rfl a w (ha.put_same hv) hw
theorem l_sub {e' : Env} (hs : Sub e e') (h : GL P f w0 K n d ops rest k e' F) : GL P f w0 K n d ops rest k e F :=
  fun a w ha hw => h a w (ha.sub hs.le) hw

/- Values alone. -/
theorem l_move {t x v} (ht : Nat.ble (t + 1) n = true) (hx : evO e x = some v) (hk : GL P f w0 K n d ops rest k ((t, v) :: e) F) : GL P f w0 K n d ops (.mk (some t) (.move x) ty pos aft none :: rest) k e F :=
  l_val ht (fun a w ha hw => by simp [execOp, ha _ _ hx, go_sem]) hk
theorem l_assign {t x v} (ht : Nat.ble (t + 1) n = true) (hx : evO e x = some v) (hk : GL P f w0 K n d ops rest k ((t, v) :: e) F) : GL P f w0 K n d ops (.mk (some t) (.assign x) ty pos aft none :: rest) k e F :=
  l_val ht (fun a w ha hw => by simp [execOp, ha _ _ hx, go_sem]) hk
theorem l_pick_t {t c x y v} (ht : Nat.ble (t + 1) n = true) (hc : evO e c = some (.bool true)) (hx : evO e x = some v) (hk : GL P f w0 K n d ops rest k ((t, v) :: e) F) :
    GL P f w0 K n d ops (.mk (some t) (.pick c x y) ty pos aft none :: rest) k e F :=
  l_val ht (fun a w ha hw => by simp [execOp, ha _ _ hx, ha _ _ hc, asBool, go_sem]) hk
theorem l_pick_f {t c x y v} (ht : Nat.ble (t + 1) n = true) (hc : evO e c = some (.bool false)) (hy : evO e y = some v) (hk : GL P f w0 K n d ops rest k ((t, v) :: e) F) :
    GL P f w0 K n d ops (.mk (some t) (.pick c x y) ty pos aft none :: rest) k e F :=
  l_val ht (fun a w ha hw => by simp [execOp, ha _ _ hy, ha _ _ hc, asBool, go_sem]) hk
theorem l_nilCheck {t x p} (ht : Nat.ble (t + 1) n = true) (hx : evO e x = some (.pointer (some p))) (hk : GL P f w0 K n d ops rest k ((t, .pointer (some p)) :: e) F) :
    GL P f w0 K n d ops (.mk (some t) (.nilCheck x) ty pos aft none :: rest) k e F :=
  l_val ht (fun a w ha hw => by simp [execOp, ha _ _ hx, go_sem]) hk

theorem l_not {t x b T} (ht : Nat.ble (t + 1) n = true) (hx : evO e x = some (.bool b)) (hk : GL P f w0 K n d ops rest k ((t, .bool (!b)) :: e) F) :
    GL P f w0 K n d ops (.mk (some t) (.unOp .not T x) ty pos aft none :: rest) k e F :=
  l_val ht (fun a w ha hw => by simp [execOp, ha _ _ hx, Op.unary, go_sem]) hk

/- Whole numbers. -/
theorem l_add {t x y a b T T2} {kd : IntKind} (ht : Nat.ble (t + 1) n = true) (hx : evO e x = some (.int kd a)) (hy : evO e y = some (.int kd b)) (hw' : kd.wrap (a + b) = a + b)
    (hk : GL P f w0 K n d ops rest k ((t, .int kd (a + b)) :: e) F) : GL P f w0 K n d ops (.mk (some t) (.binOp .add T x y T2) ty pos aft none :: rest) k e F :=
  l_val ht (fun A w ha hw => by simp [execOp, ha _ _ hx, ha _ _ hy, eqGuard, binOp, Op.intArith, hw', go_sem]) hk
theorem l_addw {t x y a b T T2} {kd : IntKind} (ht : Nat.ble (t + 1) n = true) (hx : evO e x = some (.int kd a)) (hy : evO e y = some (.int kd b))
    (hk : GL P f w0 K n d ops rest k ((t, .int kd (kd.wrap (a + b))) :: e) F) : GL P f w0 K n d ops (.mk (some t) (.binOp .add T x y T2) ty pos aft none :: rest) k e F :=
  l_val ht (fun A w ha hw => by simp [execOp, ha _ _ hx, ha _ _ hy, eqGuard, binOp, Op.intArith, go_sem]) hk
theorem l_sub_ {t x y a b T T2} {kd : IntKind} (ht : Nat.ble (t + 1) n = true) (hx : evO e x = some (.int kd a)) (hy : evO e y = some (.int kd b)) (hw' : kd.wrap (a - b) = a - b)
    (hk : GL P f w0 K n d ops rest k ((t, .int kd (a - b)) :: e) F) : GL P f w0 K n d ops (.mk (some t) (.binOp .sub T x y T2) ty pos aft none :: rest) k e F :=
  l_val ht (fun A w ha hw => by simp [execOp, ha _ _ hx, ha _ _ hy, eqGuard, binOp, Op.intArith, hw', go_sem]) hk
theorem l_subw {t x y a b T T2} {kd : IntKind} (ht : Nat.ble (t + 1) n = true) (hx : evO e x = some (.int kd a)) (hy : evO e y = some (.int kd b))
    (hk : GL P f w0 K n d ops rest k ((t, .int kd (kd.wrap (a - b))) :: e) F) : GL P f w0 K n d ops (.mk (some t) (.binOp .sub T x y T2) ty pos aft none :: rest) k e F :=
  l_val ht (fun A w ha hw => by simp [execOp, ha _ _ hx, ha _ _ hy, eqGuard, binOp, Op.intArith, go_sem]) hk
theorem l_mul {t x y a b T T2} {kd : IntKind} (ht : Nat.ble (t + 1) n = true) (hx : evO e x = some (.int kd a)) (hy : evO e y = some (.int kd b)) (hw' : kd.wrap (a * b) = a * b)
    (hk : GL P f w0 K n d ops rest k ((t, .int kd (a * b)) :: e) F) : GL P f w0 K n d ops (.mk (some t) (.binOp .mul T x y T2) ty pos aft none :: rest) k e F :=
  l_val ht (fun A w ha hw => by simp [execOp, ha _ _ hx, ha _ _ hy, eqGuard, binOp, Op.intArith, hw', go_sem]) hk
theorem l_mulw {t x y a b T T2} {kd : IntKind} (ht : Nat.ble (t + 1) n = true) (hx : evO e x = some (.int kd a)) (hy : evO e y = some (.int kd b))
    (hk : GL P f w0 K n d ops rest k ((t, .int kd (kd.wrap (a * b))) :: e) F) : GL P f w0 K n d ops (.mk (some t) (.binOp .mul T x y T2) ty pos aft none :: rest) k e F :=
  l_val ht (fun A w ha hw => by simp [execOp, ha _ _ hx, ha _ _ hy, eqGuard, binOp, Op.intArith, go_sem]) hk
theorem wrap_tmod {k : IntKind} {a b : Int} (ha : 0 ≤ a) (hb : 0 < b) (h : k.wrap (a % b) = a % b) : k.wrap (a.tmod b) = a % b := by
  rw [Int.tmod_eq_emod_of_nonneg ha]; exact h
theorem wrap_tdiv {k : IntKind} {a b : Int} (ha : 0 ≤ a) (hb : 0 < b) (h : k.wrap (a / b) = a / b) : k.wrap (a.tdiv b) = a / b := by
  rw [Int.tdiv_eq_ediv_of_nonneg ha]; exact h
theorem l_rem {t x y a b T T2} {kd : IntKind} (ht : Nat.ble (t + 1) n = true) (hx : evO e x = some (.int kd a)) (hy : evO e y = some (.int kd b)) (h0 : 0 ≤ a) (h1 : 0 < b) (hw' : kd.wrap (a % b) = a % b)
    (hk : GL P f w0 K n d ops rest k ((t, .int kd (a % b)) :: e) F) : GL P f w0 K n d ops (.mk (some t) (.binOp .rem T x y T2) ty pos aft none :: rest) k e F :=
  l_val ht (fun A w ha hw => by
    have hb : b ≠ 0 := by omega
    have := wrap_tmod h0 h1 hw'
    simp only [execOp, ha _ _ hx, ha _ _ hy, eqGuard, binOp, Op.intDiv]
    simp [hb, this, Int.tmod_eq_emod_of_nonneg h0, go_sem]) hk
theorem l_quo {t x y a b T T2} {kd : IntKind} (ht : Nat.ble (t + 1) n = true) (hx : evO e x = some (.int kd a)) (hy : evO e y = some (.int kd b)) (h0 : 0 ≤ a) (h1 : 0 < b) (hw' : kd.wrap (a / b) = a / b)
    (hk : GL P f w0 K n d ops rest k ((t, .int kd (a / b)) :: e) F) : GL P f w0 K n d ops (.mk (some t) (.binOp .quo T x y T2) ty pos aft none :: rest) k e F :=
  l_val ht (fun A w ha hw => by
    have hb : b ≠ 0 := by omega
    have := wrap_tdiv h0 h1 hw'
    simp only [execOp, ha _ _ hx, ha _ _ hy, eqGuard, binOp, Op.intDiv]
    simp [hb, this, go_sem]) hk

theorem l_eql {t x y a b T T2} {kd : IntKind} (ht : Nat.ble (t + 1) n = true) (hx : evO e x = some (.int kd a)) (hy : evO e y = some (.int kd b))
    (hk : GL P f w0 K n d ops rest k ((t, .bool (decide (a = b))) :: e) F) : GL P f w0 K n d ops (.mk (some t) (.binOp .eql T x y T2) ty pos aft none :: rest) k e F :=
  l_val ht (fun A w ha hw => by simp [execOp, ha _ _ hx, ha _ _ hy, eqGuard, binOp, Op.intCmp, go_sem]; rfl) hk
theorem l_neq {t x y a b T T2} {kd : IntKind} (ht : Nat.ble (t + 1) n = true) (hx : evO e x = some (.int kd a)) (hy : evO e y = some (.int kd b))
    (hk : GL P f w0 K n d ops rest k ((t, .bool (decide (a ≠ b))) :: e) F) : GL P f w0 K n d ops (.mk (some t) (.binOp .neq T x y T2) ty pos aft none :: rest) k e F :=
  l_val ht (fun A w ha hw => by
    have : (a != b) = decide (a ≠ b) := by by_cases h : a = b <;> simp [h]
    simp [execOp, ha _ _ hx, ha _ _ hy, eqGuard, binOp, Op.intCmp, this, go_sem]) hk
theorem l_lss {t x y a b T T2} {kd : IntKind} (ht : Nat.ble (t + 1) n = true) (hx : evO e x = some (.int kd a)) (hy : evO e y = some (.int kd b))
    (hk : GL P f w0 K n d ops rest k ((t, .bool (decide (a < b))) :: e) F) : GL P f w0 K n d ops (.mk (some t) (.binOp .lss T x y T2) ty pos aft none :: rest) k e F :=
  l_val ht (fun A w ha hw => by simp [execOp, ha _ _ hx, ha _ _ hy, eqGuard, binOp, Op.intCmp, go_sem]) hk
theorem l_leq {t x y a b T T2} {kd : IntKind} (ht : Nat.ble (t + 1) n = true) (hx : evO e x = some (.int kd a)) (hy : evO e y = some (.int kd b))
    (hk : GL P f w0 K n d ops rest k ((t, .bool (decide (a ≤ b))) :: e) F) : GL P f w0 K n d ops (.mk (some t) (.binOp .leq T x y T2) ty pos aft none :: rest) k e F :=
  l_val ht (fun A w ha hw => by simp [execOp, ha _ _ hx, ha _ _ hy, eqGuard, binOp, Op.intCmp, go_sem]) hk
theorem l_gtr {t x y a b T T2} {kd : IntKind} (ht : Nat.ble (t + 1) n = true) (hx : evO e x = some (.int kd a)) (hy : evO e y = some (.int kd b))
    (hk : GL P f w0 K n d ops rest k ((t, .bool (decide (b < a))) :: e) F) : GL P f w0 K n d ops (.mk (some t) (.binOp .gtr T x y T2) ty pos aft none :: rest) k e F :=
  l_val ht (fun A w ha hw => by simp [execOp, ha _ _ hx, ha _ _ hy, eqGuard, binOp, Op.intCmp, go_sem]) hk
theorem l_geq {t x y a b T T2} {kd : IntKind} (ht : Nat.ble (t + 1) n = true) (hx : evO e x = some (.int kd a)) (hy : evO e y = some (.int kd b))
    (hk : GL P f w0 K n d ops rest k ((t, .bool (decide (b ≤ a))) :: e) F) : GL P f w0 K n d ops (.mk (some t) (.binOp .geq T x y T2) ty pos aft none :: rest) k e F :=
  l_val ht (fun A w ha hw => by simp [execOp, ha _ _ hx, ha _ _ hy, eqGuard, binOp, Op.intCmp, go_sem]) hk
theorem l_conv {t x a S D} {j kd : IntKind} (ht : Nat.ble (t + 1) n = true) (hS : P.underlying S = some (.int j)) (hD : P.underlying D = some (.int kd)) (hx : evO e x = some (.int j a)) (hw' : kd.wrap a = a)
    (hk : GL P f w0 K n d ops rest k ((t, .int kd a) :: e) F) : GL P f w0 K n d ops (.mk (some t) (.convert S D x) ty pos aft none :: rest) k e F :=
  l_val ht (fun A w ha hw => by simp [execOp, ha _ _ hx, convert, underlying, hS, hD, Conv.intToInt, hw', go_sem]) hk
theorem l_convw {t x a S D} {j kd : IntKind} (ht : Nat.ble (t + 1) n = true) (hS : P.underlying S = some (.int j)) (hD : P.underlying D = some (.int kd)) (hx : evO e x = some (.int j a))
    (hk : GL P f w0 K n d ops rest k ((t, .int kd (kd.wrap a)) :: e) F) : GL P f w0 K n d ops (.mk (some t) (.convert S D x) ty pos aft none :: rest) k e F :=
  l_val ht (fun A w ha hw => by simp [execOp, ha _ _ hx, convert, underlying, hS, hD, Conv.intToInt, go_sem]) hk
theorem l_addm {t x y a b T T2} {kd : IntKind} {m : Int} (ht : Nat.ble (t + 1) n = true) (hm : ∀ x, kd.wrap x = x % m) (hx : evO e x = some (.int kd a)) (hy : evO e y = some (.int kd b))
    (hk : GL P f w0 K n d ops rest k ((t, .int kd ((a + b) % m)) :: e) F) : GL P f w0 K n d ops (.mk (some t) (.binOp .add T x y T2) ty pos aft none :: rest) k e F :=
  l_val ht (fun A w ha hw => by simp [execOp, ha _ _ hx, ha _ _ hy, eqGuard, binOp, Op.intArith, hm, go_sem]) hk
theorem l_subm {t x y a b T T2} {kd : IntKind} {m : Int} (ht : Nat.ble (t + 1) n = true) (hm : ∀ x, kd.wrap x = x % m) (hx : evO e x = some (.int kd a)) (hy : evO e y = some (.int kd b))
    (hk : GL P f w0 K n d ops rest k ((t, .int kd ((a - b) % m)) :: e) F) : GL P f w0 K n d ops (.mk (some t) (.binOp .sub T x y T2) ty pos aft none :: rest) k e F :=
  l_val ht (fun A w ha hw => by simp [execOp, ha _ _ hx, ha _ _ hy, eqGuard, binOp, Op.intArith, hm, go_sem]) hk
theorem l_mulm {t x y a b T T2} {kd : IntKind} {m : Int} (ht : Nat.ble (t + 1) n = true) (hm : ∀ x, kd.wrap x = x % m) (hx : evO e x = some (.int kd a)) (hy : evO e y = some (.int kd b))
    (hk : GL P f w0 K n d ops rest k ((t, .int kd ((a * b) % m)) :: e) F) : GL P f w0 K n d ops (.mk (some t) (.binOp .mul T x y T2) ty pos aft none :: rest) k e F :=
  l_val ht (fun A w ha hw => by simp [execOp, ha _ _ hx, ha _ _ hy, eqGuard, binOp, Op.intArith, hm, go_sem]) hk
theorem l_convm {t x a S D} {j kd : IntKind} {m : Int} (ht : Nat.ble (t + 1) n = true) (hm : ∀ x, kd.wrap x = x % m) (hS : P.underlying S = some (.int j)) (hD : P.underlying D = some (.int kd)) (hx : evO e x = some (.int j a))
    (hk : GL P f w0 K n d ops rest k ((t, .int kd (a % m)) :: e) F) : GL P f w0 K n d ops (.mk (some t) (.convert S D x) ty pos aft none :: rest) k e F :=
  l_val ht (fun A w ha hw => by simp [execOp, ha _ _ hx, convert, underlying, hS, hD, Conv.intToInt, hm, go_sem]) hk
/- Any two values, by a law of the kit's. -/
theorem l_bin {t x y a b v T T2} {bo : BinOp} (ht : Nat.ble (t + 1) n = true) (hx : evO e x = some a) (hy : evO e y = some b)
    (hg : ∀ w, (eqGuard bo T x y a b).run P w = .ok () w) (hr : ∀ w, (binOp bo T a b).run P w = .ok v w)
    (hk : GL P f w0 K n d ops rest k ((t, v) :: e) F) : GL P f w0 K n d ops (.mk (some t) (.binOp bo T x y T2) ty pos aft none :: rest) k e F :=
  l_val ht (fun A w ha hw => by
    have h1 := hg w
    have h2 := hr w
    simp only [execOp, ha _ _ hx, ha _ _ hy]
    simp [h1, h2, go_sem]) hk
theorem l_eqlb {t x y a b T T2} (ht : Nat.ble (t + 1) n = true) (hT : P.underlying T = some .bool) (hx : evO e x = some (.bool a)) (hy : evO e y = some (.bool b))
    (hk : GL P f w0 K n d ops rest k ((t, .bool (a == b)) :: e) F) : GL P f w0 K n d ops (.mk (some t) (.binOp .eql T x y T2) ty pos aft none :: rest) k e F :=
  l_bin ht hx hy (fun w => by simp [eqGuard, go_sem]) (fun w => Go.run_eql_bool _ _ _ _ hT) hk
theorem l_neqb {t x y a b T T2} (ht : Nat.ble (t + 1) n = true) (hT : P.underlying T = some .bool) (hx : evO e x = some (.bool a)) (hy : evO e y = some (.bool b))
    (hk : GL P f w0 K n d ops rest k ((t, .bool (!(a == b))) :: e) F) : GL P f w0 K n d ops (.mk (some t) (.binOp .neq T x y T2) ty pos aft none :: rest) k e F :=
  l_bin ht hx hy (fun w => by simp [eqGuard, go_sem]) (fun w => Go.run_neq_bool _ _ _ _ hT) hk
theorem pointee_of {T E} (hT : P.underlying T = some (.pointer E)) : P.underlying T = some (.pointer (P.pointee T)) := by simp [Program.pointee, hT]
theorem l_eqpn {t x y a T E T2} (ht : Nat.ble (t + 1) n = true) (hT : P.underlying T = some (.pointer E)) (hx : evO e x = some (.pointer a)) (hy : evO e y = some (.pointer none))
    (hk : GL P f w0 K n d ops rest k ((t, .bool a.isNone) :: e) F) : GL P f w0 K n d ops (.mk (some t) (.binOp .eql T x y T2) ty pos aft none :: rest) k e F :=
  l_bin ht hx hy (fun w => by simp [eqGuard, go_sem]) (fun w => Go.run_eql_pointer_nil _ _ _ (pointee_of hT)) hk
theorem l_nepn {t x y a T E T2} (ht : Nat.ble (t + 1) n = true) (hT : P.underlying T = some (.pointer E)) (hx : evO e x = some (.pointer a)) (hy : evO e y = some (.pointer none))
    (hk : GL P f w0 K n d ops rest k ((t, .bool !a.isNone) :: e) F) : GL P f w0 K n d ops (.mk (some t) (.binOp .neq T x y T2) ty pos aft none :: rest) k e F :=
  l_bin ht hx hy (fun w => by simp [eqGuard, go_sem]) (fun w => Go.run_neq_pointer_nil _ _ _ (pointee_of hT)) hk
theorem l_extract {t x vs i v} (ht : Nat.ble (t + 1) n = true) (hx : evO e x = some (.tuple vs)) (hv : vs[i]? = some v)
    (hk : GL P f w0 K n d ops rest k ((t, v) :: e) F) : GL P f w0 K n d ops (.mk (some t) (.extract x i) ty pos aft none :: rest) k e F :=
  l_val ht (fun A w ha hw => by simp [execOp, ha _ _ hx, Instr.extract, hv, go_sem]) hk
end ops
end Go.Proofs.Ytecibldbnekgbaa.Fw
