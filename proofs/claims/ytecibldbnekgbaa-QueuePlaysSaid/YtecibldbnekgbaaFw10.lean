import Derived.Test.YtecibldbnekgbaaFw9
namespace Go.Proofs.Ytecibldbnekgbaa.Fw
open Go
set_option linter.unusedVariables false
set_option linter.unusedSimpArgs false
section ops
variable {P : Program} {w0 : World} {e : Env} {F : List Atom} {ty : TypeId} {pos : String} {aft : Array Edge}
theorem q_move {t x v} (hx : evO e x = some v) : QV P w0 (.mk (some t) (.move x) ty pos aft none) e F (v) :=
  (fun a w ha hw => by simp [execOp, ha _ _ hx, go_sem])

theorem q_assign {t x v} (hx : evO e x = some v) : QV P w0 (.mk (some t) (.assign x) ty pos aft none) e F (v) :=
  (fun a w ha hw => by simp [execOp, ha _ _ hx, go_sem])

theorem q_pick_t {t c x y v} (hc : evO e c = some (.bool true)) (hx : evO e x = some v) : QV P w0 (.mk (some t) (.pick c x y) ty pos aft none) e F (v) :=
  (fun a w ha hw => by simp [execOp, ha _ _ hx, ha _ _ hc, asBool, go_sem])

theorem q_pick_f {t c x y v} (hc : evO e c = some (.bool false)) (hy : evO e y = some v) : QV P w0 (.mk (some t) (.pick c x y) ty pos aft none) e F (v) :=
  (fun a w ha hw => by simp [execOp, ha _ _ hy, ha _ _ hc, asBool, go_sem])

theorem q_nilCheck {t x p} (hx : evO e x = some (.pointer (some p))) : QV P w0 (.mk (some t) (.nilCheck x) ty pos aft none) e F (.pointer (some p)) :=
  (fun a w ha hw => by simp [execOp, ha _ _ hx, go_sem])

theorem q_not {t x b T} (hx : evO e x = some (.bool b)) : QV P w0 (.mk (some t) (.unOp .not T x) ty pos aft none) e F (.bool (!b)) :=
  (fun a w ha hw => by simp [execOp, ha _ _ hx, Op.unary, go_sem])

theorem q_add {t x y a b T T2} {kd : IntKind} (hx : evO e x = some (.int kd a)) (hy : evO e y = some (.int kd b)) (hw' : kd.wrap (a + b) = a + b) : QV P w0 (.mk (some t) (.binOp .add T x y T2) ty pos aft none) e F (.int kd (a + b)) :=
  (fun A w ha hw => by simp [execOp, ha _ _ hx, ha _ _ hy, eqGuard, binOp, Op.intArith, hw', go_sem])

theorem q_addw {t x y a b T T2} {kd : IntKind} (hx : evO e x = some (.int kd a)) (hy : evO e y = some (.int kd b)) : QV P w0 (.mk (some t) (.binOp .add T x y T2) ty pos aft none) e F (.int kd (kd.wrap (a + b))) :=
  (fun A w ha hw => by simp [execOp, ha _ _ hx, ha _ _ hy, eqGuard, binOp, Op.intArith, go_sem])

theorem q_sub_ {t x y a b T T2} {kd : IntKind} (hx : evO e x = some (.int kd a)) (hy : evO e y = some (.int kd b)) (hw' : kd.wrap (a - b) = a - b) : QV P w0 (.mk (some t) (.binOp .sub T x y T2) ty pos aft none) e F (.int kd (a - b)) :=
  (fun A w ha hw => by simp [execOp, ha _ _ hx, ha _ _ hy, eqGuard, binOp, Op.intArith, hw', go_sem])

theorem q_subw {t x y a b T T2} {kd : IntKind} (hx : evO e x = some (.int kd a)) (hy : evO e y = some (.int kd b)) : QV P w0 (.mk (some t) (.binOp .sub T x y T2) ty pos aft none) e F (.int kd (kd.wrap (a - b))) :=
  (fun A w ha hw => by simp [execOp, ha _ _ hx, ha _ _ hy, eqGuard, binOp, Op.intArith, go_sem])

theorem q_mul {t x y a b T T2} {kd : IntKind} (hx : evO e x = some (.int kd a)) (hy : evO e y = some (.int kd b)) (hw' : kd.wrap (a * b) = a * b) : QV P w0 (.mk (some t) (.binOp .mul T x y T2) ty pos aft none) e F (.int kd (a * b)) :=
  (fun A w ha hw => by simp [execOp, ha _ _ hx, ha _ _ hy, eqGuard, binOp, Op.intArith, hw', go_sem])

theorem q_mulw {t x y a b T T2} {kd : IntKind} (hx : evO e x = some (.int kd a)) (hy : evO e y = some (.int kd b)) : QV P w0 (.mk (some t) (.binOp .mul T x y T2) ty pos aft none) e F (.int kd (kd.wrap (a * b))) :=
  (fun A w ha hw => by simp [execOp, ha _ _ hx, ha _ _ hy, eqGuard, binOp, Op.intArith, go_sem])

theorem q_rem {t x y a b T T2} {kd : IntKind} (hx : evO e x = some (.int kd a)) (hy : evO e y = some (.int kd b)) (h0 : 0 ≤ a) (h1 : 0 < b) (hw' : kd.wrap (a % b) = a % b) : QV P w0 (.mk (some t) (.binOp .rem T x y T2) ty pos aft none) e F (.int kd (a % b)) :=
  (fun A w ha hw => by
    have hb : b ≠ 0 := by omega
    have := wrap_tmod h0 h1 hw'
    simp only [execOp, ha _ _ hx, ha _ _ hy, eqGuard, binOp, Op.intDiv]
    simp [hb, this, Int.tmod_eq_emod_of_nonneg h0, go_sem])

theorem q_quo {t x y a b T T2} {kd : IntKind} (hx : evO e x = some (.int kd a)) (hy : evO e y = some (.int kd b)) (h0 : 0 ≤ a) (h1 : 0 < b) (hw' : kd.wrap (a / b) = a / b) : QV P w0 (.mk (some t) (.binOp .quo T x y T2) ty pos aft none) e F (.int kd (a / b)) :=
  (fun A w ha hw => by
    have hb : b ≠ 0 := by omega
    have := wrap_tdiv h0 h1 hw'
    simp only [execOp, ha _ _ hx, ha _ _ hy, eqGuard, binOp, Op.intDiv]
    simp [hb, this, go_sem])

theorem q_eql {t x y a b T T2} {kd : IntKind} (hx : evO e x = some (.int kd a)) (hy : evO e y = some (.int kd b)) : QV P w0 (.mk (some t) (.binOp .eql T x y T2) ty pos aft none) e F (.bool (decide (a = b))) :=
  (fun A w ha hw => by simp [execOp, ha _ _ hx, ha _ _ hy, eqGuard, binOp, Op.intCmp, go_sem]; rfl)

theorem q_neq {t x y a b T T2} {kd : IntKind} (hx : evO e x = some (.int kd a)) (hy : evO e y = some (.int kd b)) : QV P w0 (.mk (some t) (.binOp .neq T x y T2) ty pos aft none) e F (.bool (decide (a ≠ b))) :=
  (fun A w ha hw => by
    have : (a != b) = decide (a ≠ b) := by by_cases h : a = b <;> simp [h]
    simp [execOp, ha _ _ hx, ha _ _ hy, eqGuard, binOp, Op.intCmp, this, go_sem])

theorem q_lss {t x y a b T T2} {kd : IntKind} (hx : evO e x = some (.int kd a)) (hy : evO e y = some (.int kd b)) : QV P w0 (.mk (some t) (.binOp .lss T x y T2) ty pos aft none) e F (.bool (decide (a < b))) :=
  (fun A w ha hw => by simp [execOp, ha _ _ hx, ha _ _ hy, eqGuard, binOp, Op.intCmp, go_sem])

theorem q_leq {t x y a b T T2} {kd : IntKind} (hx : evO e x = some (.int kd a)) (hy : evO e y = some (.int kd b)) : QV P w0 (.mk (some t) (.binOp .leq T x y T2) ty pos aft none) e F (.bool (decide (a ≤ b))) :=
  (fun A w ha hw => by simp [execOp, ha _ _ hx, ha _ _ hy, eqGuard, binOp, Op.intCmp, go_sem])

theorem q_gtr {t x y a b T T2} {kd : IntKind} (hx : evO e x = some (.int kd a)) (hy : evO e y = some (.int kd b)) : QV P w0 (.mk (some t) (.binOp .gtr T x y T2) ty pos aft none) e F (.bool (decide (b < a))) :=
  (fun A w ha hw => by simp [execOp, ha _ _ hx, ha _ _ hy, eqGuard, binOp, Op.intCmp, go_sem])

theorem q_geq {t x y a b T T2} {kd : IntKind} (hx : evO e x = some (.int kd a)) (hy : evO e y = some (.int kd b)) : QV P w0 (.mk (some t) (.binOp .geq T x y T2) ty pos aft none) e F (.bool (decide (b ≤ a))) :=
  (fun A w ha hw => by simp [execOp, ha _ _ hx, ha _ _ hy, eqGuard, binOp, Op.intCmp, go_sem])

theorem q_conv {t x a S D} {j kd : IntKind} (hS : P.underlying S = some (.int j)) (hD : P.underlying D = some (.int kd)) (hx : evO e x = some (.int j a)) (hw' : kd.wrap a = a) : QV P w0 (.mk (some t) (.convert S D x) ty pos aft none) e F (.int kd a) :=
  (fun A w ha hw => by simp [execOp, ha _ _ hx, convert, underlying, hS, hD, Conv.intToInt, hw', go_sem])

theorem q_convw {t x a S D} {j kd : IntKind} (hS : P.underlying S = some (.int j)) (hD : P.underlying D = some (.int kd)) (hx : evO e x = some (.int j a)) : QV P w0 (.mk (some t) (.convert S D x) ty pos aft none) e F (.int kd (kd.wrap a)) :=
  (fun A w ha hw => by simp [execOp, ha _ _ hx, convert, underlying, hS, hD, Conv.intToInt, go_sem])

theorem q_addm {t x y a b T T2} {kd : IntKind} {m : Int} (hm : ∀ x, kd.wrap x = x % m) (hx : evO e x = some (.int kd a)) (hy : evO e y = some (.int kd b)) : QV P w0 (.mk (some t) (.binOp .add T x y T2) ty pos aft none) e F (.int kd ((a + b) % m)) :=
  (fun A w ha hw => by simp [execOp, ha _ _ hx, ha _ _ hy, eqGuard, binOp, Op.intArith, hm, go_sem])

theorem q_subm {t x y a b T T2} {kd : IntKind} {m : Int} (hm : ∀ x, kd.wrap x = x % m) (hx : evO e x = some (.int kd a)) (hy : evO e y = some (.int kd b)) : QV P w0 (.mk (some t) (.binOp .sub T x y T2) ty pos aft none) e F (.int kd ((a - b) % m)) :=
  (fun A w ha hw => by simp [execOp, ha _ _ hx, ha _ _ hy, eqGuard, binOp, Op.intArith, hm, go_sem])

theorem q_mulm {t x y a b T T2} {kd : IntKind} {m : Int} (hm : ∀ x, kd.wrap x = x % m) (hx : evO e x = some (.int kd a)) (hy : evO e y = some (.int kd b)) : QV P w0 (.mk (some t) (.binOp .mul T x y T2) ty pos aft none) e F (.int kd ((a * b) % m)) :=
  (fun A w ha hw => by simp [execOp, ha _ _ hx, ha _ _ hy, eqGuard, binOp, Op.intArith, hm, go_sem])

theorem q_convm {t x a S D} {j kd : IntKind} {m : Int} (hm : ∀ x, kd.wrap x = x % m) (hS : P.underlying S = some (.int j)) (hD : P.underlying D = some (.int kd)) (hx : evO e x = some (.int j a)) : QV P w0 (.mk (some t) (.convert S D x) ty pos aft none) e F (.int kd (a % m)) :=
  (fun A w ha hw => by simp [execOp, ha _ _ hx, convert, underlying, hS, hD, Conv.intToInt, hm, go_sem])

theorem q_bin {t x y a b v T T2} {bo : BinOp} (hx : evO e x = some a) (hy : evO e y = some b)
    (hg : ∀ w, (eqGuard bo T x y a b).run P w = .ok () w) (hr : ∀ w, (binOp bo T a b).run P w = .ok v w) : QV P w0 (.mk (some t) (.binOp bo T x y T2) ty pos aft none) e F (v) :=
  (fun A w ha hw => by
    have h1 := hg w
    have h2 := hr w
    simp only [execOp, ha _ _ hx, ha _ _ hy]
    simp [h1, h2, go_sem])

theorem q_eqlb {t x y a b T T2} (hT : P.underlying T = some .bool) (hx : evO e x = some (.bool a)) (hy : evO e y = some (.bool b)) : QV P w0 (.mk (some t) (.binOp .eql T x y T2) ty pos aft none) e F (.bool (a == b)) :=
  q_bin hx hy (fun w => by simp [eqGuard, go_sem]) (fun w => Go.run_eql_bool _ _ _ _ hT)

theorem q_neqb {t x y a b T T2} (hT : P.underlying T = some .bool) (hx : evO e x = some (.bool a)) (hy : evO e y = some (.bool b)) : QV P w0 (.mk (some t) (.binOp .neq T x y T2) ty pos aft none) e F (.bool (!(a == b))) :=
  q_bin hx hy (fun w => by simp [eqGuard, go_sem]) (fun w => Go.run_neq_bool _ _ _ _ hT)

theorem q_eqpn {t x y a T E T2} (hT : P.underlying T = some (.pointer E)) (hx : evO e x = some (.pointer a)) (hy : evO e y = some (.pointer none)) : QV P w0 (.mk (some t) (.binOp .eql T x y T2) ty pos aft none) e F (.bool a.isNone) :=
  q_bin hx hy (fun w => by simp [eqGuard, go_sem]) (fun w => Go.run_eql_pointer_nil _ _ _ (pointee_of hT))

theorem q_nepn {t x y a T E T2} (hT : P.underlying T = some (.pointer E)) (hx : evO e x = some (.pointer a)) (hy : evO e y = some (.pointer none)) : QV P w0 (.mk (some t) (.binOp .neq T x y T2) ty pos aft none) e F (.bool !a.isNone) :=
  q_bin hx hy (fun w => by simp [eqGuard, go_sem]) (fun w => Go.run_neq_pointer_nil _ _ _ (pointee_of hT))

theorem q_extract {t x vs i v} (hx : evO e x = some (.tuple vs)) (hv : vs[i]? = some v) : QV P w0 (.mk (some t) (.extract x i) ty pos aft none) e F (v) :=
  (fun A w ha hw => by simp [execOp, ha _ _ hx, Instr.extract, hv, go_sem])

theorem q_load {t x b o T v E fr} {c : List Value} (hA : ∀ w, (isAgg T).run P w = .ok false w) (hx : evO e x = some (.pointer (some ⟨b, o, none⟩)))
    (hb : Has w0 F b (.cells c.toArray E fr)) (hv : c[o]? = some v) : QV P w0 (.mk (some t) (.load T x) ty pos aft none) e F (v) :=
  (fun ρ w ha hw => by
    have hc := cell_of_has (hb w hw) hv
    simp [execOp, ha _ _ hx, Instr.loadAt, Instr.sureAddr, loadVar, hA, load, Sem.run, hc, go_sem])

theorem q_loads {t x b o T sz E fr} {c l : List Value} (hA : ∀ w, (isAgg T).run P w = .ok true w) (hS : ∀ w, (sizeOf T).run P w = .ok sz w) (hx : evO e x = some (.pointer (some ⟨b, o, none⟩)))
    (hb : Has w0 F b (.cells c.toArray E fr)) (hv : takeO c o sz = some l) : QV P w0 (.mk (some t) (.load T x) ty pos aft none) e F (.agg l.toArray) :=
  (fun ρ w ha hw => by
    have hc := run_loadCells (P := P) (hb w hw) sz 0 o #[] l hv
    simp [execOp, ha _ _ hx, Instr.loadAt, Instr.sureAddr, loadVar, hA, hS, loadCells, hc, go_sem])

theorem q_loadc {t x b o T v} (hA : ∀ w, (isAgg T).run P w = .ok false w) (hx : evO e x = some (.pointer (some ⟨b, o, none⟩)))
    (hv : CellAt w0 F b o v) : QV P w0 (.mk (some t) (.load T x) ty pos aft none) e F (v) :=
  (fun ρ w ha hw => by
    have hc := hv w hw
    simp [execOp, ha _ _ hx, Instr.loadAt, Instr.sureAddr, loadVar, hA, load, Sem.run, hc, go_sem])

theorem q_loadr {t x b o T sz} {l : List Value} (hA : ∀ w, (isAgg T).run P w = .ok true w) (hS : ∀ w, (sizeOf T).run P w = .ok sz w) (hx : evO e x = some (.pointer (some ⟨b, o, none⟩)))
    (hl : l.length = sz) (hv : RowAt w0 F b o l) : QV P w0 (.mk (some t) (.load T x) ty pos aft none) e F (.agg l.toArray) :=
  (fun ρ w ha hw => by
    have hc := run_loadCells_row (P := P) (hv w hw)
    subst hl
    simp only [execOp, ha _ _ hx]
    refine run_value ?_
    simp only [Instr.loadAt, Instr.sureAddr, loadVar]
    simp only [loadCells] at hc
    simp [hA, hS, hc, go_sem])

theorem q_fieldAddr {t x b o S i off} (hf : ∀ a w, (Instr.fieldAt S (.pointer (some a)) i).run P w = .ok (.pointer (some (a.add off))) w) (hx : evO e x = some (.pointer (some ⟨b, o, none⟩))) : QV P w0 (.mk (some t) (.fieldAddr S x i) ty pos aft none) e F (.pointer (some ⟨b, o + off, none⟩)) :=
  (fun ρ w ha hw => by
    simp only [execOp, ha _ _ hx]
    exact run_value ((hf _ _).trans (by rw [add_none])))

theorem q_field1 {t x S i v} {off : Nat} {l : List Value} (hf : ∀ (cs : Array Value) v w, cs[off]? = some v → (Instr.field S (.agg cs) i).run P w = .ok v w) (hx : evO e x = some (.agg l.toArray)) (hv : l[off]? = some v) : QV P w0 (.mk (some t) (.field S x i) ty pos aft none) e F (v) :=
  (fun ρ w ha hw => by
    have := hf l.toArray v w (by simpa using hv)
    simp only [execOp, ha _ _ hx]
    exact run_value this)

theorem q_fields {t x S i} {off sz : Nat} {l l' : List Value} (hf : ∀ (cs : Array Value) w, (Instr.field S (.agg cs) i).run P w = .ok (.agg (cs.extract off (off + sz))) w) (hx : evO e x = some (.agg l.toArray)) (hv : takeO l off sz = some l') : QV P w0 (.mk (some t) (.field S x i) ty pos aft none) e F (.agg l'.toArray) :=
  (fun ρ w ha hw => by
    have := hf l.toArray w
    obtain ⟨h1, _⟩ := takeO_eq hv
    have h2 : l.toArray.extract off (off + sz) = l'.toArray := by rw [h1]; simp [List.extract_eq_take_drop]
    rw [h2] at this
    simp only [execOp, ha _ _ hx]
    exact run_value this)

theorem q_ixs {t x y b o m cap T E sz} {kd : IntKind} {i : Int} (hT : P.underlying T = some (.slice E)) (hS : ∀ w, (sizeOf E).run P w = .ok sz w) (hx : evO e x = some (.slice (some ⟨b, o, none⟩) m cap)) (hy : evO e y = some (.int kd i))
    (h0 : 0 ≤ i) (h1 : i < m) : QV P w0 (.mk (some t) (.indexAddr T x y) ty pos aft none) e F (.pointer (some ⟨b, o + i.toNat * sz, none⟩)) :=
  (fun ρ w ha hw => by
    have hu : ∀ w, (underlying T).run P w = .ok (.slice E) w := fun w => by simp [underlying, hT, go_sem]
    simp only [execOp, ha _ _ hx, ha _ _ hy, Instr.indexAt, asIntOf]
    simp [hu, hS, h0, h1, add_none, go_sem])

theorem q_len {t x a m cap T E} (hT : P.underlying T = some (.slice E)) (hx : evO e x = some (.slice a m cap)) : QV P w0 (.mk (some t) (.call ⟨.builtin .len, #[x], #[T]⟩) ty pos aft none) e F (.int .i64 (m : Int)) :=
  (fun ρ w ha hw => by
    have hu : ∀ w, (underlying T).run P w = .ok (.slice E) w := fun w => by simp [underlying, hT, go_sem]
    simp only [execOp, resolve, List.map_toArray, List.map_cons, List.map_nil, ha _ _ hx]
    simp [invoke, builtin, Builtin.len_, hu, goInt, go_sem])

theorem q_lens {t x s T} (hT : P.underlying T = some .string) (hx : evO e x = some (.string s)) : QV P w0 (.mk (some t) (.call ⟨.builtin .len, #[x], #[T]⟩) ty pos aft none) e F (.int .i64 (s.size : Int)) :=
  (fun ρ w ha hw => by
    have hu : ∀ w, (underlying T).run P w = .ok .string w := fun w => by simp [underlying, hT, go_sem]
    simp only [execOp, resolve, List.map_toArray, List.map_cons, List.map_nil, ha _ _ hx]
    simp [invoke, builtin, Builtin.len_, hu, goInt, go_sem])

theorem q_build {t T v} {parts : List (Nat × Operand)} {ps : List (Nat × Value)} (hp : evP e parts = some ps) (hr : ∀ w, (Instr.build T ps.toArray).run P w = .ok v w) : QV P w0 (.mk (some t) (.build T parts.toArray) ty pos aft none) e F (v) :=
  (fun ρ w ha hw => by
    simp only [execOp, kn_parts ha hp]
    exact run_value (hr w))

theorem q_eqsn {t x y a m cap T E T2} (hT : P.underlying T = some (.slice E)) (hx : evO e x = some (.slice a m cap)) (hy : evO e y = some (.slice none 0 0)) : QV P w0 (.mk (some t) (.binOp .eql T x y T2) ty pos aft none) e F (.bool a.isNone) :=
  q_bin hx hy (fun w => by simp [eqGuard, go_sem]) (fun w => Lib.run_eql_slice_nil w T E a m cap 0 0 hT)

theorem does_call {dst g} {args : Array Operand} {tys : Array TypeId} {vs : List Value} {R : Value → List Atom → Prop} (hcall : ∀ args w, (callFunc g args).run P w = .ok (.enter g args) w) (hx : evL e args.toList = some vs)
    (hc : CallK P g vs w0 F (Gives w0 R)) : Does P w0 (.mk dst (.call ⟨.value (.func g), args, tys⟩) ty pos aft none) e F R := by
  intro ρ w ha hw
  refine .inr ⟨g, vs.toArray, ?_, ?_⟩
  · have h1 : args.map ρ = vs.toArray := by
      have := kn_args ha hx
      simpa using this
    exact run_call ρ h1 (ha (.func g) _ rfl) hcall w
  · refine (hc w hw).mono ?_
    rintro en w' ⟨F', ⟨v, F2, h1, h2, h3⟩, h4⟩
    exact ⟨v, F2, h1, h2, h3 w' h4⟩

theorem does_store {x y b o T v E F'} {c c' : List Value} (i : Nat) (hS : ∀ w, (sizeOf T).run P w = .ok 1 w) (hx : evO e x = some (.pointer (some ⟨b, o, none⟩))) (hy : evO e y = some v) (hs : scalar v = true)
    (hi : getO F i = some (Blk b (.cells c.toArray E (0, 0)))) (hc : setO c o v = some c') (hF : setO F i (Blk b (.cells c'.toArray E (0, 0))) = some F') : Does P w0 (.mk none (.store T x y) ty pos aft none) e F (fun v2 F2 => v2 = undef ∧ F2 = F') := by
  intro ρ w ha hw
  have hb : w.heap[b]? = some (.cells c.toArray E (0, 0)) := hw.ok _ (List.mem_of_getElem? (getO_eq hi))
  have hcells : v.cells = #[v] := by cases v <;> simp_all [Value.cells, scalar]
  obtain ⟨w', hr, h1, h2, h3, h4, h5, h6⟩ := run_storeCells (P := P) [v] 0 o c c' w hb (by simp [hs]) (by simp [setsO, hc])
  refine .inl ⟨undef, w', F', .inr ⟨?_, rfl⟩, hw.setBlk hi hF h2 h3 h4 h5 h6 h1, rfl, rfl⟩
  simp only [execOp, ha _ _ hx, ha _ _ hy, Instr.storeAt, Instr.sureAddr, storeVar, hcells]
  simp only [List.size_toArray, List.length_cons, List.length_nil]
  simp [storeCells, go_sem] at hr
  simp [hS, hr, go_sem]
theorem does_stores {x y b o T sz E F'} {c c' l : List Value} (i : Nat) (hS : ∀ w, (sizeOf T).run P w = .ok sz w) (hx : evO e x = some (.pointer (some ⟨b, o, none⟩))) (hy : evO e y = some (.agg l.toArray)) (hl : l.length = sz) (hs : l.all scalar = true)
    (hi : getO F i = some (Blk b (.cells c.toArray E (0, 0)))) (hc : setsO c o l = some c') (hF : setO F i (Blk b (.cells c'.toArray E (0, 0))) = some F') : Does P w0 (.mk none (.store T x y) ty pos aft none) e F (fun v2 F2 => v2 = undef ∧ F2 = F') := by
  intro ρ w ha hw
  have hb : w.heap[b]? = some (.cells c.toArray E (0, 0)) := hw.ok _ (List.mem_of_getElem? (getO_eq hi))
  obtain ⟨w', hr, h1, h2, h3, h4, h5, h6⟩ := run_storeCells (P := P) l 0 o c c' w hb hs hc
  refine .inl ⟨undef, w', F', .inr ⟨?_, rfl⟩, hw.setBlk hi hF h2 h3 h4 h5 h6 h1, rfl, rfl⟩
  subst hl
  simp only [execOp, ha _ _ hx, ha _ _ hy, Instr.storeAt, Instr.sureAddr, storeVar]
  simp [hS, hr, Value.cells, go_sem]
end ops
end Go.Proofs.Ytecibldbnekgbaa.Fw
