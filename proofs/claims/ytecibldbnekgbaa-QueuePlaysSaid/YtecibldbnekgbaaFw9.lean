import Derived.Test.YtecibldbnekgbaaFw8
namespace Go.Proofs.Ytecibldbnekgbaa.Fw
open Go
set_option linter.unusedVariables false
set_option linter.unusedSimpArgs false

/- A region that draws its order: every order that its edges allow. -/
def edgesOn (o : Oper) : List Nat := (o.after.toList.filter (Region.binds .any)).map (·.on)
def opAt (ops : Array Oper) (i : Nat) : Option Oper := ops.toList[i]?
def gslot (ops : Array Oper) (o : Oper) : List Tmp := match o.guard with
  | none => []
  | some (j, _) => match gdst ops j with
    | some t => [t]
    | none => []
/-- The slots that an operation looks at, its guard's too. -/
def readsT (ops : Array Oper) (o : Oper) : List Tmp := gslot ops o ++ o.op.operands.toList.filterMap fun | .tmp t => some t | _ => none
def regOk (ops : Array Oper) : Bool :=
  (List.range ops.size).all fun i => match opAt ops i with
    | none => false
    | some o => match o.op with | .select .. => false | _ => true
/-- Whatever an operation looks at and one of the pool writes stands behind that one. -/
def pairOk (ops : Array Oper) (A : List Nat) (i : Nat) : Bool := match opAt ops i with
  | none => false
  | some o => A.all fun j => Nat.beq i j || match (opAt ops j).bind (·.dst) with
    | none => true
    | some t => !(readsT ops o).contains t || (edgesOn o).contains j
/-- Distinct slots are written. -/
def dstOk1 (ops : Array Oper) : Bool :=
  (List.range ops.size).all fun i => (List.range ops.size).all fun j => Nat.beq i j || match (opAt ops i).bind (·.dst), (opAt ops j).bind (·.dst) with
    | some t, some u => !Nat.beq t u
    | _, _ => true

section
variable {P : Program} {f : FuncId} {w0 : World} {K : Post} {n : Nat} {d : List Deferred} {ops : Array Oper} {k : List Item} {e : Env} {F : List Atom}

/-- What the frame knows while some of the pool's operations may be still to come. -/
structure KX (ops : Array Oper) (n : Nat) (d : List Deferred) (e : Env) (A X : List Nat) (a : Act) : Prop where
  size : a.tmps.size = n
  dfr : a.defers = d
  val : ∀ t v, lk e t = some v → (∀ i ∈ A, i ∉ X → (opAt ops i).bind (·.dst) ≠ some t) → a.tmps[t]? = some v

def GAny (P : Program) (f : FuncId) (w0 : World) (K : Post) (n : Nat) (d : List Deferred) (ops : Array Oper) (k : List Item) (D A : List Nat) (e : Env) (F : List Atom) : Prop :=
  ∀ X, X ⊆ A → ∀ (fuel : Nat) (listed : Array Bool) (a : Act) (w : World), listed.size = ops.size → (∀ i, i < ops.size → (listed.getD i true = true ↔ i ∈ D ∨ i ∈ X)) →
    fuel + (listed.toList.filter id).length = ops.size → KX ops n d e A X a → Holds w0 F w → wpAny P .any ops (Next P f (RK w0 K) k) fuel listed a w

/-- What an operation does: a value, or a call. -/
def Does (P : Program) (w0 : World) (o : Oper) (e : Env) (F : List Atom) (Out : Value → List Atom → Prop) : Prop :=
  ∀ ρ w, Kn e ρ → Holds w0 F w → (∃ v w' F', ((execOp ρ o).run P w = .ok (.value v) w' ∨ ((execOp ρ o).run P w = .ok .skip w' ∧ v = undef)) ∧ Holds w0 F' w' ∧ Out v F') ∨
    ∃ g args, (execOp ρ o).run P w = .ok (.enter g args) w ∧ Calls P g args w (fun en w' => ∃ v F', en = .returned v ∧ Out v F' ∧ Holds w0 F' w')
def QV (P : Program) (w0 : World) (o : Oper) (e : Env) (F : List Atom) (v : Value) : Prop := ∀ ρ w, Kn e ρ → Holds w0 F w → (execOp ρ o).run P w = .ok (.value v) w

theorem pairOk_spec {ops : Array Oper} {A : List Nat} {i j : Nat} (h : pairOk ops A i = true) {o : Oper} {t : Tmp} (hi : opAt ops i = some o) (hj : j ∈ A) (hne : i ≠ j) (hd : (opAt ops j).bind (·.dst) = some t) (hr : t ∈ readsT ops o) : j ∈ edgesOn o := by
  simp only [pairOk, hi, List.all_eq_true] at h
  have h2 := h j hj
  rw [hd] at h2
  have hb : Nat.beq i j = false := by
    cases hb : Nat.beq i j
    · rfl
    · exact absurd (Nat.eq_of_beq_eq_true hb) hne
  simp only [hb, Bool.false_or, Bool.or_eq_true, Bool.not_eq_true', List.contains_eq_mem, decide_eq_false_iff_not, decide_eq_true_eq] at h2
  rcases h2 with h2 | h2
  · exact absurd hr h2
  · exact h2
theorem regOk_op {ops : Array Oper} (h : regOk ops = true) {i : Nat} {o : Oper} (hi : opAt ops i = some o) : ∀ cs b, o.op ≠ .select cs b := by
  have hi' : i < ops.size := by
    unfold opAt at hi
    have := List.getElem?_eq_some_iff.1 hi
    simpa using this.1
  simp only [regOk, List.all_eq_true, List.mem_range] at h
  have h1 := h i hi'
  rw [hi] at h1
  intro cs b hc
  simp only [hc] at h1
  cases h1
theorem ready_spec {ops : Array Oper} {listed : Array Bool} {i : Nat} (h : i ∈ Region.ready .any ops listed) : ∃ o, opAt ops i = some o ∧ i < ops.size ∧ listed.getD i true = false ∧ ∀ j ∈ edgesOn o, listed.getD j false = true := by
  unfold Region.ready at h
  simp only [List.mem_filter, List.mem_range, Bool.and_eq_true, Bool.not_eq_true'] at h
  obtain ⟨h1, h2, h3⟩ := h
  cases ho : ops[i]? with
  | none => simp [ho] at h3
  | some o =>
    refine ⟨o, by simpa [opAt] using ho, h1, h2, fun j hj => ?_⟩
    simp only [ho, Option.map_some, Option.getD_some, Array.all_eq_true_iff_forall_mem] at h3
    simp only [edgesOn, List.mem_map, List.mem_filter] at hj
    obtain ⟨ed, ⟨hm, hb⟩, rfl⟩ := hj
    have := h3 ed (by simpa using hm)
    simpa [hb] using this
theorem edge_ready {ops : Array Oper} {listed : Array Bool} {i : Nat} {o : Oper} (ho : opAt ops i = some o) (hi : i < ops.size) (hl : listed.getD i true = false) (he : ∀ j ∈ edgesOn o, listed.getD j false = true) : i ∈ Region.ready .any ops listed := by
  unfold Region.ready
  simp only [List.mem_filter, List.mem_range, Bool.and_eq_true, Bool.not_eq_true']
  refine ⟨hi, hl, ?_⟩
  have ho' : ops[i]? = some o := by simpa [opAt] using ho
  simp only [ho', Option.map_some, Option.getD_some, Array.all_eq_true_iff_forall_mem]
  intro ed hm
  cases hb : Region.binds .any ed with
  | false => rfl
  | true =>
    have := he ed.on (by simp only [edgesOn, List.mem_map, List.mem_filter]; exact ⟨ed, ⟨by simpa using hm, hb⟩, rfl⟩)
    simpa using this

theorem KX.at {A X D : List Nat} {a : Act} (h : KX ops n d e A X a) (hreg : regOk ops = true) {i : Nat} (hpair : pairOk ops A i = true) {o : Oper} (hi : opAt ops i = some o) (hA : ∀ j ∈ A, j < ops.size) (hAD : ∀ j ∈ A, j ∉ D) (hself : ∀ t, o.dst = some t → t ∉ readsT ops o)
    {listed : Array Bool} (hL : ∀ j, j < ops.size → (listed.getD j true = true ↔ j ∈ D ∨ j ∈ X)) (hr : ∀ j ∈ edgesOn o, listed.getD j false = true) {t : Tmp} {v : Value} (hmem : t ∈ readsT ops o) (hev : lk e t = some v) : a.tmps[t]? = some v :=
  h.val t v hev (fun j hj hjX hd => by
    have hjs := hA j hj
    by_cases hij : i = j
    · subst hij
      rw [hi] at hd
      exact hself t hd hmem
    · have hedge := pairOk_spec hpair hi hj hij hd hmem
      have hl := hr j hedge
      have hl' : listed.getD j true = true := by
        simp only [Array.getD] at hl ⊢
        split at hl
        · rename_i hlt; simp [hlt]; simpa using hl
        · cases hl
      rcases (hL j hjs).1 hl' with hD | hXm
      · exact hAD j hj hD
      · exact hjX hXm)
/-- What is known of an operation's guard: is it carried out? -/
inductive GT (ops : Array Oper) (e : Env) (o : Oper) : Bool → Prop
  | none : o.guard = none → GT ops e o true
  | yes {j t b} : o.guard = some (j, b) → gdst ops j = some t → lk e t = some (.bool b) → GT ops e o true
  | no {j t b} : o.guard = some (j, b) → gdst ops j = some t → lk e t = some (.bool (!b)) → GT ops e o false
  | nou {j t b} : o.guard = some (j, b) → gdst ops j = some t → lk e t = some undef → GT ops e o false
theorem GT.wanted {o : Oper} {r : Bool} {a : Act} (h : GT ops e o r) (hk : ∀ t ∈ gslot ops o, ∀ v, lk e t = some v → a.tmps[t]? = some v) : Region.wanted o (yielded ops a.tmps) = r := by
  have key : ∀ {j t b v}, o.guard = some (j, b) → gdst ops j = some t → lk e t = some v → a.tmps[t]? = some v ∧ (ops[j]?).bind (·.dst) = some t := by
    intro j t b v hg hj hv
    exact ⟨hk t (by simp [gslot, hg, hj]) v hv, hj⟩
  cases h with
  | none hg => simp [Region.wanted, hg]
  | yes hg hj hv =>
    obtain ⟨h1, h2⟩ := key hg hj hv
    simp [Region.wanted, hg, yielded, h2, h1]
  | no hg hj hv =>
    rename_i j t b
    obtain ⟨h1, h2⟩ := key hg hj hv
    cases b <;> simp [Region.wanted, hg, yielded, h2, h1]
  | nou hg hj hv =>
    obtain ⟨h1, h2⟩ := key hg hj hv
    simp [Region.wanted, hg, yielded, h2, h1, undef]
theorem GT.ext {o : Oper} {r : Bool} {t : Tmp} {u : Value} (h : GT ops e o r) (ht : t ∉ gslot ops o) : GT ops ((t, u) :: e) o r := by
  have key : ∀ {j s b}, o.guard = some (j, b) → gdst ops j = some s → Nat.beq t s = false := by
    intro j s b hg hj
    cases hq : Nat.beq t s
    · rfl
    · have := Nat.eq_of_beq_eq_true hq
      subst this
      exact absurd (by simp [gslot, hg, hj]) ht
  cases h with
  | none hg => exact .none hg
  | yes hg hj hv => exact .yes hg hj (by simp only [lk, key hg hj]; exact hv)
  | no hg hj hv => exact .no hg hj (by simp only [lk, key hg hj]; exact hv)
  | nou hg hj hv => exact .nou hg hj (by simp only [lk, key hg hj]; exact hv)
theorem lk_same {t k : Tmp} {v u : Value} (hv : lk e t = some v) (hk : lk e k = some u) : lk ((t, v) :: e) k = some u := by
  simp only [lk]
  split
  · rename_i hb
    have := Nat.eq_of_beq_eq_true hb
    subst this
    exact hv.symm.trans hk
  · exact hk
theorem GT.same {o : Oper} {r : Bool} {t : Tmp} {v : Value} (h : GT ops e o r) (hv : lk e t = some v) : GT ops ((t, v) :: e) o r := by
  cases h with
  | none hg => exact .none hg
  | yes hg hj h => exact .yes hg hj (lk_same hv h)
  | no hg hj h => exact .no hg hj (lk_same hv h)
  | nou hg hj h => exact .nou hg hj (lk_same hv h)
/-- What an operation, if it is carried out, has in its slot; if not: nothing. -/
inductive QG (P : Program) (w0 : World) (ops : Array Oper) (o : Oper) (e : Env) (F : List Atom) : Value → Prop
  | run {v} : GT ops e o true → QV P w0 o e F v → QG P w0 ops o e F v
  | skip : GT ops e o false → QG P w0 ops o e F undef
theorem QV.guard {dst : Option Tmp} {op : Op} {ty : TypeId} {pos : String} {aft : Array Edge} {g : Option (Nat × Bool)} {v : Value} (h : QV P w0 (.mk dst op ty pos aft none) e F v) : QV P w0 (.mk dst op ty pos aft g) e F v := fun ρ w h1 h2 => h ρ w h1 h2
theorem QV.as {o : Oper} {v u : Value} (h : QV P w0 o e F v) (hv : v = u) : QV P w0 o e F u := hv ▸ h
theorem QG.plain {o : Oper} {v : Value} (h : QV P w0 o e F v) (hg : o.guard = none := by rfl) : QG P w0 ops o e F v := .run (.none hg) h
theorem QG.yes {dst : Option Tmp} {op : Op} {ty : TypeId} {pos : String} {aft : Array Edge} {j : Nat} {b : Bool} {t : Tmp} {v : Value} (hj : gdst ops j = some t) (hv : lk e t = some (.bool b)) (h : QV P w0 (.mk dst op ty pos aft none) e F v) : QG P w0 ops (.mk dst op ty pos aft (some (j, b))) e F v :=
  .run (.yes rfl hj hv) h.guard
theorem QG.no {dst : Option Tmp} {op : Op} {ty : TypeId} {pos : String} {aft : Array Edge} {j : Nat} {b : Bool} {t : Tmp} (hj : gdst ops j = some t) (hv : lk e t = some (.bool (!b))) : QG P w0 ops (.mk dst op ty pos aft (some (j, b))) e F undef := .skip (.no rfl hj hv)
theorem QG.nou {dst : Option Tmp} {op : Op} {ty : TypeId} {pos : String} {aft : Array Edge} {j : Nat} {b : Bool} {t : Tmp} (hj : gdst ops j = some t) (hv : lk e t = some undef) : QG P w0 ops (.mk dst op ty pos aft (some (j, b))) e F undef := .skip (.nou rfl hj hv)

/-- The evaluation that knows all: as the frame's at what an operation looks at. -/
theorem KX.full {A X D : List Nat} {a : Act} (h : KX ops n d e A X a) (hreg : regOk ops = true) {i : Nat} (hpair : pairOk ops A i = true) {o : Oper} (hi : opAt ops i = some o) (hA : ∀ j ∈ A, j < ops.size) (hAD : ∀ j ∈ A, j ∉ D) (hself : ∀ t, o.dst = some t → t ∉ readsT ops o)
    {listed : Array Bool} (hL : ∀ j, j < ops.size → (listed.getD j true = true ↔ j ∈ D ∨ j ∈ X)) (hr : ∀ j ∈ edgesOn o, listed.getD j false = true) : ∃ ρ, Kn e ρ ∧ ∀ x ∈ o.op.operands, a.eval x = ρ x := by
  refine ⟨fun x => match evO e x with | some v => v | none => a.eval x, fun x v hx => by simp [hx], fun x hx => ?_⟩
  cases hev : evO e x with
  | none => simp only [hev]
  | some v =>
    simp only [hev]
    cases x with
    | const u => simp [evO] at hev; simp [Act.eval, hev]
    | global g => simp [evO] at hev; simp [Act.eval, ← hev]
    | func g => simp [evO] at hev; simp [Act.eval, ← hev]
    | tmp t =>
      have hmem : t ∈ readsT ops o := by
        simp only [readsT, List.mem_append, List.mem_filterMap]
        exact .inr ⟨.tmp t, by simpa using hx, rfl⟩
      have := h.at hreg hpair hi hA hAD hself hL hr hmem hev
      simp [Act.eval, this]
theorem exec_full {A X D : List Nat} {a : Act} (h : KX ops n d e A X a) (hreg : regOk ops = true) {i : Nat} (hpair : pairOk ops A i = true) {o : Oper} (hi : opAt ops i = some o) (hA : ∀ j ∈ A, j < ops.size) (hAD : ∀ j ∈ A, j ∉ D) (hself : ∀ t, o.dst = some t → t ∉ readsT ops o)
    {listed : Array Bool} (hL : ∀ j, j < ops.size → (listed.getD j true = true ↔ j ∈ D ∨ j ∈ X)) (hr : ∀ j ∈ edgesOn o, listed.getD j false = true) : ∃ ρ, Kn e ρ ∧ execOp a.eval o = execOp ρ o := by
  obtain ⟨ρ, h1, h2⟩ := h.full hreg hpair hi hA hAD hself hL hr
  exact ⟨ρ, h1, execOp_congr o (regOk_op hreg hi) h2⟩
theorem count_set {listed : Array Bool} {i : Nat} (hi : i < listed.size) (hf : listed.getD i true = false) : ((listed.setIfInBounds i true).toList.filter id).length = (listed.toList.filter id).length + 1 := by
  obtain ⟨l⟩ := listed
  simp only [List.setIfInBounds_toArray]
  have hi' : i < l.length := by simpa using hi
  have hf' : l[i] = false := by simpa [Array.getD, hi'] using hf
  clear hf hi
  induction l generalizing i with
  | nil => simp at hi'
  | cons b l ih =>
    cases i with
    | zero => simp at hf'; subst hf'; simp
    | succ i =>
      have := ih (by simpa using hi') (by simpa using hf')
      simp only [List.set_cons_succ, List.filter_cons, id]
      split <;> simp_all
theorem listed_set {listed : Array Bool} {i : Nat} {D X : List Nat} (hs : listed.size = ops.size) (hi : i < ops.size) (hL : ∀ j, j < ops.size → (listed.getD j true = true ↔ j ∈ D ∨ j ∈ X)) :
    ∀ j, j < ops.size → ((listed.setIfInBounds i true).getD j true = true ↔ j = i ∨ j ∈ D ∨ j ∈ X) := by
  intro j hj
  have hjs : j < listed.size := by omega
  by_cases h : i = j
  · subst h
    simp [Array.getD, hjs]
  · have := hL j hj
    have hne : ¬ j = i := fun e => h e.symm
    simp only [hne, false_or, ← this]
    simp [Array.getD, hjs, Array.getElem_setIfInBounds_ne hjs h]

/-- One more operation whose value is known whenever it comes. -/
theorem any_quiet {D A : List Nat} {t : Tmp} {o : Oper} {v : Value} (i : Nat) (hi : opAt ops i = some o) (hd : o.dst = some t) (hn : (D ++ A).contains i = false)
    (hk : GAny P f w0 K n d ops k D (i :: A) ((t, v) :: e) F) : GAny P f w0 K n d ops k D A e F := by
  intro X hX fuel listed a w hs hL hf ha hw
  refine hk X (fun x hx => List.mem_cons_of_mem _ (hX hx)) fuel listed a w hs hL hf ⟨ha.size, ha.dfr, fun u x hx hp => ?_⟩ hw
  have hiX : i ∉ X := fun h => by
    simp only [List.contains_eq_mem, decide_eq_false_iff_not, List.mem_append, not_or] at hn
    exact hn.2 (hX h)
  have hne : t ≠ u := fun h => hp i (List.mem_cons_self ..) hiX (by rw [hi]; subst h; exact hd)
  refine ha.val u x ?_ (fun j hj hjX => hp j (List.mem_cons_of_mem _ hj) hjX)
  simp only [lk] at hx
  split at hx
  · rename_i hb; exact absurd (Nat.eq_of_beq_eq_true hb) hne
  · exact hx

def acyc (ops : Array Oper) : Bool := (List.range ops.size).all fun i => match opAt ops i with
  | none => false
  | some o => (edgesOn o).all fun j => Nat.blt j i
/-- What may come now, beside the pool, is c alone. -/
def blockOk (ops : Array Oper) (D A : List Nat) (c : Nat) : Bool := (List.range ops.size).all fun j => D.contains j || A.contains j || Nat.beq j c || match opAt ops j with
  | none => false
  | some o => (edgesOn o).any fun x => !(D.contains x || A.contains x)
def selfOk (ops : Array Oper) (o : Oper) : Bool := match o.dst with
  | none => true
  | some t => !(readsT ops o).contains t
structure PoolAt (P : Program) (w0 : World) (n : Nat) (ops : Array Oper) (e : Env) (F : List Atom) (i : Nat) : Prop where
  ex : ∃ o t v, opAt ops i = some o ∧ selfOk ops o = true ∧ o.dst = some t ∧ Nat.ble (t + 1) n = true ∧ lk e t = some v ∧ QG P w0 ops o e F v
inductive Pool (P : Program) (w0 : World) (n : Nat) (ops : Array Oper) (e : Env) (F : List Atom) : List Nat → Prop
  | nil : Pool P w0 n ops e F []
  | consG {i A o t v} : opAt ops i = some o → selfOk ops o = true → o.dst = some t → Nat.ble (t + 1) n = true → lk e t = some v → QG P w0 ops o e F v → Pool P w0 n ops e F A → Pool P w0 n ops e F (i :: A)
theorem Pool.cons {i A o t v} (h1 : opAt ops i = some o) (h2 : selfOk ops o = true) (h3 : o.dst = some t) (h4 : Nat.ble (t + 1) n = true) (h5 : lk e t = some v) (h6 : QV P w0 o e F v) (h7 : Pool P w0 n ops e F A) (hg : o.guard = none := by rfl) : Pool P w0 n ops e F (i :: A) := .consG h1 h2 h3 h4 h5 (.plain h6 hg) h7
theorem Pool.at {A} (h : Pool P w0 n ops e F A) : ∀ i ∈ A, PoolAt P w0 n ops e F i := by
  induction h with
  | nil => intro i hi; cases hi
  | consG h1 h2 h3 h4 h5 h6 _ ih =>
    intro i hi
    rcases List.mem_cons.1 hi with rfl | hi
    · exact ⟨_, _, _, h1, h2, h3, h4, h5, h6⟩
    · exact ih i hi
theorem opAt_lt {i : Nat} {o : Oper} (h : opAt ops i = some o) : i < ops.size := by
  unfold opAt at h
  have := List.getElem?_eq_some_iff.1 h
  simpa using this.1
theorem selfOk_spec {o : Oper} (h : selfOk ops o = true) : ∀ t, o.dst = some t → t ∉ readsT ops o := by
  intro t ht hm
  simp [selfOk, ht, hm] at h
theorem full_count {listed : Array Bool} (h : (listed.toList.filter id).length = listed.size) : ∀ i, i < listed.size → listed.getD i true = true := by
  obtain ⟨l⟩ := listed
  intro i hi
  have hi' : i < l.length := by simpa using hi
  have h' : (l.filter id).length = l.length := by simpa using h
  have := List.length_filter_eq_length_iff.1 h' l[i] (List.getElem_mem _)
  simpa [Array.getD, hi'] using this
theorem ready_ne {listed : Array Bool} (hac : acyc ops = true) (hs : listed.size = ops.size) {i : Nat} (hi : i < ops.size) (hl : listed.getD i true = false) : Region.ready .any ops listed ≠ [] := by
  have key : ∀ m i, i ≤ m → i < ops.size → listed.getD i true = false → ∃ j, j ∈ Region.ready .any ops listed := by
    intro m
    induction m with
    | zero =>
      intro i him hi hl
      simp only [acyc, List.all_eq_true, List.mem_range] at hac
      have h1 := hac i hi
      cases ho : opAt ops i with
      | none => rw [ho] at h1; cases h1
      | some o =>
        rw [ho] at h1
        simp only [List.all_eq_true] at h1
        refine ⟨i, edge_ready ho hi hl fun j hj => ?_⟩
        have := h1 j hj
        have := Nat.le_of_ble_eq_true this
        omega
    | succ m ih =>
      intro i him hi hl
      have hac' := hac
      simp only [acyc, List.all_eq_true, List.mem_range] at hac
      have h1 := hac i hi
      cases ho : opAt ops i with
      | none => rw [ho] at h1; cases h1
      | some o =>
        rw [ho] at h1
        simp only [List.all_eq_true] at h1
        by_cases hall : ∀ j ∈ edgesOn o, listed.getD j false = true
        · exact ⟨i, edge_ready ho hi hl hall⟩
        · simp only [Classical.not_forall] at hall
          obtain ⟨j, hj, hjl⟩ := hall
          have hlt := Nat.le_of_ble_eq_true (h1 j hj)
          have hjs : j < ops.size := by omega
          refine ih j (by omega) hjs ?_
          have hjl' : j < listed.size := by omega
          simp only [Array.getD, hjl', dite_true] at hjl ⊢
          simpa using hjl
  obtain ⟨j, hj⟩ := key i i (Nat.le_refl _) hi hl
  exact List.ne_nil_of_mem hj
theorem wpOp_value {i : Nat} {o : Oper} {v : Value} {a : Act} {w w' : World} {Q : Exit → Act → World → Prop} {Kn2 : Act → World → Prop} (hi : opAt ops i = some o) (this : Region.wanted o (yielded ops a.tmps) = true) (hr : (execOp a.eval o).run P w = .ok (.value v) w') (h : Kn2 (a.put o.dst v) w') : wpOp P ops Q i Kn2 a w := by
  have hi' : ops[i]? = some o := by simpa [opAt] using hi
  unfold wpOp
  simp only [hi']
  simp only [this, if_true, Oper.wp, hr, Oper.upon]
  exact .inl h
theorem wpOp_skip {i : Nat} {o : Oper} {a : Act} {w : World} {Q : Exit → Act → World → Prop} {Kn2 : Act → World → Prop} (hi : opAt ops i = some o) (hw : Region.wanted o (yielded ops a.tmps) = false) (h : Kn2 (a.put o.dst undef) w) : wpOp P ops Q i Kn2 a w := by
  have hi' : ops[i]? = some o := by simpa [opAt] using hi
  unfold wpOp
  simp only [hi', hw]
  exact h
theorem gslot_reads {o : Oper} {t : Tmp} (h : t ∈ gslot ops o) : t ∈ readsT ops o := by simp [readsT, h]
theorem KX.put {A X : List Nat} {a : Act} (h : KX ops n d e A X a) {i : Nat} {o : Oper} {t : Tmp} {v : Value} (hi : opAt ops i = some o) (hd : o.dst = some t) (ht : Nat.ble (t + 1) n = true) (hv : lk e t = some v) : KX ops n d e A (i :: X) (a.put o.dst v) := by
  have hlt := Nat.le_of_ble_eq_true ht
  rw [hd]
  refine ⟨by simp [Act.put, h.size], by simp [Act.put, h.dfr], fun u x hx hp => ?_⟩
  by_cases hut : t = u
  · subst hut
    rw [hv] at hx; injection hx with hx; subst hx
    simp [Act.put, Array.getElem?_setIfInBounds, h.size]
    omega
  · simp only [Act.put]
    rw [Array.getElem?_setIfInBounds_ne hut]
    refine h.val u x hx fun j hj hjX => ?_
    by_cases hji : j = i
    · subst hji; rw [hi]; simp only [Option.bind_some, hd]; intro h2; injection h2 with h2; exact hut h2
    · exact hp j hj (by simp [hji, hjX])

theorem any_step {D A X : List Nat} {fuel : Nat} {listed : Array Bool} {a : Act} {w : World} (hreg : regOk ops = true) (hPA : ∀ i ∈ A, pairOk ops A i = true) (hAD : ∀ j ∈ A, j ∉ D) (hpool : Pool P w0 n ops e F A) (hX : X ⊆ A) (hs : listed.size = ops.size)
    (hL : ∀ i, i < ops.size → (listed.getD i true = true ↔ i ∈ D ∨ i ∈ X)) (hf : fuel + 1 + (listed.toList.filter id).length = ops.size) (ha : KX ops n d e A X a) (hw : Holds w0 F w) {i : Nat} (hiA : i ∈ A) (hir : i ∈ Region.ready .any ops listed)
    (ih : ∀ (X : List Nat) (listed : Array Bool) (a : Act), X ⊆ A → listed.size = ops.size → (∀ i, i < ops.size → (listed.getD i true = true ↔ i ∈ D ∨ i ∈ X)) → fuel + (listed.toList.filter id).length = ops.size → KX ops n d e A X a → wpAny P .any ops (Next P f (RK w0 K) k) fuel listed a w) :
    wpOp P ops (Next P f (RK w0 K) k) i (wpAny P .any ops (Next P f (RK w0 K) k) fuel (listed.setIfInBounds i true)) a w := by
  obtain ⟨o, ho, his, hil, hie⟩ := ready_spec hir
  obtain ⟨o', t, v, ho', hself, hd, ht, hv, hq⟩ := (hpool.at i hiA).ex
  rw [ho] at ho'; injection ho' with ho'; subst ho'
  have hAs : ∀ j ∈ A, j < ops.size := fun j hj => by obtain ⟨_, _, _, hj', _⟩ := (hpool.at j hj).ex; exact opAt_lt hj'
  obtain ⟨ρ, hkn, hex⟩ := exec_full ha hreg (hPA i hiA) ho hAs hAD (selfOk_spec hself) hL hie
  have hgo : wpAny P .any ops (Next P f (RK w0 K) k) fuel (listed.setIfInBounds i true) (a.put o.dst v) w := by
   refine ih (i :: X) _ _ (fun x hx => ?_) (by simp [hs]) ?_ (by rw [count_set (by omega) hil]; omega) (ha.put ho hd ht hv)
   · rcases List.mem_cons.1 hx with rfl | hx
     · exact hiA
     · exact hX hx
   · intro j hj
     rw [listed_set hs his hL j hj]
     simp only [List.mem_cons]
     constructor
     · rintro (h | h | h)
       · exact .inr (.inl h)
       · exact .inl h
       · exact .inr (.inr h)
     · rintro (h | h | h)
       · exact .inr (.inl h)
       · exact .inl h
       · exact .inr (.inr h)
  have hkg : ∀ u ∈ gslot ops o, ∀ x, lk e u = some x → a.tmps[u]? = some x := fun u hu x hx => ha.at hreg (hPA i hiA) ho hAs hAD (selfOk_spec hself) hL hie (gslot_reads hu) hx
  cases hq with
  | run hg hq => exact wpOp_value ho (hg.wanted hkg) (by rw [hex]; exact hq ρ w hkn hw) hgo
  | skip hg => exact wpOp_skip ho (hg.wanted hkg) hgo

/-- All are in the pool, or done. -/
theorem any_end {D A : List Nat} (hreg : regOk ops = true) (hPA : ∀ i ∈ A, pairOk ops A i = true) (hac : acyc ops = true) (hAD : A.all (fun j => !D.contains j) = true) (hall : (List.range ops.size).all (fun j => D.contains j || A.contains j) = true) (hpool : Pool P w0 n ops e F A) (hk : G P f w0 K n d k e F) :
    GAny P f w0 K n d ops k D A e F := by
  have hAD' : ∀ j ∈ A, j ∉ D := fun j hj hjD => by
    have := List.all_eq_true.1 hAD j hj
    simp [hjD] at this
  have hall' : ∀ j, j < ops.size → j ∈ D ∨ j ∈ A := fun j hj => by
    have := List.all_eq_true.1 hall j (by simpa using hj)
    simpa using this
  have hend : ∀ (X : List Nat) (listed : Array Bool) (a : Act) (w : World), listed.size = ops.size → (∀ i, i < ops.size → (listed.getD i true = true ↔ i ∈ D ∨ i ∈ X)) → (∀ i, i < ops.size → listed.getD i true = true) → KX ops n d e A X a → Holds w0 F w → Next P f (RK w0 K) k .normal a w := by
    intro X listed a w hs hL hfull ha hw
    refine hk a w ⟨ha.size, ha.dfr, fun t v hv => ha.val t v hv fun j hj hjX => ?_⟩ hw
    obtain ⟨_, _, _, hj', _⟩ := (hpool.at j hj).ex
    have := (hL j (opAt_lt hj')).1 (hfull j (opAt_lt hj'))
    rcases this with h | h
    · exact absurd h (hAD' j hj)
    · exact absurd h hjX
  intro X hX fuel listed a w hs hL hf ha hw
  induction fuel generalizing X listed a with
  | zero =>
    have hfull : ∀ i, i < ops.size → listed.getD i true = true := fun i hi => full_count (by omega) i (by omega)
    refine ⟨?_, hend X listed a w hs hL hfull ha hw⟩
    apply List.eq_nil_iff_forall_not_mem.2
    intro i hi
    obtain ⟨o, ho, his, hil, _⟩ := ready_spec hi
    rw [hfull i his] at hil; cases hil
  | succ fuel ih =>
    refine ⟨fun hnil => ?_, fun i hi => ?_⟩
    · refine hend X listed a w hs hL (fun i hi => ?_) ha hw
      cases hb : listed.getD i true with
      | true => rfl
      | false => exact absurd hnil (ready_ne hac hs hi hb)
    · obtain ⟨o, ho, his, hil, hie⟩ := ready_spec hi
      have hiA : i ∈ A := by
        rcases hall' i his with h | h
        · have := (hL i his).2 (.inl h); rw [hil] at this; cases this
        · exact h
      exact any_step hreg hPA hAD' hpool hX hs hL (by omega) ha hw hiA hi (fun X listed a h1 h2 h3 h4 h5 => ih X h1 listed a h2 h3 h4 h5)

/-- The one thing beside the pool that may come now. -/
theorem any_eff {D A : List Nat} {o : Oper} {Out : Value → List Atom → Prop} (c : Nat) (hi : opAt ops c = some o) (hreg : regOk ops = true) (hPA : ∀ i ∈ A, pairOk ops A i = true) (hpc : pairOk ops A c = true) (hac : acyc ops = true) (hAD : A.all (fun j => !D.contains j) = true) (hcn : (D ++ A).contains c = false) (hself : selfOk ops o = true) (hdn : dstOk n o.dst = true)
    (hblock : blockOk ops D A c = true) (hpool : Pool P w0 n ops e F A) (hgt : GT ops e o true) (hdo : Does P w0 o e F Out) (hk : ∀ v F', Out v F' → GAny P f w0 K n d ops k (c :: D) A (putE e o.dst v) F') : GAny P f w0 K n d ops k D A e F := by
  have hAD' : ∀ j ∈ A, j ∉ D := fun j hj hjD => by
    have := List.all_eq_true.1 hAD j hj
    simp [hjD] at this
  have hcn' : c ∉ D ∧ c ∉ A := by
    simp only [List.contains_eq_mem, decide_eq_false_iff_not, List.mem_append, not_or] at hcn
    exact hcn
  have hAs : ∀ j ∈ A, j < ops.size := fun j hj => by obtain ⟨_, _, _, hj', _⟩ := (hpool.at j hj).ex; exact opAt_lt hj'
  intro X hX fuel listed a w hs hL hf ha hw
  have hcs := opAt_lt hi
  have hcl : ∀ (X : List Nat) (listed : Array Bool), X ⊆ A → (∀ i, i < ops.size → (listed.getD i true = true ↔ i ∈ D ∨ i ∈ X)) → listed.getD c true = false := by
    intro X listed hX hL
    cases hb : listed.getD c true with
    | false => rfl
    | true =>
      rcases (hL c hcs).1 hb with h | h
      · exact absurd h hcn'.1
      · exact absurd (hX h) hcn'.2
  induction fuel generalizing X listed a with
  | zero =>
    have := full_count (show (listed.toList.filter id).length = listed.size by omega) c (by omega)
    rw [hcl X listed hX hL] at this; cases this
  | succ fuel ih =>
    refine ⟨fun hnil => absurd hnil (ready_ne hac hs hcs (hcl X listed hX hL)), fun i hir => ?_⟩
    obtain ⟨oi, hoi, his, hil, hie⟩ := ready_spec hir
    by_cases hiA : i ∈ A
    · exact any_step hreg hPA hAD' hpool hX hs hL (by omega) ha hw hiA hir (fun X listed a h1 h2 h3 h4 h5 => ih X h1 listed a h2 h3 h4 h5)
    · by_cases hic : i = c
      · subst hic
        rw [hi] at hoi; injection hoi with hoi; subst hoi
        obtain ⟨ρ, hkn, hex⟩ := exec_full ha hreg hpc hi hAs hAD' (selfOk_spec hself) hL hie
        have hcont : ∀ v F' w', Out v F' → Holds w0 F' w' → wpAny P .any ops (Next P f (RK w0 K) k) fuel (listed.setIfInBounds i true) (a.put o.dst v) w' := by
          intro v F' w' hout hw'
          refine hk v F' hout X hX fuel _ _ w' (by simp [hs]) ?_ (by rw [count_set (by omega) hil]; omega) ?_ hw'
          · intro j hj
            rw [listed_set hs his hL j hj]
            simp only [List.mem_cons, or_assoc]
          · cases hdst : o.dst with
            | none => exact ha
            | some t =>
              rw [hdst] at hdn
              have hlt : t < n := Nat.le_of_ble_eq_true hdn
              refine ⟨by simp [Act.put, ha.size], by simp [Act.put, ha.dfr], fun u x hx hp => ?_⟩
              simp only [putE, lk] at hx
              split at hx
              · rename_i hb
                have := Nat.eq_of_beq_eq_true hb; subst this
                injection hx with hx; subst hx
                simp [Act.put, Array.getElem?_setIfInBounds, ha.size, hlt]
              · rename_i hb
                have hne : ¬ t = u := fun h => by subst h; simp at hb
                simp only [Act.put]
                rw [Array.getElem?_setIfInBounds_ne hne]
                exact ha.val u x hx hp
        have hi' : ops[i]? = some o := by simpa [opAt] using hi
        unfold wpOp
        simp only [hi']
        have hwt : Region.wanted o (yielded ops a.tmps) = true := hgt.wanted fun u hu x hx => ha.at hreg hpc hi hAs hAD' (selfOk_spec hself) hL hie (gslot_reads hu) hx
        simp only [hwt, if_true, Oper.wp, hex]
        refine .inl ?_
        rcases hdo ρ w hkn hw with ⟨v, w', F', hr, hw', hout⟩ | ⟨g, args, hr, hcalls⟩
        · rcases hr with hr | ⟨hr, rfl⟩
          · rw [hr]; exact hcont v F' w' hout hw'
          · rw [hr]; exact hcont _ F' w' hout hw'
        · rw [hr]
          refine hcalls.mono ?_
          rintro en w' ⟨v, F', rfl, hout, hw'⟩
          exact hcont v F' w' hout hw'
      · have hb := List.all_eq_true.1 hblock i (by simpa using his)
        have hiD : i ∉ D := fun h => by have := (hL i his).2 (.inl h); rw [hil] at this; cases this
        have hbeq : Nat.beq i c = false := by
          cases hq : Nat.beq i c
          · rfl
          · exact absurd (Nat.eq_of_beq_eq_true hq) hic
        rw [hoi] at hb
        simp only [List.contains_eq_mem, hiD, hiA, hbeq, decide_false, Bool.false_or, List.any_eq_true, Bool.not_eq_true', Bool.or_eq_false_iff, decide_eq_false_iff_not] at hb
        obtain ⟨x, hx, hxD, hxA⟩ := hb
        have hxl := hie x hx
        have hxs : x < ops.size := by
          rcases Nat.lt_or_ge x ops.size with h | h
          · exact h
          · simp [Array.getD, show ¬ x < listed.size by omega] at hxl
        have hxl' : listed.getD x true = true := by
          have : x < listed.size := by omega
          simp only [Array.getD, this, dite_true] at hxl ⊢
          exact hxl
        rcases (hL x hxs).1 hxl' with h | h
        · exact absurd h hxD
        · exact absurd (hX h) hxA

theorem g_any {id : Nat} (hm : P.follows .mixedOrders = true) (h : GAny P f w0 K n d ops k [] [] e F) : G P f w0 K n d (.code (.region id ops true) :: k) e F := by
  intro a w ha hw
  refine GoesOn.of_wp (wp_region_any hm ?_)
  refine h [] (fun x hx => hx) ops.size _ a _ (by simp) (fun i hi => by simp [Array.getD, hi]) ?_ ⟨ha.size, ha.dfr, fun t v hv _ => ha.val t v hv⟩ (hw.drew _)
  simp

/- The pool, carried along. -/
theorem QV.ext {o : Oper} {v u : Value} {t : Tmp} (ops : Array Oper) (h : QV P w0 o e F v) (hs : ∀ cs b, o.op ≠ .select cs b) (ht : t ∉ readsT ops o) : QV P w0 o ((t, u) :: e) F v := by
  intro ρ w hk hw
  have hmem : ∀ x ∈ o.op.operands, x ≠ .tmp t := fun x hx hxt => ht (by
    simp only [readsT, List.mem_append, List.mem_filterMap]
    exact .inr ⟨x, by simpa using hx, by rw [hxt]⟩)
  let ρ' : Operand → Value := fun x => match evO e x with | some v => v | none => ρ x
  have h1 : Kn e ρ' := fun x v hx => by simp [ρ', hx]
  have h2 : execOp ρ o = execOp ρ' o := execOp_congr o hs fun x hx => by
    cases hev : evO e x with
    | none => simp [ρ', hev]
    | some y =>
      simp only [ρ', hev]
      refine hk x y ?_
      cases x with
      | tmp r =>
        have hne : ¬ t = r := fun h => hmem _ hx (by rw [h])
        have : Nat.beq t r = false := by
          cases hq : Nat.beq t r
          · rfl
          · exact absurd (Nat.eq_of_beq_eq_true hq) hne
        simp only [evO, lk, this]
        exact hev
      | const c => exact hev
      | global g => exact hev
      | func g => exact hev
  rw [h2]
  exact h ρ' w h1 hw
theorem QG.ext {o : Oper} {v u : Value} {t : Tmp} (h : QG P w0 ops o e F v) (hs : ∀ cs b, o.op ≠ .select cs b) (ht : t ∉ readsT ops o) : QG P w0 ops o ((t, u) :: e) F v := by
  have htg : t ∉ gslot ops o := fun h => ht (gslot_reads h)
  cases h with
  | run hg hq => exact .run (hg.ext htg) (hq.ext ops hs ht)
  | skip hg => exact .skip (hg.ext htg)
theorem QG.same {o : Oper} {v u : Value} {t : Tmp} (h : QG P w0 ops o e F v) (hu : lk e t = some u) : QG P w0 ops o ((t, u) :: e) F v := by
  cases h with
  | run hg hq =>
    refine .run (hg.same hu) fun ρ w hk hw => hq ρ w (fun x y hx => hk x y ?_) hw
    cases x with
    | tmp r => exact lk_same hu hx
    | const c => exact hx
    | global g => exact hx
    | func g => exact hx
  | skip hg => exact .skip (hg.same hu)
theorem QG.perm {o : Oper} {v : Value} {F' : List Atom} (h : QG P w0 ops o e F v) (hp : F.Perm F') : QG P w0 ops o e F' v := by
  cases h with
  | run hg hq => exact .run hg fun ρ w hk hw => hq ρ w hk (hw.perm hp.symm)
  | skip hg => exact .skip hg
def freshOk (ops : Array Oper) (A : List Nat) (t : Tmp) : Bool := A.all fun j => match opAt ops j with
  | none => false
  | some o => !(readsT ops o).contains t && match o.dst with | none => true | some u => !Nat.beq t u
theorem Pool.ext {A : List Nat} {t : Tmp} {u : Value} (hreg : regOk ops = true) (h : Pool P w0 n ops e F A) (hf : freshOk ops A t = true) : Pool P w0 n ops ((t, u) :: e) F A := by
  induction h with
  | nil => exact .nil
  | consG h1 h2 h3 h4 h5 h6 _ ih =>
    simp only [freshOk, List.all_cons, Bool.and_eq_true] at hf
    obtain ⟨hf1, hf2⟩ := hf
    rw [h1] at hf1
    simp only [h3, Bool.and_eq_true, Bool.not_eq_true', List.contains_eq_mem, decide_eq_false_iff_not] at hf1
    exact .consG h1 h2 h3 h4 (by simp only [lk, hf1.2]; exact h5) (h6.ext (regOk_op hreg h1) hf1.1) (ih hf2)
theorem Pool.same {A : List Nat} {t : Tmp} {u : Value} (h : Pool P w0 n ops e F A) (hu : lk e t = some u) : Pool P w0 n ops ((t, u) :: e) F A := by
  induction h with
  | nil => exact .nil
  | consG h1 h2 h3 h4 h5 h6 _ ih => exact .consG h1 h2 h3 h4 (lk_same hu h5) (h6.same hu) ih
def GP (P : Program) (f : FuncId) (w0 : World) (K : Post) (n : Nat) (d : List Deferred) (ops : Array Oper) (k : List Item) (D A : List Nat) (e : Env) (F : List Atom) : Prop :=
  regOk ops = true → acyc ops = true → (∀ i ∈ A, pairOk ops A i = true) → Pool P w0 n ops e F A → GAny P f w0 K n d ops k D A e F
theorem gp_start {id : Nat} (hm : P.follows .mixedOrders = true) (hreg : regOk ops = true) (hac : acyc ops = true) (h : GP P f w0 K n d ops k [] [] e F) : G P f w0 K n d (.code (.region id ops true) :: k) e F :=
  g_any hm (h hreg hac (by simp) .nil)
theorem pair_cons {A : List Nat} {i : Nat} {o : Oper} {t : Tmp} (h : ∀ i ∈ A, pairOk ops A i = true) (hi : opAt ops i = some o) (hd : o.dst = some t) (hf : freshOk ops A t = true) (hp : pairOk ops A i = true) : ∀ x ∈ i :: A, pairOk ops (i :: A) x = true := by
  intro x hx
  rcases List.mem_cons.1 hx with rfl | hx
  · simp only [pairOk, hi, List.all_cons, Bool.and_eq_true] at hp ⊢
    exact ⟨by simp, hp⟩
  · have h1 := h x hx
    have h2 := List.all_eq_true.1 hf x hx
    unfold pairOk at h1 ⊢
    cases ho : opAt ops x with
    | none => rw [ho] at h1; cases h1
    | some ox =>
      rw [ho] at h1 h2
      simp only [List.all_cons, Bool.and_eq_true] at h1 h2 ⊢
      refine ⟨?_, h1⟩
      rw [hi]
      simp only [Option.bind_some, hd, Bool.or_eq_true]
      exact .inr (.inl h2.1)
theorem gp_quietg {D A : List Nat} {t : Tmp} {o : Oper} {v : Value} (i : Nat) (hi : opAt ops i = some o) (hd : o.dst = some t) (ht : Nat.ble (t + 1) n = true) (hself : (selfOk ops o && pairOk ops A i) = true) (hn : (D ++ A).contains i = false) (hf : freshOk ops A t = true) (hq : QG P w0 ops o e F v)
    (hk : GP P f w0 K n d ops k D (i :: A) ((t, v) :: e) F) : GP P f w0 K n d ops k D A e F := fun hreg hac hPA hp => by
  obtain ⟨hself, hpi⟩ := Bool.and_eq_true_iff.1 hself
  refine any_quiet i hi hd hn (hk hreg hac (pair_cons hPA hi hd hf hpi) (.consG hi hself hd ht ?_ (hq.ext (regOk_op hreg hi) (selfOk_spec hself t hd)) (hp.ext hreg hf)))
  have : Nat.beq t t = true := by simp
  simp only [lk, this]
theorem gp_quiet {D A : List Nat} {t : Tmp} {o : Oper} {v : Value} (i : Nat) (hi : opAt ops i = some o) (hd : o.dst = some t) (ht : Nat.ble (t + 1) n = true) (hself : (selfOk ops o && pairOk ops A i) = true) (hn : (D ++ A).contains i = false) (hf : freshOk ops A t = true) (hq : QV P w0 o e F v)
    (hk : GP P f w0 K n d ops k D (i :: A) ((t, v) :: e) F) (hg : o.guard = none := by rfl) : GP P f w0 K n d ops k D A e F := gp_quietg i hi hd ht hself hn hf (.plain hq hg) hk
theorem gp_split {D A : List Nat} (t : Tmp) {b : Bool} (hv : lk e t = some (.bool b)) (h1 : b = true → GP P f w0 K n d ops k D A ((t, .bool true) :: e) F) (h2 : b = false → GP P f w0 K n d ops k D A ((t, .bool false) :: e) F) : GP P f w0 K n d ops k D A e F := fun hreg hac hPA hp => by
  have key : ∀ c, b = c → GP P f w0 K n d ops k D A ((t, .bool c) :: e) F → GAny P f w0 K n d ops k D A e F := by
    rintro c rfl hk
    intro X hX fuel listed a w hs hL hf ha hw
    refine hk hreg hac hPA (hp.same hv) X hX fuel listed a w hs hL hf ⟨ha.size, ha.dfr, fun u x hx hpp => ha.val u x ?_ hpp⟩ hw
    simp only [lk] at hx
    split at hx
    · rename_i hb
      have := Nat.eq_of_beq_eq_true hb
      subst this
      exact hv.trans hx
    · exact hx
  cases hb : b with
  | true => exact key true hb (h1 hb)
  | false => exact key false hb (h2 hb)
theorem gp_effg {D A : List Nat} {o : Oper} {Out : Value → List Atom → Prop} (c : Nat) (hi : opAt ops c = some o) (hAD : A.all (fun j => !D.contains j) = true) (hcn : (D ++ A).contains c = false) (hself : (selfOk ops o && pairOk ops A c) = true) (hdn : dstOk n o.dst = true)
    (hblock : blockOk ops D A c = true) (hgt : GT ops e o true) (hdo : Does P w0 o e F Out) (hk : ∀ v F', Out v F' → Pool P w0 n ops (putE e o.dst v) F' A ∧ GP P f w0 K n d ops k (c :: D) A (putE e o.dst v) F') : GP P f w0 K n d ops k D A e F := fun hreg hac hPA hp =>
  any_eff c hi hreg hPA (Bool.and_eq_true_iff.1 hself).2 hac hAD hcn (Bool.and_eq_true_iff.1 hself).1 hdn hblock hp hgt hdo fun v F' ho => (hk v F' ho).2 hreg hac hPA (hk v F' ho).1
theorem gp_eff {D A : List Nat} {o : Oper} {Out : Value → List Atom → Prop} (c : Nat) (hi : opAt ops c = some o) (hAD : A.all (fun j => !D.contains j) = true) (hcn : (D ++ A).contains c = false) (hself : (selfOk ops o && pairOk ops A c) = true) (hdn : dstOk n o.dst = true)
    (hblock : blockOk ops D A c = true) (hdo : Does P w0 o e F Out) (hk : ∀ v F', Out v F' → Pool P w0 n ops (putE e o.dst v) F' A ∧ GP P f w0 K n d ops k (c :: D) A (putE e o.dst v) F') (hg : o.guard = none := by rfl) : GP P f w0 K n d ops k D A e F :=
  gp_effg c hi hAD hcn hself hdn hblock (.none hg) hdo hk
theorem Does.guard {dst : Option Tmp} {op : Op} {ty : TypeId} {pos : String} {aft : Array Edge} {g : Option (Nat × Bool)} {Out : Value → List Atom → Prop} (h : Does P w0 (.mk dst op ty pos aft none) e F Out) : Does P w0 (.mk dst op ty pos aft g) e F Out := fun ρ w h1 h2 => h ρ w h1 h2
theorem gp_end {D A : List Nat} (hAD : A.all (fun j => !D.contains j) = true) (hall : (List.range ops.size).all (fun j => D.contains j || A.contains j) = true) (hk : G P f w0 K n d k e F) : GP P f w0 K n d ops k D A e F := fun hreg hac hPA hp =>
  any_end hreg hPA hac hAD hall hp hk
theorem Pool.perm {A : List Nat} {F' : List Atom} (h : Pool P w0 n ops e F A) (hp : F.Perm F') : Pool P w0 n ops e F' A := by
  induction h with
  | nil => exact .nil
  | consG h1 h2 h3 h4 h5 h6 _ ih => exact .consG h1 h2 h3 h4 h5 (h6.perm hp) ih
theorem gp_front {D A : List Nat} {B : Atom} {F' : List Atom} (i : Nat) (h : frontO F i = some (B, F')) (hk : GP P f w0 K n d ops k D A e (B :: F')) : GP P f w0 K n d ops k D A e F := fun hreg hac hPA hp => by
  have hperm := frontO_perm h
  intro X hX fuel listed a w h1 h2 h3 h4 hw
  exact hk hreg hac hPA (hp.perm hperm) X hX fuel listed a w h1 h2 h3 h4 (hw.perm hperm)
end
end Go.Proofs.Ytecibldbnekgbaa.Fw
