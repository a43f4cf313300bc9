import Derived.Orders
import Derived.Below
namespace Go.Proofs.Ytecibldbnekgbaa.Fw
open Go
set_option linter.unusedVariables false
set_option linter.unusedSimpArgs false

/- A frame's slots, as far as they are known. -/
abbrev Env := List (Nat × Value)
def lk : Env → Nat → Option Value
  | [], _ => none
  | (k, v) :: e, t => match Nat.beq k t with | true => some v | false => lk e t
def evO (e : Env) : Operand → Option Value
  | .tmp t => lk e t
  | .const v => some v
  | .global g => some (.pointer (some ⟨g, 0, none⟩))
  | .func f => some (.func (.func f) #[] #[])
def evL (e : Env) : List Operand → Option (List Value)
  | [] => some []
  | x :: xs => match evO e x with
    | none => none
    | some v => match evL e xs with
      | none => none
      | some vs => some (v :: vs)

structure Knows (n : Nat) (d : List Deferred) (e : Env) (a : Act) : Prop where
  size : a.tmps.size = n
  dfr : a.defers = d
  val : ∀ t v, lk e t = some v → a.tmps[t]? = some v

theorem Knows.ev {n d e a x v} (h : Knows n d e a) (hx : evO e x = some v) : a.eval x = v := by
  cases x with
  | tmp t =>
    have := h.val t v hx
    simp [Act.eval, this]
  | const u => exact Option.some.inj hx
  | global g => exact Option.some.inj hx
  | func f => exact Option.some.inj hx

theorem Knows.evs {n d e a} (h : Knows n d e a) : ∀ {xs vs}, evL e xs = some vs → xs.map a.eval = vs
  | [], vs, hx => by simp [evL] at hx; simp [hx]
  | x :: xs, vs, hx => by
    simp only [evL] at hx
    split at hx
    · cases hx
    · rename_i v hv
      split at hx
      · cases hx
      · rename_i vs' hvs
        cases hx
        simp [h.ev hv, h.evs hvs]

def dstOk (n : Nat) : Option Tmp → Bool
  | some t => Nat.ble (t + 1) n
  | none => true
def putE (e : Env) : Option Tmp → Value → Env
  | some t, v => (t, v) :: e
  | none, _ => e

theorem Knows.put {n d e a} (h : Knows n d e a) (t : Tmp) (v : Value) (ht : Nat.ble (t + 1) n = true) : Knows n d ((t, v) :: e) (a.put (some t) v) := by
  have hlt : t < n := Nat.le_of_ble_eq_true ht
  refine ⟨by simp [Act.put, h.size], by simp [Act.put, h.dfr], fun k u hk => ?_⟩
  simp only [lk] at hk
  by_cases hkt : t = k
  · subst hkt
    have : Nat.beq t t = true := by simp
    rw [this] at hk
    simp only [Option.some.injEq] at hk
    subst hk
    simp [Act.put, Array.getElem?_setIfInBounds, h.size, hlt]
  · have : Nat.beq t k = false := by
      cases hb : Nat.beq t k
      · rfl
      · exact absurd (Nat.eq_of_beq_eq_true hb) hkt
    rw [this] at hk
    simp only [Act.put]
    rw [Array.getElem?_setIfInBounds_ne hkt]
    exact h.val k u hk

theorem Knows.put_none {n d e a} (h : Knows n d e a) (v : Value) : Knows n d e (a.put none v) := h

theorem Knows.sub {n d e e' a} (h : Knows n d e a) (hs : ∀ t v, lk e' t = some v → lk e t = some v) : Knows n d e' a :=
  ⟨h.size, h.dfr, fun t v ht => h.val t v (hs t v ht)⟩

/-- What is known in e' is known in e. -/
inductive Sub (e : Env) : Env → Prop
  | nil : Sub e []
  | cons {t v e'} : lk e t = some v → Sub e e' → Sub e ((t, v) :: e')
theorem Sub.le {e e'} (h : Sub e e') : ∀ t v, lk e' t = some v → lk e t = some v := by
  induction h with
  | nil => intro t v hv; cases hv
  | cons h1 _ ih =>
    rename_i t v e'
    intro k u hk
    simp only [lk] at hk
    split at hk
    · rename_i hb
      have := Nat.eq_of_beq_eq_true hb
      subst this
      simp at hk; subst hk; exact h1
    · exact ih k u hk

/- The heap, told in parts that have no block in common. -/
def hp (w : World) : Nat → Option Obj := fun b => w.heap[b]?
structure Atom where
  fp : Nat → Prop
  ok : (Nat → Option Obj) → Prop
  loc : ∀ h h', (∀ b, fp b → h b = h' b) → ok h → ok h'
structure Holds (w0 : World) (F : List Atom) (w : World) : Prop where
  os : w.os = w0.os
  tape : w.tape = w0.tape
  output : w.output = w0.output
  ok : ∀ A ∈ F, A.ok (hp w)
  lt : ∀ A ∈ F, ∀ b, A.fp b → b < w.heap.size
  sep : F.Pairwise fun A B => ∀ b, A.fp b → ¬ B.fp b

/-- One block. -/
def Blk (b : Nat) (o : Obj) : Atom := ⟨(· = b), fun h => h b = some o, fun h h' hh ho => by rw [← hh b rfl]; exact ho⟩
/-- Memory that was there at first. -/
def Old (w0 : World) : Atom := ⟨(· < w0.heap.size), fun h => ∀ b, b < w0.heap.size → h b = w0.heap[b]?, fun h h' hh ho b hb => by rw [← hh b hb]; exact ho b hb⟩

theorem Holds.perm {w0 F F' w} (h : Holds w0 F w) (hp : F.Perm F') : Holds w0 F' w :=
  ⟨h.os, h.tape, h.output, fun A hA => h.ok A (hp.mem_iff.2 hA), fun A hA => h.lt A (hp.mem_iff.2 hA),
    hp.pairwise h.sep (fun {A B} hh b hb ha => hh b ha hb)⟩
theorem Holds.tail {w0 A F w} (h : Holds w0 (A :: F) w) : Holds w0 F w :=
  ⟨h.os, h.tape, h.output, fun B hB => h.ok B (List.mem_cons_of_mem _ hB), fun B hB => h.lt B (List.mem_cons_of_mem _ hB), (List.pairwise_cons.1 h.sep).2⟩
theorem Holds.sub {w0 F F' w} (h : Holds w0 F w) (hs : F'.Sublist F) : Holds w0 F' w :=
  ⟨h.os, h.tape, h.output, fun B hB => h.ok B (hs.subset hB), fun B hB => h.lt B (hs.subset hB), h.sep.sublist hs⟩
theorem Holds.drew {w0 F w} (h : Holds w0 F w) (n : Nat) : Holds w0 F { w with drawn := n } :=
  ⟨h.os, h.tape, h.output, h.ok, h.lt, h.sep⟩

/-- A block's object, whatever stands beside. -/
def Has (w0 : World) (F : List Atom) (b : Nat) (o : Obj) : Prop := ∀ w, Holds w0 F w → w.heap[b]? = some o
theorem Has.here {w0 b o F} : Has w0 (Blk b o :: F) b o := fun w h => h.ok _ (List.mem_cons_self ..)
theorem Has.there {w0 A b o F} (h : Has w0 F b o) : Has w0 (A :: F) b o := fun w hw => h w hw.tail
theorem Has.mem {w0 b o F} (h : Blk b o ∈ F) : Has w0 F b o := fun w hw => hw.ok _ h
theorem Has.old {w0 w1 b o F} (h : Old w1 ∈ F) (hb : w1.heap[b]? = some o) : Has w0 F b o := fun w hw => by
  have hlt : b < w1.heap.size := by
    rcases Nat.lt_or_ge b w1.heap.size with h | h
    · exact h
    · simp [Array.getElem?_eq_none h] at hb
  exact (hw.ok _ h b hlt).trans hb

/-- A new block beside all that is told. -/
theorem Holds.new {w0 F w} (h : Holds w0 F w) (o : Obj) : Holds w0 (Blk w.heap.size o :: F) { w with heap := w.heap.push o } := by
  have hk : ∀ b, b < w.heap.size → hp { w with heap := w.heap.push o } b = hp w b := fun b hb => by
    simp only [hp, Array.getElem?_push]; rw [if_neg (by omega)]
  refine ⟨h.os, h.tape, h.output, fun A hA => ?_, fun A hA b hb => ?_, List.pairwise_cons.2 ⟨fun A hA b hb hA' => ?_, h.sep⟩⟩
  · rcases List.mem_cons.1 hA with rfl | hA
    · show (w.heap.push o)[w.heap.size]? = some o
      simp
    · exact A.loc _ _ (fun b hb => (hk b (h.lt A hA b hb)).symm) (h.ok A hA)
  · simp only [Array.size_push]
    rcases List.mem_cons.1 hA with rfl | hA
    · simp only [Blk] at hb; omega
    · have := h.lt A hA b hb; omega
  · simp only [Blk] at hb; subst hb
    exact absurd (h.lt A hA _ hA') (Nat.lt_irrefl _)

/-- The first part is turned, and all else is as it was. -/
theorem Holds.turn {w0 A A' F w w'} (h : Holds w0 (A :: F) w) (hos : w'.os = w.os) (ht : w'.tape = w.tape) (hout : w'.output = w.output) (hsz : w.heap.size ≤ w'.heap.size)
    (hk : ∀ b, b < w.heap.size → ¬ A.fp b → w'.heap[b]? = w.heap[b]?) (hA : A'.ok (hp w')) (hfp : ∀ b, A'.fp b → A.fp b ∨ w.heap.size ≤ b) (hlt : ∀ b, A'.fp b → b < w'.heap.size) : Holds w0 (A' :: F) w' := by
  have hs := List.pairwise_cons.1 h.sep
  have hkeep : ∀ B ∈ F, ∀ b, B.fp b → hp w' b = hp w b := fun B hB b hb =>
    hk b (h.lt B (List.mem_cons_of_mem _ hB) b hb) (fun hAb => hs.1 B hB b hAb hb)
  refine ⟨hos.trans h.os, ht.trans h.tape, hout.trans h.output, fun B hB => ?_, fun B hB b hb => ?_, List.pairwise_cons.2 ⟨fun B hB b hb hB' => ?_, hs.2⟩⟩
  · rcases List.mem_cons.1 hB with rfl | hB
    · exact hA
    · exact B.loc _ _ (fun b hb => (hkeep B hB b hb).symm) (h.ok B (List.mem_cons_of_mem _ hB))
  · rcases List.mem_cons.1 hB with rfl | hB
    · exact hlt b hb
    · exact Nat.lt_of_lt_of_le (h.lt B (List.mem_cons_of_mem _ hB) b hb) hsz
  · rcases hfp b hb with hA' | hge
    · exact hs.1 B hB b hA' hB'
    · exact absurd (h.lt B (List.mem_cons_of_mem _ hB) b hB') (by omega)

/-- The walk: from what is still to be done, the frame comes to its end. -/
def GoesOn (P : Program) (f : FuncId) (R : Ending → World → Prop) (k : List Item) (a : Act) (w : World) : Prop :=
  ∀ cs, ∃ e w' fr, R e w' ∧ Comes P (lone (({ (default : Frame) with fn := f, kind := .normal } : Frame).at a k) cs w) (lone fr cs w') e ∧ fr.fn = f ∧ fr.leaving P w' e

theorem GoesOn.head {P f R k k' a a' w w'} (h : ∀ (b : Frame) cs, step P (lone (b.at a k) cs w) = .next (lone (b.at a' k') cs w')) (hg : GoesOn P f R k' a' w') : GoesOn P f R k a w :=
  fun cs => let ⟨e, w2, fr, r, c, x⟩ := hg cs; ⟨e, w2, fr, r, .of_steps (.one (h _ cs)) c, x⟩

/-- What a region, or any other piece, leaves. -/
def Next (P : Program) (f : FuncId) (R : Ending → World → Prop) (k : List Item) : Exit → Act → World → Prop
  | .normal, a, w => GoesOn P f R k a w
  | .panic chain, a, w => a.defers = [] ∧ (∃ fn, P.funcs[f]? = some fn) ∧ R (.panicked chain) w
  | _, _, _ => False

theorem GoesOn.of_wp {P f R k a w} {c : Code} (h : c.wp P (Next P f R k) a w) : GoesOn P f R (.code c :: k) a w := by
  intro cs
  obtain ⟨e, a', w', hq, harr⟩ := h { (default : Frame) with fn := f, kind := .normal } k cs
  cases e with
  | normal =>
    obtain ⟨en, w2, fr, r, c, x⟩ := hq cs
    exact ⟨en, w2, fr, r, .of_steps harr c, x⟩
  | panic chain =>
    obtain ⟨hd, ⟨fn, hf⟩, hR⟩ := hq
    obtain ⟨todo, hs⟩ := harr
    exact ⟨.panicked chain, w', _, hR, hs, rfl, rfl, hd, fn, hf⟩
  | exit id => exact hq.elim
  | goto l => exact hq.elim
  | ret => exact hq.elim
  | outgrown => exact hq.elim

/-- What the function ends with: an ending, and what is told of the heap then. -/
abbrev Post := Ending → List Atom → Prop
def RK (w0 : World) (K : Post) (en : Ending) (w : World) : Prop := ∃ F, K en F ∧ Holds w0 F w

/-- The rest of a body. -/
def G (P : Program) (f : FuncId) (w0 : World) (K : Post) (n : Nat) (d : List Deferred) (k : List Item) (e : Env) (F : List Atom) : Prop :=
  ∀ a w, Knows n d e a → Holds w0 F w → GoesOn P f (RK w0 K) k a w

/-- Operations, one behind the other. -/
def wpL (P : Program) (ops : Array Oper) (Q : Exit → Act → World → Prop) : List Oper → Act → World → Prop
  | [], a, w => Q .normal a w
  | o :: rest, a, w => if Region.wanted o (yielded ops a.tmps) then o.wp P a w (wpL P ops Q rest) Q else wpL P ops Q rest (a.put o.dst undef) w

theorem wpOps_of_wpL {P : Program} {ops : Array Oper} {Q : Exit → Act → World → Prop} : ∀ (l : List Nat) (os : List Oper), l.map (fun i => ops[i]?) = os.map some → ∀ a w, wpL P ops Q os a w → wpOps P ops Q l a w
  | [], [], _, a, w, h => h
  | [], _ :: _, hl, _, _, _ => by simp at hl
  | _ :: _, [], hl, _, _, _ => by simp at hl
  | i :: l, o :: os, hl, a, w, h => by
    simp only [List.map_cons, List.cons.injEq] at hl
    simp only [wpOps, hl.1]
    simp only [wpL] at h
    split
    · rename_i hw
      simp only [hw, if_true] at h
      exact .inl (Oper.wp_mono (fun a w => wpOps_of_wpL l os hl.2 a w) h)
    · rename_i hw
      simp only [hw] at h
      exact wpOps_of_wpL l os hl.2 _ _ h

theorem wp_region_L {P : Program} {id : Nat} {ops : Array Oper} {Q : Exit → Act → World → Prop} {a : Act} {w : World} (h : wpL P ops Q ops.toList a w) : (Code.region id ops false).wp P Q a w :=
  wp_region (wpOps_of_wpL _ ops.toList (by
    apply List.ext_getElem?
    intro i
    simp only [List.getElem?_map, List.getElem?_range, Array.getElem?_toList]
    by_cases hi : i < ops.size
    · simp [hi]
    · simp [hi, Array.getElem?_eq_none (Nat.le_of_not_lt hi)]) a w h)

def GL (P : Program) (f : FuncId) (w0 : World) (K : Post) (n : Nat) (d : List Deferred) (ops : Array Oper) (rest : List Oper) (k : List Item) (e : Env) (F : List Atom) : Prop :=
  ∀ a w, Knows n d e a → Holds w0 F w → wpL P ops (Next P f (RK w0 K) k) rest a w

section rules
variable {P : Program} {f : FuncId} {w0 : World} {K : Post} {n : Nat} {d : List Deferred} {k : List Item} {e : Env} {F : List Atom}

theorem g_seq {x y : Code} (h : G P f w0 K n d (.code x :: .code y :: k) e F) : G P f w0 K n d (.code (.seq x y) :: k) e F :=
  fun a w ha hw => .head (fun b cs => step_seq) (h a w ha hw)
theorem g_skip (h : G P f w0 K n d k e F) : G P f w0 K n d (.code .skip :: k) e F :=
  fun a w ha hw => .head (fun b cs => step_skip) (h a w ha hw)
theorem g_label {l : Nat} (h : G P f w0 K n d k e F) : G P f w0 K n d (.code (.label l) :: k) e F :=
  fun a w ha hw => .head (fun b cs => step_label) (h a w ha hw)
theorem g_cond {c : Operand} {x y : Code} {b : Bool} (hc : evO e c = some (.bool b)) (ht : b = true → G P f w0 K n d (.code x :: k) e F) (hf : b = false → G P f w0 K n d (.code y :: k) e F) :
    G P f w0 K n d (.code (.cond c x y) :: k) e F := by
  intro a w ha hw
  cases b with
  | true => exact .head (fun b cs => step_cond (ha.ev hc)) (ht rfl a w ha hw)
  | false => exact .head (fun b cs => step_cond (ha.ev hc)) (hf rfl a w ha hw)
theorem g_cond_t {c : Operand} {x y : Code} (hc : evO e c = some (.bool true)) (ht : G P f w0 K n d (.code x :: k) e F) : G P f w0 K n d (.code (.cond c x y) :: k) e F :=
  g_cond hc (fun _ => ht) (fun h => by cases h)
theorem g_cond_f {c : Operand} {x y : Code} (hc : evO e c = some (.bool false)) (hf : G P f w0 K n d (.code y :: k) e F) : G P f w0 K n d (.code (.cond c x y) :: k) e F :=
  g_cond hc (fun h => by cases h) (fun _ => hf)
theorem g_block {id : Nat} {c : Code} (h : G P f w0 K n d (.code c :: .inBlock id :: k) e F) : G P f w0 K n d (.code (.block id c) :: k) e F :=
  fun a w ha hw => .head (fun b cs => step_block) (h a w ha hw)
theorem g_inBlock {id : Nat} (h : G P f w0 K n d k e F) : G P f w0 K n d (.inBlock id :: k) e F :=
  fun a w ha hw => .head (fun b cs => step_inBlock) (h a w ha hw)
theorem g_exit {id : Nat} {k' : List Item} (hk : exitTo id k = some k') (h : G P f w0 K n d k' e F) : G P f w0 K n d (.code (.exit id) :: k) e F :=
  fun a w ha hw => .head (fun b cs => step_exit hk) (h a w ha hw)
theorem g_region {id : Nat} {ops : Array Oper} (h : GL P f w0 K n d ops ops.toList k e F) : G P f w0 K n d (.code (.region id ops false) :: k) e F :=
  fun a w ha hw => .of_wp (wp_region_L (h a w ha hw))
theorem g_sub {e' : Env} (hs : Sub e e') (h : G P f w0 K n d k e' F) : G P f w0 K n d k e F :=
  fun a w ha hw => h a w (ha.sub hs.le) hw
theorem g_heap {F' : List Atom} (hF : ∀ w, Holds w0 F w → Holds w0 F' w) (h : G P f w0 K n d k e F') : G P f w0 K n d k e F :=
  fun a w ha hw => h a w ha (hF w hw)
theorem gl_heap {ops rest} {F' : List Atom} (hF : ∀ w, Holds w0 F w → Holds w0 F' w) (h : GL P f w0 K n d ops rest k e F') : GL P f w0 K n d ops rest k e F :=
  fun a w ha hw => h a w ha (hF w hw)
/-- A loop: by a measure over what its head's states are told by. -/
theorem g_loop {X : Type} {c : Code} (I : X → Prop) (μ : X → Nat) (E : X → Env) (H : X → List Atom) (x0 : X) (h0 : I x0) (hE : Sub e (E x0)) (hF : ∀ w, Holds w0 F w → Holds w0 (H x0) w)
    (round : ∀ x, I x → (∀ y, I y → μ y < μ x → G P f w0 K n d (.inLoop c :: k) (E y) (H y)) → G P f w0 K n d (.code c :: .inLoop c :: k) (E x) (H x)) : G P f w0 K n d (.code (.loop c) :: k) e F := by
  have key : ∀ m x, I x → μ x = m → G P f w0 K n d (.code c :: .inLoop c :: k) (E x) (H x) := by
    intro m
    induction m using Nat.strongRecOn with
    | _ m ih =>
      intro x hi hx
      refine round x hi (fun y hiy hy a w ha hw => ?_)
      exact .head (fun b cs => step_inLoop) (ih (μ y) (hx ▸ hy) y hiy rfl a w ha hw)
  exact fun a w ha hw => .head (fun b cs => step_loop) (key _ x0 h0 rfl a w (ha.sub hE.le) (hF w hw))
end rules
end Go.Proofs.Ytecibldbnekgbaa.Fw
