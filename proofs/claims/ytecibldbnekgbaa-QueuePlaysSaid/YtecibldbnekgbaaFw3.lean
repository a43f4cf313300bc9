import Derived.Test.YtecibldbnekgbaaFw2
namespace Go.Proofs.Ytecibldbnekgbaa.Fw
open Go
set_option linter.unusedVariables false
set_option linter.unusedSimpArgs false

/- Lists whose turned form is written out by evaluation. -/
def setO {α : Type} : List α → Nat → α → Option (List α)
  | [], _, _ => none
  | _ :: l, 0, v => some (v :: l)
  | a :: l, i + 1, v => match setO l i v with | none => none | some l' => some (a :: l')
def takeO {α : Type} : List α → Nat → Nat → Option (List α)
  | _, 0, 0 => some []
  | [], _, _ => none
  | a :: l, 0, m + 1 => match takeO l 0 m with | none => none | some l' => some (a :: l')
  | _ :: l, o + 1, m => takeO l o m
def setsO {α : Type} : List α → Nat → List α → Option (List α)
  | c, _, [] => some c
  | c, o, v :: vs => match setO c o v with | none => none | some c' => setsO c' (o + 1) vs
def frontO {α : Type} : List α → Nat → Option (α × List α)
  | [], _ => none
  | a :: l, 0 => some (a, l)
  | a :: l, i + 1 => match frontO l i with | none => none | some (b, l') => some (b, a :: l')
def getO {α : Type} : List α → Nat → Option α
  | [], _ => none
  | a :: _, 0 => some a
  | _ :: l, i + 1 => getO l i

theorem setO_eq {α : Type} : ∀ {l : List α} {i v l'}, setO l i v = some l' → i < l.length ∧ l' = l.set i v
  | [], _, _, _, h => by cases h
  | a :: l, 0, v, l', h => by simp only [setO, Option.some.injEq] at h; subst h; exact ⟨by simp, rfl⟩
  | a :: l, i + 1, v, l', h => by
    simp only [setO] at h
    split at h
    · cases h
    · rename_i l2 hl2
      have := setO_eq hl2
      cases h
      exact ⟨by simp; exact this.1, by simp [this.2]⟩
theorem setO_of {α : Type} {l : List α} {i v} (h : i < l.length) : setO l i v = some (l.set i v) := by
  induction l generalizing i with
  | nil => simp at h
  | cons a l ih =>
    cases i with
    | zero => rfl
    | succ i =>
      simp only [setO]
      rw [ih (by simpa using h)]
      rfl
theorem takeO_eq {α : Type} : ∀ {l : List α} {o m l'}, takeO l o m = some l' → l' = (l.drop o).take m ∧ l'.length = m
  | [], 0, 0, _, h => by simp [takeO] at h; simp [h]
  | [], 0, m + 1, _, h => by simp [takeO] at h
  | [], o + 1, m, _, h => by simp [takeO] at h
  | a :: l, 0, 0, _, h => by simp [takeO] at h; simp [h]
  | a :: l, 0, m + 1, l', h => by
    simp only [takeO] at h
    split at h
    · cases h
    · rename_i l2 hl2
      have := takeO_eq hl2
      cases h
      simp at this ⊢
      exact ⟨this.1, this.2⟩
  | a :: l, o + 1, m, l', h => by
    have := takeO_eq (l := l) (o := o) (m := m) (by simpa [takeO] using h)
    simpa using this
theorem takeO_of {α : Type} {c : List α} {o m : Nat} (h : o + m ≤ c.length) : takeO c o m = some ((c.drop o).take m) := by
  induction c generalizing o m with
  | nil => cases m <;> cases o <;> simp_all [takeO]
  | cons a c ih =>
    cases o with
    | zero =>
      cases m with
      | zero => rfl
      | succ m => simp only [takeO]; rw [ih (o := 0) (by simp at h ⊢; omega)]; simp
    | succ o => simp only [takeO]; rw [ih (by simp at h; omega)]; simp
theorem getO_eq {α : Type} : ∀ {l : List α} {i a}, getO l i = some a → l[i]? = some a
  | [], _, _, h => by cases h
  | a :: l, 0, _, h => by simp only [getO, Option.some.injEq] at h; subst h; rfl
  | a :: l, i + 1, _, h => by simpa using getO_eq (l := l) h
theorem frontO_perm {α : Type} : ∀ {l : List α} {i a l'}, frontO l i = some (a, l') → l.Perm (a :: l')
  | [], _, _, _, h => by cases h
  | a :: l, 0, _, _, h => by simp only [frontO, Option.some.injEq, Prod.mk.injEq] at h; obtain ⟨rfl, rfl⟩ := h; exact .refl _
  | a :: l, i + 1, b, l', h => by
    simp only [frontO] at h
    split at h
    · cases h
    · rename_i b2 l2 hl2
      have := frontO_perm hl2
      cases h
      exact (this.cons a).trans (.swap _ _ _)
theorem perm_set {α : Type} : ∀ {l : List α} {i a a'}, l[i]? = some a → ∃ l', l.Perm (a :: l') ∧ (l.set i a').Perm (a' :: l')
  | [], _, _, _, h => by simp at h
  | b :: l, 0, a, a', h => by simp at h; subst h; exact ⟨l, .refl _, .refl _⟩
  | b :: l, i + 1, a, a', h => by
    obtain ⟨l', h1, h2⟩ := perm_set (l := l) (i := i) (a := a) (a' := a') (by simpa using h)
    exact ⟨b :: l', (h1.cons b).trans (.swap _ _ _), (h2.cons b).trans (.swap _ _ _)⟩

/- Worlds. -/
theorem Holds.setBlk {w0 F w b o o' F'} {i : Nat} (h : Holds w0 F w) (hi : getO F i = some (Blk b o)) (hF : setO F i (Blk b o') = some F') {w' : World}
    (hos : w'.os = w.os) (ht : w'.tape = w.tape) (hout : w'.output = w.output) (hsz : w'.heap.size = w.heap.size)
    (hk : ∀ c, c ≠ b → w'.heap[c]? = w.heap[c]?) (hb : w'.heap[b]? = some o') : Holds w0 F' w' := by
  obtain ⟨l', h1, h2⟩ := perm_set (a' := Blk b o') (getO_eq hi)
  have hF' := (setO_eq hF).2
  subst hF'
  refine Holds.perm (Holds.turn (A' := Blk b o') (h.perm h1) hos ht hout (Nat.le_of_eq hsz.symm) (fun c _ hc => hk c hc) ?_ (fun c hc => .inl hc) ?_) h2.symm
  · exact hb
  · intro c hc
    simp only [Blk] at hc; subst hc
    rw [hsz]
    exact (h.perm h1).lt _ (List.mem_cons_self ..) c rfl
theorem heap_setCell (w : World) (b o : Nat) (u : Value) (c : Array Value) (E : TypeId) (fr : Nat × Nat) (h : w.heap[b]? = some (.cells c E fr)) :
    (w.setCell ⟨b, o, none⟩ u).heap[b]? = some (.cells (c.setIfInBounds o u) E fr) := by
  have hlt : b < w.heap.size := by
    rcases Nat.lt_or_ge b w.heap.size with h' | h'
    · exact h'
    · simp [Array.getElem?_eq_none h'] at h
  simp only [World.setCell, Array.getElem?_modify, if_true, h]
  rfl
theorem cell_of_has {w : World} {b o : Nat} {c : List Value} {E fr v} (hb : w.heap[b]? = some (.cells c.toArray E fr)) (hv : c[o]? = some v) : w.cell? ⟨b, o, none⟩ = some v := by
  simp [World.cell?, hb, hv]
def scalar : Value → Bool
  | .agg _ | .tuple _ => false
  | _ => true
theorem run_store1 {P : Program} {w : World} {b o : Nat} {c : List Value} {E : TypeId} {u v : Value} (hb : w.heap[b]? = some (.cells c.toArray E (0, 0))) (hv : c[o]? = some v) (hs : scalar u = true) (K : Sem Unit) :
    (Sem.store .plain ⟨b, o, none⟩ u K).run P w = K.run P (w.setCell ⟨b, o, none⟩ u) := by
  have hc := cell_of_has hb hv
  have hfz : w.frozen? ⟨b, o, none⟩ = false := by simp [World.frozen?, hb]
  cases u <;> first | (simp [scalar] at hs; done) | simp [Sem.run, hc, hfz]
theorem run_storeCells {P : Program} {b : Nat} {E : TypeId} : ∀ (vs : List Value) (i o : Nat) (c c' : List Value) (w : World), w.heap[b]? = some (.cells c.toArray E (0, 0)) → vs.all scalar = true → setsO c (o + i) vs = some c' →
    ∃ w', (storeCells ⟨b, o, none⟩ vs i).run P w = .ok () w' ∧ w'.heap[b]? = some (.cells c'.toArray E (0, 0)) ∧ w'.os = w.os ∧ w'.tape = w.tape ∧ w'.output = w.output ∧ w'.heap.size = w.heap.size ∧ ∀ x, x ≠ b → w'.heap[x]? = w.heap[x]?
  | [], i, o, c, c', w, hb, _, hs => by
    simp only [setsO, Option.some.injEq] at hs; subst hs
    exact ⟨w, rfl, hb, rfl, rfl, rfl, rfl, fun _ _ => rfl⟩
  | v :: vs, i, o, c, c', w, hb, ha, hs => by
    simp only [List.all_cons, Bool.and_eq_true] at ha
    simp only [setsO] at hs
    split at hs
    · cases hs
    · rename_i c1 hc1
      obtain ⟨hlt, rfl⟩ := setO_eq hc1
      have hb1 := heap_setCell w b (o + i) v _ E (0, 0) hb
      have hadd : Addr.add ⟨b, o, none⟩ i = ⟨b, o + i, none⟩ := by unfold Addr.add; split <;> simp_all
      obtain ⟨w', hr, h1, h2, h3, h4, h5, h6⟩ := run_storeCells (P := P) vs (i + 1) o (c.set (o + i) v) c' (w.setCell ⟨b, o + i, none⟩ v) (E := E) (by rw [hb1]; simp) ha.2 (by rw [← hs]; rfl)
      refine ⟨w', ?_, h1, h2.trans rfl, h3.trans rfl, h4.trans rfl, h5.trans (by simp [World.setCell]), fun x hx => (h6 x hx).trans (RowKit.Below.heap_setCell _ _ _ _ hx)⟩
      show (Sem.bind (store (Addr.add ⟨b, o, none⟩ i) v) fun _ => storeCells ⟨b, o, none⟩ vs (i + 1)).run P w = _
      rw [hadd]
      show (Sem.store .plain ⟨b, o + i, none⟩ v _).run P w = _
      rw [run_store1 hb (by rw [List.getElem?_eq_getElem hlt]) ha.1]
      exact hr
theorem run_loadCells {P : Program} {w : World} {b : Nat} {E : TypeId} {fr : Nat × Nat} {c : List Value} (hb : w.heap[b]? = some (.cells c.toArray E fr)) :
    ∀ (m i o : Nat) (acc : Array Value) (l : List Value), takeO c (o + i) m = some l → (loadCellsFrom ⟨b, o, none⟩ i m acc).run P w = .ok (acc ++ l.toArray) w
  | 0, i, o, acc, l, h => by
    have := takeO_eq h
    have : l = [] := List.length_eq_zero_iff.1 this.2
    subst this
    simp [loadCellsFrom, Sem.run, pure]
  | m + 1, i, o, acc, l, h => by
    obtain ⟨h1, h2⟩ := takeO_eq h
    have hadd : Addr.add ⟨b, o, none⟩ i = ⟨b, o + i, none⟩ := by unfold Addr.add; split <;> simp_all
    cases l with
    | nil => simp at h2
    | cons v l =>
      have hlen : o + i < c.length := by
        rcases Nat.lt_or_ge (o + i) c.length with h' | h'
        · exact h'
        · rw [List.drop_eq_nil_of_le h'] at h1; simp at h1
      rw [List.drop_eq_getElem_cons hlen, List.take_succ_cons] at h1
      injection h1 with hv hl
      have hc : w.cell? ⟨b, o + i, none⟩ = some v := cell_of_has hb (by rw [List.getElem?_eq_getElem hlen, hv])
      have ih := run_loadCells (P := P) hb m (i + 1) o (acc.push v) l (by
        rw [takeO_of (by
          have hl' := congrArg List.length hl
          simp at hl' h2
          omega), hl]; rfl)
      show (Sem.bind (load (Addr.add ⟨b, o, none⟩ i)) fun v => loadCellsFrom ⟨b, o, none⟩ (i + 1) m (acc.push v)).run P w = _
      rw [hadd]
      show (Sem.load .plain ⟨b, o + i, none⟩ _).run P w = _
      simp only [Sem.run, hc]
      refine Eq.trans ih ?_
      simp
theorem add_none (b o i : Nat) : Addr.add ⟨b, o, none⟩ i = ⟨b, o + i, none⟩ := by unfold Addr.add; split <;> simp_all

section ops
variable {P : Program} {f : FuncId} {w0 : World} {K : Post} {n : Nat} {d : List Deferred} {ops : Array Oper} {rest : List Oper} {k : List Item} {e : Env} {F : List Atom}
variable {ty : TypeId} {pos : String} {aft : Array Edge}

theorem g_front {A : Atom} {F'} (i : Nat) (h : frontO F i = some (A, F')) (hk : G P f w0 K n d k e (A :: F')) : G P f w0 K n d k e F := g_heap (fun w hw => hw.perm (frontO_perm h)) hk
theorem l_front {B : Atom} {F'} (i : Nat) (h : frontO F i = some (B, F')) (hk : GL P f w0 K n d ops rest k e (B :: F')) : GL P f w0 K n d ops rest k e F := gl_heap (fun w hw => hw.perm (frontO_perm h)) hk

theorem l_load {t x b o T v E fr} {c : List Value} (ht : Nat.ble (t + 1) n = true) (hA : ∀ w, (isAgg T).run P w = .ok false w) (hx : evO e x = some (.pointer (some ⟨b, o, none⟩)))
    (hb : Has w0 F b (.cells c.toArray E fr)) (hv : c[o]? = some v) (hk : GL P f w0 K n d ops rest k ((t, v) :: e) F) : GL P f w0 K n d ops (.mk (some t) (.load T x) ty pos aft none :: rest) k e F :=
  l_val ht (fun ρ w ha hw => by
    have hc := cell_of_has (hb w hw) hv
    simp [execOp, ha _ _ hx, Instr.loadAt, Instr.sureAddr, loadVar, hA, load, Sem.run, hc, go_sem]) hk
theorem l_loads {t x b o T sz E fr} {c l : List Value} (ht : Nat.ble (t + 1) n = true) (hA : ∀ w, (isAgg T).run P w = .ok true w) (hS : ∀ w, (sizeOf T).run P w = .ok sz w) (hx : evO e x = some (.pointer (some ⟨b, o, none⟩)))
    (hb : Has w0 F b (.cells c.toArray E fr)) (hv : takeO c o sz = some l) (hk : GL P f w0 K n d ops rest k ((t, .agg l.toArray) :: e) F) : GL P f w0 K n d ops (.mk (some t) (.load T x) ty pos aft none :: rest) k e F :=
  l_val ht (fun ρ w ha hw => by
    have hc := run_loadCells (P := P) (hb w hw) sz 0 o #[] l hv
    simp [execOp, ha _ _ hx, Instr.loadAt, Instr.sureAddr, loadVar, hA, hS, loadCells, hc, go_sem]) hk
theorem l_store {x y b o T v E F'} {c c' : List Value} (i : Nat) (hS : ∀ w, (sizeOf T).run P w = .ok 1 w) (hx : evO e x = some (.pointer (some ⟨b, o, none⟩))) (hy : evO e y = some v) (hs : scalar v = true)
    (hi : getO F i = some (Blk b (.cells c.toArray E (0, 0)))) (hc : setO c o v = some c') (hF : setO F i (Blk b (.cells c'.toArray E (0, 0))) = some F')
    (hk : GL P f w0 K n d ops rest k e F') : GL P f w0 K n d ops (.mk none (.store T x y) ty pos aft none :: rest) k e F :=
  l_none (fun ρ w ha hw => by
    have hb : w.heap[b]? = some (.cells c.toArray E (0, 0)) := hw.ok _ (List.mem_of_getElem? (getO_eq hi))
    have hcells : v.cells = #[v] := by cases v <;> simp_all [Value.cells, scalar]
    obtain ⟨w', hr, h1, h2, h3, h4, h5, h6⟩ := run_storeCells (P := P) [v] 0 o c c' w hb (by simp [hs]) (by simp [setsO, hc])
    refine ⟨undef, w', F', .inr ?_, hw.setBlk hi hF h2 h3 h4 h5 h6 h1, hk⟩
    simp only [execOp, ha _ _ hx, ha _ _ hy, Instr.storeAt, Instr.sureAddr, storeVar, hcells]
    simp only [List.size_toArray, List.length_cons, List.length_nil]
    simp [storeCells, go_sem] at hr
    simp [hS, hr, go_sem])
theorem l_stores {x y b o T sz E F'} {c c' l : List Value} (i : Nat) (hS : ∀ w, (sizeOf T).run P w = .ok sz w) (hx : evO e x = some (.pointer (some ⟨b, o, none⟩))) (hy : evO e y = some (.agg l.toArray)) (hl : l.length = sz) (hs : l.all scalar = true)
    (hi : getO F i = some (Blk b (.cells c.toArray E (0, 0)))) (hc : setsO c o l = some c') (hF : setO F i (Blk b (.cells c'.toArray E (0, 0))) = some F')
    (hk : GL P f w0 K n d ops rest k e F') : GL P f w0 K n d ops (.mk none (.store T x y) ty pos aft none :: rest) k e F :=
  l_none (fun ρ w ha hw => by
    have hb : w.heap[b]? = some (.cells c.toArray E (0, 0)) := hw.ok _ (List.mem_of_getElem? (getO_eq hi))
    obtain ⟨w', hr, h1, h2, h3, h4, h5, h6⟩ := run_storeCells (P := P) l 0 o c c' w hb hs hc
    refine ⟨undef, w', F', .inr ?_, hw.setBlk hi hF h2 h3 h4 h5 h6 h1, hk⟩
    subst hl
    simp only [execOp, ha _ _ hx, ha _ _ hy, Instr.storeAt, Instr.sureAddr, storeVar]
    simp [hS, hr, Value.cells, go_sem])
/-- A new block. -/
theorem l_new {t op E} {c : List Value} {v : Nat → Value} (ht : Nat.ble (t + 1) n = true)
    (h : ∀ ρ w, Kn e ρ → Holds w0 F w → (execOp ρ (.mk (some t) op ty pos aft none)).run P w = .ok (.value (v w.heap.size)) { w with heap := w.heap.push (.cells c.toArray E (0, 0)) })
    (hk : ∀ b, GL P f w0 K n d ops rest k ((t, v b) :: e) (Blk b (.cells c.toArray E (0, 0)) :: F)) : GL P f w0 K n d ops (.mk (some t) op ty pos aft none :: rest) k e F :=
  l_eff ht fun ρ w ha hw => ⟨_, _, _, h ρ w ha hw, hw.new _, hk _⟩
theorem l_box {t x T v} (ht : Nat.ble (t + 1) n = true) (hx : evO e x = some v) (hs : scalar v = true)
    (hk : ∀ b, GL P f w0 K n d ops rest k ((t, .pointer (some ⟨b, 0, none⟩)) :: e) (Blk b (.cells [v].toArray T (0, 0)) :: F)) : GL P f w0 K n d ops (.mk (some t) (.box T x) ty pos aft none :: rest) k e F :=
  l_new (v := fun b => .pointer (some ⟨b, 0, none⟩)) ht (fun ρ w ha hw => by
    have hcells : v.cells = #[v] := by cases v <;> simp_all [Value.cells, scalar]
    simp only [execOp, ha _ _ hx, Instr.box, newVar, newRow, hcells, newObj]
    rfl) hk
theorem l_boxs {t x T} {l : List Value} (ht : Nat.ble (t + 1) n = true) (hx : evO e x = some (.agg l.toArray))
    (hk : ∀ b, GL P f w0 K n d ops rest k ((t, .pointer (some ⟨b, 0, none⟩)) :: e) (Blk b (.cells l.toArray T (0, 0)) :: F)) : GL P f w0 K n d ops (.mk (some t) (.box T x) ty pos aft none :: rest) k e F :=
  l_new (v := fun b => .pointer (some ⟨b, 0, none⟩)) ht (fun ρ w ha hw => by
    simp only [execOp, ha _ _ hx, Instr.box, newVar, newRow, Value.cells, newObj]
    rfl) hk
theorem l_alloc {t T v} (ht : Nat.ble (t + 1) n = true) (hz : ∀ w, (zeroValue T).run P w = .ok v w) (hs : scalar v = true)
    (hk : ∀ b, GL P f w0 K n d ops rest k ((t, .pointer (some ⟨b, 0, none⟩)) :: e) (Blk b (.cells [v].toArray T (0, 0)) :: F)) : GL P f w0 K n d ops (.mk (some t) (.alloc T) ty pos aft none :: rest) k e F :=
  l_new (v := fun b => .pointer (some ⟨b, 0, none⟩)) ht (fun ρ w ha hw => by
    have hcells : v.cells = #[v] := by cases v <;> simp_all [Value.cells, scalar]
    simp only [execOp, Instr.alloc, newVar, newRow, newObj]
    simp [hz, Sem.run, go_sem]
    exact congrArg (fun c => w.alloc (.cells c T)) hcells) hk
theorem l_allocs {t T} {l : List Value} (ht : Nat.ble (t + 1) n = true) (hz : ∀ w, (zeroValue T).run P w = .ok (.agg l.toArray) w)
    (hk : ∀ b, GL P f w0 K n d ops rest k ((t, .pointer (some ⟨b, 0, none⟩)) :: e) (Blk b (.cells l.toArray T (0, 0)) :: F)) : GL P f w0 K n d ops (.mk (some t) (.alloc T) ty pos aft none :: rest) k e F :=
  l_new (v := fun b => .pointer (some ⟨b, 0, none⟩)) ht (fun ρ w ha hw => by
    simp only [execOp, Instr.alloc, newVar, newRow, newObj]
    simp [hz, Sem.run, go_sem]) hk
end ops
end Go.Proofs.Ytecibldbnekgbaa.Fw
