import Derived.Test.YthemlddepepekaaFair0
namespace Go.Proofs.Ythemlddepepekaa.Fw
open Go Go.Proofs
set_option linter.unusedVariables false
set_option linter.unusedSimpArgs false
set_option maxRecDepth 10000

/- Rows of chains and of counts. -/
def kat (KL : List Kw) (i : Nat) : Kw := KL.getD i k0
def knV (k : Kw) : List Value := [.pointer (some ⟨k.b, 0, none⟩), .slice k.la k.L.length k.lc, .int .i64 k.h, .bool k.q, .int .i64 k.p]
def knR (KL : List Kw) : List Value := (KL.map knV).flatten
theorem kn_len (KL : List Kw) : ∀ r ∈ KL.map knV, r.length = 5 := by
  intro r hr
  obtain ⟨o, _, rfl⟩ := List.mem_map.1 hr
  rfl
theorem kn_at {KL : List Kw} {i : Nat} (h : i < KL.length) : (KL.map knV)[i]? = some (knV (kat KL i)) := by simp [kat, h]
theorem knR_len (KL : List Kw) : (knR KL).length = KL.length * 5 := by
  have := flat_len (rows := KL.map knV) (sz := 5) (fun r hr => kn_len KL r hr)
  simpa [knR] using this
theorem knR_get {KL : List Kw} {j q : Nat} (hj : j < KL.length) (hq : q < 5) : (knR KL)[j * 5 + q]? = (knV (kat KL j))[q]? := flat_get (rows := KL.map knV) (fun r hr => kn_len KL r hr) j q (knV (kat KL j)) (kn_at hj) hq
theorem kat_set {KL : List Kw} {i j : Nat} {x : Kw} (h : i < KL.length) : kat (KL.set i x) j = if j = i then x else kat KL j := by
  unfold kat
  simp only [List.getD_eq_getElem?_getD, List.getElem?_set]
  by_cases e : i = j
  · subst e; simp [h]
  · simp [e, show ¬ j = i from fun x => e x.symm]
theorem kat_upd {KL : List Kw} {i : Nat} {x : Kw} (h : i < KL.length) : kat (KL.set i x) = upd (kat KL) i x := by
  funext j
  rw [kat_set h]; rfl
theorem kn_cell {w0 : World} {F : List Atom} {g n cap E : Nat} {KL : List Kw} [h : OwnIn F g E 5 n cap (knR KL)] {j : Nat} (hj : j < KL.length) (q : Nat) {v : Value} (hv : (knV (kat KL j))[q]? = some v) : CellAt w0 F g (0 + j * 5 + q) v :=
  (row_elem (rows := KL.map knV) (.own h.mem) (kn_len KL) (kn_at hj)).cell hv
theorem kn_row {w0 : World} {F : List Atom} {g n cap E : Nat} {KL : List Kw} [h : OwnIn F g E 5 n cap (knR KL)] {j : Nat} (hj : j < KL.length) : RowAt w0 F g (0 + j * 5) (knV (kat KL j)) :=
  row_elem (rows := KL.map knV) (.own h.mem) (kn_len KL) (kn_at hj)
theorem flat_set {α : Type} (f : α → List Value) (sz : Nat) (hf : ∀ a, (f a).length = sz) : ∀ (L : List α) (i q : Nat) (u : Value) (x d : α), i < L.length → q < sz → (f (L.getD i d)).set q u = f x → (L.map f).flatten.set (i * sz + q) u = ((L.set i x).map f).flatten
  | [], i, q, u, x, d, h, _, _ => by simp at h
  | a :: L, 0, q, u, x, d, _, hq, he => by
    simp only [List.map_cons, List.flatten_cons, List.set_cons_zero, Nat.zero_mul, Nat.zero_add]
    have : (a :: L).getD 0 d = a := rfl
    rw [this] at he
    rw [List.set_append_left _ _ (by rw [hf]; exact hq), he]
  | a :: L, i + 1, q, u, x, d, h, hq, he => by
    simp only [List.map_cons, List.flatten_cons, List.set_cons_succ]
    have ih := flat_set f sz hf L i q u x d (by simpa using h) hq (by simpa using he)
    rw [List.set_append_right _ _ (by rw [hf, Nat.add_mul]; omega), hf, show (i + 1) * sz + q - sz = i * sz + q by rw [Nat.add_mul]; omega, ih]
theorem knR_set {KL : List Kw} {i q : Nat} {u : Value} (x : Kw) (hi : i < KL.length) (hq : q < 5) (he : (knV (kat KL i)).set q u = knV x) : (knR KL).set (0 + i * 5 + q) u = knR (KL.set i x) := by
  rw [Nat.zero_add]; exact flat_set knV 5 (fun _ => rfl) KL i q u x k0 hi hq he
theorem knR_same {KL : List Kw} {i : Nat} (x : Kw) (hi : i < KL.length) (he : knV (kat KL i) = knV x) : knR KL = knR (KL.set i x) := by
  unfold knR
  congr 1
  apply List.ext_getElem?
  intro j
  rw [List.getElem?_map, List.getElem?_map, List.getElem?_set]
  by_cases e : i = j
  · subst e
    rw [if_pos rfl, if_pos hi]
    have : KL[i]? = some (kat KL i) := by simp [kat, hi]
    rw [this, Option.map_some, Option.map_some, he]
  · rw [if_neg e]
abbrev QS := List (Int × Int)
def qat (Q : QS) (r : Nat) : Int × Int := Q.getD r (0, 0)
def qV (p : Int × Int) : List Value := [.int .i64 p.1, .int .i64 p.2]
def qR (Q : QS) : List Value := (Q.map qV).flatten
theorem qv_len (Q : QS) : ∀ r ∈ Q.map qV, r.length = 2 := by
  intro r hr
  obtain ⟨o, _, rfl⟩ := List.mem_map.1 hr
  rfl
theorem qv_at {Q : QS} {i : Nat} (h : i < Q.length) : (Q.map qV)[i]? = some (qV (qat Q i)) := by simp [qat, h]
theorem qR_len (Q : QS) : (qR Q).length = Q.length * 2 := by
  have := flat_len (rows := Q.map qV) (sz := 2) (fun r hr => qv_len Q r hr)
  simpa [qR] using this
theorem qv_cell {w0 : World} {F : List Atom} {g n cap E : Nat} {Q : QS} [h : OwnIn F g E 2 n cap (qR Q)] {j : Nat} (hj : j < Q.length) (q : Nat) {v : Value} (hv : (qV (qat Q j))[q]? = some v) : CellAt w0 F g (0 + j * 2 + q) v :=
  (row_elem (rows := Q.map qV) (.own h.mem) (qv_len Q) (qv_at hj)).cell hv
theorem qR_set {Q : QS} {i q : Nat} {u : Value} (x : Int × Int) (hi : i < Q.length) (hq : q < 2) (he : (qV (qat Q i)).set q u = qV x) : (qR Q).set (0 + i * 2 + q) u = qR (Q.set i x) := by
  rw [Nat.zero_add]; exact flat_set qV 2 (fun _ => rfl) Q i q u x (0, 0) hi hq he
theorem qat_set {Q : QS} {i j : Nat} {x : Int × Int} (h : i < Q.length) : qat (Q.set i x) j = if j = i then x else qat Q j := by
  unfold qat
  simp only [List.getD_eq_getElem?_getD, List.getElem?_set]
  by_cases e : i = j
  · subst e; simp [h]
  · simp [e, show ¬ j = i from fun x => e x.symm]
def aQ (Q : QS) : Nat → Int := fun r => (qat Q r).1
def gQ (Q : QS) : Nat → Int := fun r => (qat Q r).2
theorem aQ_ask {Q : QS} {r : Nat} (h : r < Q.length) : aQ (Q.set r (aQ Q r + 1, gQ Q r)) = upd (aQ Q) r (aQ Q r + 1) := by
  funext j; unfold aQ upd; rw [qat_set h]; by_cases e : j = r <;> simp [e]
theorem gQ_ask {Q : QS} {r : Nat} {x : Int} (h : r < Q.length) : gQ (Q.set r (x, gQ Q r)) = gQ Q := by
  funext j; unfold gQ; rw [qat_set h]; by_cases e : j = r <;> simp [e]
theorem gQ_free {Q : QS} {r : Nat} (h : r < Q.length) : gQ (Q.set r (aQ Q r, gQ Q r + 1)) = upd (gQ Q) r (gQ Q r + 1) := by
  funext j; unfold gQ upd; rw [qat_set h]; by_cases e : j = r <;> simp [e]
theorem aQ_free {Q : QS} {r : Nat} {x : Int} (h : r < Q.length) : aQ (Q.set r (aQ Q r, x)) = aQ Q := by
  funext j; unfold aQ; rw [qat_set h]; by_cases e : j = r <;> simp [e]
/-- What one that moves finds. -/
structure LocM (k : Kw) (Q : QS) (W : List Int) : Prop where
  ok : ChOk k.L.length k.h k.q k.T.length
  len : k.L.length ≤ 4
  rr : ∀ j : Nat, j < k.L.length → ∃ r : Nat, r < 5 ∧ k.L.getD j 0 = 2 * (r : Int)
  lb : I64s k.L
  ql : Q.length = 5
  wl : W.length = 16
  wa : ∀ r : Nat, r < 5 → W.getD (2 * r) 0 = aQ Q r % M32 ∧ W.getD (2 * r + 1) 0 = gQ Q r % M32
  bd : ∀ r : Nat, r < 5 → 0 ≤ gQ Q r ∧ gQ Q r ≤ aQ Q r ∧ aQ Q r ≤ gQ Q r + 100 ∧ aQ Q r ≤ 9223372036854775806
  wt : ∀ r : Nat, r < 5 → k.h < k.L.length → k.L.getD k.h.toNat 0 = 2 * (r : Int) → k.q = true → k.T.getD k.h.toNat 0 = k.p % M32 ∧ gQ Q r ≤ k.p ∧ k.p < aQ Q r
  bk : ∀ r : Nat, r < 5 → 0 < k.h → k.L.getD (k.h - 1).toNat 0 = 2 * (r : Int) → k.q = false → k.T.getD (k.h - 1).toNat 0 = gQ Q r % M32 ∧ gQ Q r < aQ Q r
theorem LocM.in2 {k : Kw} {Q : QS} {W : List Int} (H : LocM k Q W) {r : Nat} (hr : r < 5) : inR 16 (2 * (r : Int)) 2 ∧ nx W (2 * (r : Int)) = aQ Q r % M32 ∧ tn W (2 * (r : Int)) = gQ Q r % M32 := by
  refine ⟨by unfold inR; omega, ?_, ?_⟩
  · unfold nx; rw [show (2 * (r : Int)).toNat = 2 * r by omega]; exact (H.wa r hr).1
  · unfold tn; rw [show (2 * (r : Int) + 1).toNat = 2 * r + 1 by omega]; exact (H.wa r hr).2
def KId (k k2 : Kw) : Prop := k2.b = k.b ∧ k2.al = k.al ∧ k2.cl = k.cl ∧ k2.la = k.la ∧ k2.lc = k.lc ∧ k2.L = k.L
def MovR (k : Kw) (Q : QS) (W : List Int) (k2 : Kw) (Q2 : QS) (W2 : List Int) : Prop := KId k k2 ∧ ((k2.h = k.h ∧ k2.q = k.q ∧ k2.p = k.p ∧ k2.T = k.T ∧ Q2 = Q ∧ W2 = W ∧ (k.h = k.L.length ∨ (k.q = true ∧ ∀ r, Wait k r → k.p ≠ gQ Q r))) ∨
  (∃ r : Nat, r < 5 ∧ k.q = false ∧ k.h < k.L.length ∧ k.L.getD k.h.toNat 0 = 2 * (r : Int) ∧ k2.h = k.h ∧ k2.q = true ∧ k2.p = aQ Q r ∧ k2.T = k.T ++ [aQ Q r % M32] ∧ Q2 = Q.set r (aQ Q r + 1, gQ Q r) ∧ W2 = W.set (2 * r) ((aQ Q r + 1) % M32)) ∨
  (∃ r : Nat, r < 5 ∧ Wait k r ∧ k.p = gQ Q r ∧ k2.h = k.h + 1 ∧ k2.q = false ∧ k2.T = k.T ∧ Q2 = Q ∧ W2 = W))
def GivR (k : Kw) (Q : QS) (W : List Int) (k2 : Kw) (Q2 : QS) (W2 : List Int) : Prop := KId k k2 ∧ ((k2.h = k.h ∧ k2.q = k.q ∧ k2.p = k.p ∧ k2.T = k.T ∧ Q2 = Q ∧ W2 = W) ∨
  (∃ r : Nat, r < 5 ∧ k.q = false ∧ 0 < k.h ∧ k.L.getD (k.h - 1).toNat 0 = 2 * (r : Int) ∧ k2.h = k.h - 1 ∧ k2.q = false ∧ k2.T = k.T.take (k.h - 1).toNat ∧ Q2 = Q.set r (aQ Q r, gQ Q r + 1) ∧ W2 = W.set (2 * r + 1) ((gQ Q r + 1) % M32)))
/-- What a step does, as the counts say. -/
def StepM (k : Kw) (Q : QS) (W : List Int) (d : Bool) (W2 : List Int) (h2 : Int) (q2 : Bool) (T2 : List Int) (r : Nat) : Prop := (k.q = false ∧ d = true ∧ W2 = W.set (2 * r) ((aQ Q r + 1) % M32) ∧ h2 = k.h ∧ q2 = true ∧ T2 = k.T ++ [aQ Q r % M32]) ∨
       (k.q = true ∧ k.p = gQ Q r ∧ d = true ∧ W2 = W ∧ h2 = k.h + 1 ∧ q2 = false ∧ T2 = k.T) ∨ (k.q = true ∧ k.p ≠ gQ Q r ∧ d = false ∧ W2 = W ∧ h2 = k.h ∧ q2 = k.q ∧ T2 = k.T)
def StepF (k : Kw) (Q : QS) (W : List Int) (d : Bool) (W2 : List Int) (h2 : Int) (q2 : Bool) (T2 : List Int) : Prop := (k.h = k.L.length ∧ d = false ∧ W2 = W ∧ h2 = k.h ∧ q2 = k.q ∧ T2 = k.T) ∨ ∃ r : Nat, r < 5 ∧ k.h < k.L.length ∧ k.L.getD k.h.toNat 0 = 2 * (r : Int) ∧ StepM k Q W d W2 h2 q2 T2 r
def BackF (k : Kw) (Q : QS) (W : List Int) (d : Bool) (e : Int) (W2 : List Int) (h2 : Int) (q2 : Bool) (T2 : List Int) : Prop :=
    (k.q = true ∧ d = false ∧ e = 170 ∧ W2 = W ∧ h2 = k.h ∧ q2 = k.q ∧ T2 = k.T) ∨ (k.q = false ∧ k.h = 0 ∧ d = true ∧ e = 0 ∧ W2 = W ∧ h2 = k.h ∧ q2 = k.q ∧ T2 = k.T) ∨
    (k.q = false ∧ 0 < k.h ∧ e = 0 ∧ d = decide (k.h - 1 = 0) ∧ h2 = k.h - 1 ∧ q2 = k.q ∧ T2 = k.T.take (k.h - 1).toNat ∧ ∃ r : Nat, r < 5 ∧ k.L.getD (k.h - 1).toNat 0 = 2 * (r : Int) ∧ W2 = W.set (2 * r + 1) ((gQ Q r + 1) % M32))
section
variable {k : Kw} {Q : QS} {W W2 T2 : List Int} {d q2 : Bool} {e h2 : Int} {r : Nat}
theorem StepF.fin (H : StepF k Q W d W2 h2 q2 T2) (h : k.h = k.L.length) : d = false ∧ W2 = W ∧ h2 = k.h ∧ q2 = k.q ∧ T2 = k.T := by
  rcases H with ⟨_, H⟩ | ⟨r, _, h1, _⟩
  · exact H
  · omega
theorem StepF.mid (H : StepF k Q W d W2 h2 q2 T2) (h : k.h ≠ k.L.length) : ∃ r : Nat, r < 5 ∧ k.h < k.L.length ∧ k.L.getD k.h.toNat 0 = 2 * (r : Int) ∧ StepM k Q W d W2 h2 q2 T2 r := by
  rcases H with ⟨h1, _⟩ | H
  · exact absurd h1 h
  · exact H
theorem StepM.ask (H : StepM k Q W d W2 h2 q2 T2 r) (h : k.q = false) : d = true ∧ W2 = W.set (2 * r) ((aQ Q r + 1) % M32) ∧ h2 = k.h ∧ q2 = true ∧ T2 = k.T ++ [aQ Q r % M32] := by
  rcases H with ⟨_, H⟩ | ⟨h1, _⟩ | ⟨h1, _⟩
  · exact H
  · rw [h] at h1; cases h1
  · rw [h] at h1; cases h1
theorem StepM.got (H : StepM k Q W d W2 h2 q2 T2 r) (h : k.q = true) (hp : k.p = gQ Q r) : d = true ∧ W2 = W ∧ h2 = k.h + 1 ∧ q2 = false ∧ T2 = k.T := by
  rcases H with ⟨h1, _⟩ | ⟨_, _, H⟩ | ⟨_, h1, _⟩
  · rw [h] at h1; cases h1
  · exact H
  · exact absurd hp h1
theorem StepM.no (H : StepM k Q W d W2 h2 q2 T2 r) (h : k.q = true) (hp : k.p ≠ gQ Q r) : d = false ∧ W2 = W ∧ h2 = k.h ∧ q2 = k.q ∧ T2 = k.T := by
  rcases H with ⟨h1, _⟩ | ⟨_, h1, _⟩ | ⟨_, _, H⟩
  · rw [h] at h1; cases h1
  · exact absurd h1 hp
  · exact H
theorem BackF.asked (H : BackF k Q W d e W2 h2 q2 T2) (h : k.q = true) : d = false ∧ e = 170 ∧ W2 = W ∧ h2 = k.h ∧ q2 = k.q ∧ T2 = k.T := by
  rcases H with ⟨_, H⟩ | ⟨h1, _⟩ | ⟨h1, _⟩
  · exact H
  · rw [h] at h1; cases h1
  · rw [h] at h1; cases h1
theorem BackF.none (H : BackF k Q W d e W2 h2 q2 T2) (h : k.q = false) (h0 : k.h ≤ 0) : k.h = 0 ∧ d = true ∧ e = 0 ∧ W2 = W ∧ h2 = k.h ∧ q2 = k.q ∧ T2 = k.T := by
  rcases H with ⟨h1, _⟩ | ⟨_, H⟩ | ⟨_, h1, _⟩
  · rw [h] at h1; cases h1
  · exact H
  · omega
theorem BackF.free (H : BackF k Q W d e W2 h2 q2 T2) (h : k.q = false) (h0 : 0 < k.h) : e = 0 ∧ d = decide (k.h - 1 = 0) ∧ h2 = k.h - 1 ∧ q2 = k.q ∧ T2 = k.T.take (k.h - 1).toNat ∧ ∃ r : Nat, r < 5 ∧ k.L.getD (k.h - 1).toNat 0 = 2 * (r : Int) ∧ W2 = W.set (2 * r + 1) ((gQ Q r + 1) % M32) := by
  rcases H with ⟨h1, _⟩ | ⟨_, h1, _⟩ | ⟨_, _, H⟩
  · rw [h] at h1; cases h1
  · omega
  · exact H
end
/-- A step, as the counts say. -/
theorem step_fair {k : Kw} {Q : QS} {W W2 T2 : List Int} {d q2 : Bool} {e h2 : Int} (H : LocM k Q W) (hS : StepG 16 W k.L k.h k.q k.T d e W2 h2 q2 T2) :
    e = 0 ∧ StepF k Q W d W2 h2 q2 T2 := by
  obtain ⟨o0, o1, o2, o3⟩ := H.ok
  rcases hS with ⟨a1, a2, a3, a4, a5, a6, a7⟩ | ⟨a1, a2, a3, a4, a5, a6⟩ | ⟨a1, a2, a3, kk, a4, a5⟩
  · exact ⟨a3, .inl ⟨a1, a2, a4, a5, a6, a7⟩⟩
  · obtain ⟨r, hr, hLr⟩ := H.rr k.h.toNat (by omega)
    obtain ⟨i1, i2, i3⟩ := H.in2 hr
    have hw := H.wt r hr (by omega) hLr a2
    have hb := H.bd r hr
    rw [hLr] at a5
    rcases a5 with ⟨_, a5, _⟩ | ⟨a5, _, a7⟩
    · exact absurd i1 a5
    · refine ⟨a5, .inr ⟨r, hr, by omega, hLr, .inr ?_⟩⟩
      rw [hw.1, i3] at a7
      unfold M32 at a7
      by_cases hp : k.p = gQ Q r
      · rw [hp, decide_eq_true rfl] at a7
        rcases a6 with ⟨_, a8, a9⟩ | ⟨a6, _⟩
        · exact .inl ⟨a2, hp, a7, a3, a8, a9, a4⟩
        · rw [a7] at a6; cases a6
      · rw [decide_eq_false (by omega)] at a7
        rcases a6 with ⟨a6, _⟩ | ⟨_, a8, a9⟩
        · rw [a7] at a6; cases a6
        · exact .inr ⟨a2, hp, a7, a3, a8, a9, a4⟩
  · obtain ⟨r, hr, hLr⟩ := H.rr k.h.toNat (by omega)
    obtain ⟨i1, i2, i3⟩ := H.in2 hr
    have hb := H.bd r hr
    rw [hLr] at a4
    rcases a4 with ⟨_, a6, _⟩ | ⟨_, _, a6, _⟩ | ⟨b1, b2, b3, b4, b5⟩
    · exact absurd i1 a6
    · rw [i2, i3] at a6
      unfold M32 at a6
      omega
    · rcases a5 with ⟨c1, c2, c3, c4⟩ | ⟨c1, _⟩
      · refine ⟨b1, .inr ⟨r, hr, by omega, hLr, .inl ⟨a2, c2, ?_, a3, c3, ?_⟩⟩⟩
        · rw [b5, i2, show (2 * (r : Int)).toNat = 2 * r by omega]
          congr 1
          unfold M32
          omega
        · rw [c4, b4, i2]
      · exact absurd b1 c1
theorem back_fair {k : Kw} {Q : QS} {W W2 T2 : List Int} {d q2 : Bool} {e h2 : Int} (H : LocM k Q W) (hS : BackG 16 W k.L k.h k.q k.T d e W2 h2 q2 T2) :
    BackF k Q W d e W2 h2 q2 T2 := by
  obtain ⟨o0, o1, o2, o3⟩ := H.ok
  obtain ⟨e1, hS⟩ := hS
  rcases hS with ⟨a1, a2, a3, a4, a5, a6⟩ | ⟨a1, a2, a3, a4, a5, a6, a7⟩ | ⟨a1, a2, a3, a4⟩
  · exact .inl ⟨a1, a2, a3, a4, a5, e1, a6⟩
  · exact .inr (.inl ⟨a1, a2, a3, a4, a5, a6, e1, a7⟩)
  · obtain ⟨r, hr, hLr⟩ := H.rr (k.h - 1).toNat (by omega)
    obtain ⟨i1, i2, i3⟩ := H.in2 hr
    have hw := H.bk r hr (by omega) hLr a1
    have hb := H.bd r hr
    rw [hLr, hw.1] at a3
    rcases a3 with ⟨_, a6, _⟩ | ⟨_, _, a6, _⟩ | ⟨b1, b2, b3, b4, b5⟩
    · exact absurd i1 a6
    · rw [i2, i3] at a6
      unfold M32 at a6
      rcases a6 with a6 | a6
      · omega
      · exact absurd rfl a6
    · rcases a4 with ⟨c1, _⟩ | ⟨c1, c2, c3, c4⟩
      · exact absurd b1 c1
      · refine .inr (.inr ⟨a1, by omega, c1, c2, c3, e1, c4, r, hr, hLr, ?_⟩)
        rw [b5, i3, show (2 * (r : Int) + 1).toNat = 2 * r + 1 by omega]
        congr 1
        unfold M32
        omega
theorem FInv.congr {N : Nat} {K K2 : Nat → Kw} {A G : Nat → Int} {W : List Int} (H : FInv N K A G W) (h : ∀ j, (K2 j).L = (K j).L ∧ (K2 j).h = (K j).h ∧ (K2 j).q = (K j).q ∧ (K2 j).p = (K j).p ∧ (K2 j).T = (K j).T) : FInv N K2 A G W := by
  have eH : ∀ j r, Hold (K2 j) r ↔ Hold (K j) r := fun j r => by unfold Hold; rw [(h j).1, (h j).2.1]
  have eW : ∀ j r, Wait (K2 j) r ↔ Wait (K j) r := fun j r => by unfold Wait; rw [(h j).1, (h j).2.1, (h j).2.2.1]
  refine ⟨?_, H.wl, H.wa, H.ge, ?_, ?_, ?_, ?_, ?_, ?_⟩
  · intro i hi
    obtain ⟨h1, h2, h3, h4⟩ := H.kok i hi
    obtain ⟨e1, e2, e3, e4, e5⟩ := h i
    exact ⟨by rw [e1, e2, e3, e5]; exact h1, by rw [e1]; exact h2, by rw [e1]; exact h3, by rw [e1]; exact h4⟩
  · intro i hi j r
    obtain ⟨e1, e2, e3, e4, e5⟩ := h i
    rw [e1, e2, e5]; exact H.g1 i hi j r
  · intro i hi r hw
    obtain ⟨e1, e2, e3, e4, e5⟩ := h i
    rw [e5, e2, e4]; exact H.g2 i hi r ((eW i r).1 hw)
  · intro i j r hi hj h1 h2; exact H.hh i j r hi hj ((eH i r).1 h1) ((eH j r).1 h2)
  · intro i j r hi hj h1 h2 h3
    rw [(h i).2.2.2.1, (h j).2.2.2.1] at h3
    exact H.ww i j r hi hj ((eW i r).1 h1) ((eW j r).1 h2) h3
  · intro i j r hi hj h1 h2
    rw [(h j).2.2.2.1]; exact H.hw i j r hi hj ((eH i r).1 h1) ((eW j r).1 h2)
  · intro r hr p h1 h2
    rcases H.su r hr p h1 h2 with ⟨i, hi, h3, h4⟩ | ⟨i, hi, h3, h4⟩
    · exact .inl ⟨i, hi, (eH i r).2 h3, h4⟩
    · exact .inr ⟨i, hi, (eW i r).2 h3, by rw [(h i).2.2.2.1]; exact h4⟩
theorem FInv.rlt {N : Nat} {K : Nat → Kw} {A G : Nat → Int} {W : List Int} (H : FInv N K A G W) {i j r : Nat} (hi : i < N) (hj : j < (K i).L.length) (e : (K i).L.getD j 0 = 2 * (r : Int)) : r < 4 := by
  obtain ⟨s, hs, e2⟩ := (H.kok i hi).ev j hj
  omega
theorem FInv.moved {N i : Nat} {KL : List Kw} {Q Q2 : QS} {W W2 : List Int} {k2 : Kw} (H : FInv N (kat KL) (aQ Q) (gQ Q) W) (hN : KL.length = N) (hi : i < N) (hQ : Q.length = 5) (hM : MovR (kat KL i) Q W k2 Q2 W2) : FInv N (kat (KL.set i k2)) (aQ Q2) (gQ Q2) W2 := by
  obtain ⟨⟨i1, i2, i3, i4, i5, i6⟩, hM⟩ := hM
  rw [kat_upd (by omega)]
  rcases hM with ⟨a1, a2, a3, a4, rfl, rfl, _⟩ | ⟨r, hr, a1, a2, a3, a4, a5, a6, a7, rfl, rfl⟩ | ⟨r, hr, a1, a2, a3, a4, a5, rfl, rfl⟩
  · refine H.congr fun j => ?_
    by_cases e : j = i
    · subst e; rw [upd_eq]; exact ⟨i6, a1, a2, a3, a4⟩
    · rw [upd_ne e]; exact ⟨rfl, rfl, rfl, rfl, rfl⟩
  · have hok := (H.kok i hi).ok.1
    have h4 := H.rlt hi (show (kat KL i).h.toNat < (kat KL i).L.length by omega) a3
    rw [aQ_ask (by omega), gQ_ask (by omega)]
    exact H.ask hi a1 a2 h4 a3 k2 i6 a4 a5 a6 a7
  · exact H.got hi a1 a2 k2 i6 a3 a4 a5
theorem FInv.given {N i : Nat} {KL : List Kw} {Q Q2 : QS} {W W2 : List Int} {k2 : Kw} (H : FInv N (kat KL) (aQ Q) (gQ Q) W) (hN : KL.length = N) (hi : i < N) (hQ : Q.length = 5) (hM : GivR (kat KL i) Q W k2 Q2 W2) : FInv N (kat (KL.set i k2)) (aQ Q2) (gQ Q2) W2 := by
  obtain ⟨⟨i1, i2, i3, i4, i5, i6⟩, hM⟩ := hM
  rw [kat_upd (by omega)]
  rcases hM with ⟨a1, a2, a3, a4, rfl, rfl⟩ | ⟨r, hr, a1, a2, a3, a4, a5, a6, rfl, rfl⟩
  · refine H.congr fun j => ?_
    by_cases e : j = i
    · subst e; rw [upd_eq]; exact ⟨i6, a1, a2, a3, a4⟩
    · rw [upd_ne e]; exact ⟨rfl, rfl, rfl, rfl, rfl⟩
  · have hok := (H.kok i hi).ok.2.1
    have h4 := H.rlt hi (show ((kat KL i).h - 1).toNat < (kat KL i).L.length by omega) a3
    rw [aQ_free (by omega), gQ_free (by omega)]
    exact H.free hi a1 a2 h4 a3 k2 i6 a4 a5 a6
/-- What one finds, by the counts of all. -/
theorem FInv.loc {N i : Nat} {KL : List Kw} {Q : QS} {W : List Int} (H : FInv N (kat KL) (aQ Q) (gQ Q) W) (hi : i < N) (hN5 : N ≤ 5) (hQ : Q.length = 5) (h4 : aQ Q 4 ≤ gQ Q 4 + 100) (hb : ∀ r, r < 5 → aQ Q r ≤ 9223372036854775806) (hlb : I64s (kat KL i).L) : LocM (kat KL i) Q W := by
  have hk := H.kok i hi
  obtain ⟨o0, o1, o2, o3⟩ := hk.ok
  refine ⟨hk.ok, hk.len, fun j hj => ?_, hlb, hQ, H.wl, H.wa, fun r hr => ?_, ?_, ?_⟩
  · obtain ⟨r, hr, e⟩ := hk.ev j hj
    exact ⟨r, by omega, e⟩
  · have := H.ge r hr
    refine ⟨this.1, this.2, ?_, hb r hr⟩
    by_cases e : r = 4
    · subst e; exact h4
    · have := H.cnt (r := r) (by omega)
      omega
  · intro r hr hh hLr hq
    exact H.g2 i hi r ⟨hq, hLr⟩
  · intro r hr hh hLr hq
    exact H.g1 i hi ((kat KL i).h - 1).toNat r (by omega) hLr

end Go.Proofs.Ythemlddepepekaa.Fw
