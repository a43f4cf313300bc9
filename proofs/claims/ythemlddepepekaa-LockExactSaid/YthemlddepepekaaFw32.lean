import Derived.Test.YthemlddepepekaaFw29
namespace Go.Proofs.Ythemlddepepekaa.Fw
open Go
set_option linter.unusedVariables false
set_option linter.unusedSimpArgs false
set_option linter.unusedSectionVars false

/- Parts as one. -/
def Star (A B : Atom) : Atom where
  fp b := A.fp b ∨ B.fp b
  ok h := A.ok h ∧ B.ok h ∧ ∀ b, A.fp b → ¬ B.fp b
  loc h h' hh ho := ⟨A.loc h h' (fun b hb => hh b (.inl hb)) ho.1, B.loc h h' (fun b hb => hh b (.inr hb)) ho.2.1, ho.2.2⟩
theorem Star.out {w0 : World} {F : List Atom} {w : World} {A B : Atom} (h : Holds w0 (Star A B :: F) w) : Holds w0 (A :: B :: F) w := h.split (fun ho => ho) (fun b hb => hb)
theorem Star.mk {w0 : World} {F : List Atom} {w : World} {A B : Atom} (h : Holds w0 (A :: B :: F) w) : Holds w0 (Star A B :: F) w := h.join (fun a b c => ⟨a, b, c⟩) (fun b hb => hb)
def Quad (A B C D : Atom) : Atom := Star A (Star B (Star C D))
theorem Quad.out {w0 : World} {F : List Atom} {w : World} {A B C D : Atom} (h : Holds w0 (Quad A B C D :: F) w) : Holds w0 (A :: B :: C :: D :: F) w := by
  have h1 : Holds w0 (Star B (Star C D) :: A :: F) w := (Star.out h).perm (.swap ..)
  have h2 : Holds w0 (Star C D :: B :: A :: F) w := (Star.out h1).perm (.swap ..)
  have h3 : Holds w0 (C :: D :: B :: A :: F) w := Star.out h2
  exact h3.perm (((List.perm_append_comm (l₁ := [C, D]) (l₂ := [B, A])).append_right F).trans ((List.Perm.swap A B [C, D]).append_right F))
theorem Quad.mk {w0 : World} {F : List Atom} {w : World} {A B C D : Atom} (h : Holds w0 (A :: B :: C :: D :: F) w) : Holds w0 (Quad A B C D :: F) w := by
  have h1 : Holds w0 (C :: D :: B :: A :: F) w := h.perm (((List.Perm.swap A B [C, D]).append_right F).symm.trans ((List.perm_append_comm (l₁ := [C, D]) (l₂ := [B, A])).append_right F).symm)
  have h2 : Holds w0 (B :: Star C D :: A :: F) w := (Star.mk h1).perm (.swap ..)
  have h3 : Holds w0 (A :: Star B (Star C D) :: F) w := (Star.mk h2).perm (.swap ..)
  exact Star.mk h3
theorem big_ok {w0 : World} {F : List Atom} {w : World} {N j : Nat} {A : Nat → Atom} (hm : BigF N A ∈ F) (hj : j < N) (hw : Holds w0 F w) : (A j).ok (hp w) := (hw.ok _ hm).1 j hj
theorem blk_cell {b o E : Nat} {c : List Value} {v : Value} {w : World} (h : (Blk b (.cells c.toArray E (0, 0))).ok (hp w)) (hv : c[o]? = some v) : w.cell? ⟨b, o, none⟩ = some v := cell_of_has h hv
theorem own_row {E sz b n cap : Nat} {xs : List Value} {w : World} (h : (Own E sz (.slice (some ⟨b, 0, none⟩) n cap) n xs).ok (hp w)) : ∀ (j : Nat) u, xs[j]? = some u → w.cell? ⟨b, 0 + j, none⟩ = some u := fun i u hu => by
  obtain ⟨h1, h2⟩ := h
  rcases h2 with ⟨h2, _⟩ | ⟨g, cap2, cur, hv, hg, h3, h4, h5, h6⟩
  · cases h2
  · cases hv
    rw [← h6, List.getElem?_take] at hu
    split at hu
    · rw [Nat.zero_add]
      exact cell_of_has hg hu
    · cases hu
/- Rows that are told by a number each. -/
def rowsN (N : Nat) (f : Nat → List Value) : List Value := ((List.range N).map f).flatten
theorem rowsN_snoc (N : Nat) (f : Nat → List Value) : rowsN (N + 1) f = rowsN N f ++ f N := by simp [rowsN, List.range_succ]
theorem rowsN_congr {N : Nat} {f g : Nat → List Value} (h : ∀ k, k < N → f k = g k) : rowsN N f = rowsN N g := by
  unfold rowsN
  congr 1
  exact List.map_congr_left fun k hk => h k (List.mem_range.1 hk)
theorem rowsN_len {sz : Nat} {f : Nat → List Value} : ∀ {N : Nat}, (∀ k, k < N → (f k).length = sz) → (rowsN N f).length = N * sz
  | 0, _ => by simp [rowsN]
  | N + 1, h => by
    rw [rowsN_snoc, List.length_append, rowsN_len fun k hk => h k (by omega), h N (by omega), Nat.add_mul, Nat.one_mul]
theorem rowsN_get {sz k j : Nat} {f : Nat → List Value} : ∀ {N : Nat}, (∀ q, q < N → (f q).length = sz) → k < N → j < sz → (rowsN N f)[k * sz + j]? = (f k)[j]?
  | 0, _, hk, _ => by omega
  | N + 1, h, hk, hj => by
    have hl := rowsN_len (sz := sz) (f := f) (N := N) fun q hq => h q (by omega)
    rw [rowsN_snoc]
    by_cases e : k = N
    · subst e
      rw [List.getElem?_append_right (by omega), hl]
      congr 1
      omega
    · have h1 : (k + 1) * sz ≤ N * sz := Nat.mul_le_mul_right _ (by omega)
      rw [Nat.add_mul, Nat.one_mul] at h1
      rw [List.getElem?_append_left (by omega)]
      exact rowsN_get (fun q hq => h q (by omega)) (by omega) hj
theorem rowsN_set {sz k j : Nat} {f : Nat → List Value} {v : Value} : ∀ {N : Nat}, (∀ q, q < N → (f q).length = sz) → k < N → j < sz → (rowsN N f).set (k * sz + j) v = rowsN N (fun q => if q = k then (f k).set j v else f q)
  | 0, _, hk, _ => by omega
  | N + 1, h, hk, hj => by
    have hl := rowsN_len (sz := sz) (f := f) (N := N) fun q hq => h q (by omega)
    rw [rowsN_snoc, rowsN_snoc, List.set_append, hl]
    by_cases e : k = N
    · subst e
      rw [if_neg (by omega), if_pos rfl, show k * sz + j - k * sz = j by omega]
      congr 1
      exact rowsN_congr fun q hq => by rw [if_neg (by omega)]
    · have h1 : (k + 1) * sz ≤ N * sz := Nat.mul_le_mul_right _ (by omega)
      rw [Nat.add_mul, Nat.one_mul] at h1
      rw [if_pos (by omega), if_neg (fun e2 => e e2.symm), rowsN_set (fun q hq => h q (by omega)) (by omega) hj]
theorem rn_cell {w0 : World} {F : List Atom} {g E sz m cap N k j : Nat} {f : Nat → List Value} {v : Value} (hm : Own E sz (.slice (some ⟨g, 0, none⟩) m cap) m (rowsN N f) ∈ F) (hf : ∀ q, q < N → (f q).length = sz) (hk : k < N) (hj : j < sz) (hv : (f k)[j]? = some v) : CellAt w0 F g (0 + k * sz + j) v := by
  have := (RowAt.own (w0 := w0) hm).cell (j := k * sz + j) (v := v) (by rw [rowsN_get hf hk hj]; exact hv)
  rw [show 0 + k * sz + j = 0 + (k * sz + j) by omega]
  exact this
theorem rn_row {w0 : World} {F : List Atom} {g E sz m cap N k : Nat} {f : Nat → List Value} (hm : Own E sz (.slice (some ⟨g, 0, none⟩) m cap) m (rowsN N f) ∈ F) (hf : ∀ q, q < N → (f q).length = sz) (hk : k < N) : RowAt w0 F g (0 + k * sz) (f k) := fun w hw j u hu =>
  rn_cell hm hf hk (by have h1 := (List.getElem?_eq_some_iff.1 hu).1; have h2 := hf k hk; omega) hu w hw
def upF {α : Type} (M : Nat → α) (i : Nat) (x : α) : Nat → α := fun k => if k = i then x else M k
theorem upF_at {α : Type} {M : Nat → α} {i : Nat} {x : α} : upF M i x i = x := if_pos rfl
theorem upF_ne {α : Type} {M : Nat → α} {i k : Nat} {x : α} (h : k ≠ i) : upF M i x k = M k := if_neg h
theorem rowsN_push {α : Type} {r : α → List Value} {K : Nat} {B : Nat → α} {x : α} : rowsN K (fun j => r (B j)) ++ r x = rowsN (K + 1) (fun j => r (upF B K x j)) := by
  rw [rowsN_snoc]
  simp only [upF_at]
  congr 1
  exact rowsN_congr fun k hk => by simp only [upF_ne (show k ≠ K by omega)]
section
variable {P : Program} {f : Fr} {w0 : World} {K : Post} {n : Nat} {d : List Deferred} {ops : Array Oper} {rest : List Oper} {k : List Item} {e : Env} {F : List Atom}
theorem does_append_fam {P : Program} {w0 : World} {e : Env} {F : List Atom} {ty : TypeId} {pos : String} {aft : Array Edge} {t x y T E sz by_ m m2 m3 inf z v u} {Z news : List Value} {vs : List (Value × Nat)} {F1 : Value → List Atom} (i : Nat) (hT : P.underlying T = some (.slice E)) (hi : P.info? E = some inf) (hz : inf.zero = some z) (hsz : inf.size = sz) (hby : inf.bytes = by_) (hzs : z.cells.size = sz) (hpos : Nat.blt 0 sz = true)
    (hx : evO e x = some v) (hy : evO e y = some u) (hF : getO F i = some (Fam E sz Z vs)) (hm : (v, m) ∈ vs) (hu : Reads w0 F u m2 sz news) (hm2 : 0 < m2) (h1 : news.all scalar = true) (hZ : ∀ j, j < news.length → news[j]? = Z[m * sz + j]?) (hZl : (m + m2) * sz ≤ Z.length) (hb : (m + m2) * by_ ≤ 140737488355328) (h63 : m + m2 ≤ maxLen) (hm3 : m + m2 = m3)
    (hset : ∀ v', setO F i (Fam E sz Z ((v', m3) :: vs)) = some (F1 v')) :
    Does P w0 (.mk (some t) (.call ⟨.builtin .append, #[x, y], #[T, T]⟩) ty pos aft none) e F (fun v' F2 => ∃ a c, v' = .slice a m3 c ∧ (m3 = 0 ∨ ∃ g, a = some ⟨g, 0, none⟩) ∧ F2 = F1 v') := by
  subst hm3
  intro ρ w ha hw
  have hpos' : 0 < sz := Nat.le_of_ble_eq_true hpos
  have hargs : (#[x, y] : Array Operand).map ρ = [v, u].toArray := kn_args (xs := [x, y]) ha (by simp [evL, hx, hy])
  rcases hu.2 with ⟨b, o, cap, rfl, hrow⟩ | ⟨rfl, h0⟩
  · obtain ⟨l', h1', _⟩ := perm_set (a' := Fam E sz Z vs) (getO_eq hF)
    obtain ⟨v', w', hr, hw'⟩ := run_fam_append (P := P) (ty := ty) (c := cap) (a := ⟨b, o, none⟩) hT hi hz hsz hby hzs hpos' (hw.perm h1') hm hu.1 hm2 (fun j u hj => by rw [add_none]; exact hrow w hw j u hj) h1 hZ hZl hb h63
    obtain ⟨l2, h2, h3⟩ := perm_set (a' := Fam E sz Z ((v', m + m2) :: vs)) (getO_eq hF)
    have he := (setO_eq (hset v')).2
    have hlt : i < F.length := (List.getElem?_eq_some_iff.1 (getO_eq hF)).1
    have hw2 : Holds w0 (F.set i (Fam E sz Z ((v', m + m2) :: vs))) w' := (hw'.perm ((((h1'.symm.trans h2).cons_inv).cons _))).perm h3.symm
    obtain ⟨a, c, rfl, hac, _, _⟩ := fam_slice (List.mem_set hlt _) (List.mem_cons_self ..) w' hw2
    refine .inl ⟨_, w', F1 _, .inl (run_builtin ρ hargs (by simp only [builtin]; exact run_value hr)), ?_, a, c, rfl, hac, rfl⟩
    rw [he]
    exact hw2
  · omega
theorem c_take {P : Program} {f : FuncId} {args : List Value} {w0 : World} {K : Post} {F : List Atom} (B : Atom) {F'} [h : Takes F B F'] (hk : CallK P f args w0 (B :: F') K) : CallK P f args w0 F K := fun w hw => hk w (hw.perm h.perm)
theorem g_take (B : Atom) {F'} [h : Takes F B F'] (hk : G P f w0 K n d k e (B :: F')) : G P f w0 K n d k e F := g_heap (fun w hw => hw.perm h.perm) hk
theorem l_take (B : Atom) {F'} [h : Takes F B F'] (hk : GL P f w0 K n d ops rest k e (B :: F')) : GL P f w0 K n d ops rest k e F := gl_heap (fun w hw => hw.perm h.perm) hk
theorem gp_take {D A : List Nat} (B : Atom) {F'} [h : Takes F B F'] (hk : GP P f w0 K n d ops k D A e (B :: F')) : GP P f w0 K n d ops k D A e F := fun hreg hac hPA hp => by
  intro X hX fuel listed a w h1 h2 h3 h4 hw
  exact hk hreg hac hPA (hp.perm h.perm) X hX fuel listed a w h1 h2 h3 h4 (hw.perm h.perm)
theorem g_star {A B : Atom} (hk : G P f w0 K n d k e (A :: B :: F)) : G P f w0 K n d k e (Star A B :: F) := g_heap (fun w hw => Star.out hw) hk
theorem g_unstar {A B : Atom} (hk : G P f w0 K n d k e (Star A B :: F)) : G P f w0 K n d k e (A :: B :: F) := g_heap (fun w hw => Star.mk hw) hk
theorem l_star {A B : Atom} (hk : GL P f w0 K n d ops rest k e (A :: B :: F)) : GL P f w0 K n d ops rest k e (Star A B :: F) := gl_heap (fun w hw => Star.out hw) hk
theorem l_unstar {A B : Atom} (hk : GL P f w0 K n d ops rest k e (Star A B :: F)) : GL P f w0 K n d ops rest k e (A :: B :: F) := gl_heap (fun w hw => Star.mk hw) hk
theorem g_quad {A B C D : Atom} (hk : G P f w0 K n d k e (A :: B :: C :: D :: F)) : G P f w0 K n d k e (Quad A B C D :: F) := g_heap (fun w hw => Quad.out hw) hk
theorem g_unquad {A B C D : Atom} (hk : G P f w0 K n d k e (Quad A B C D :: F)) : G P f w0 K n d k e (A :: B :: C :: D :: F) := g_heap (fun w hw => Quad.mk hw) hk
theorem l_quad {A B C D : Atom} (hk : GL P f w0 K n d ops rest k e (A :: B :: C :: D :: F)) : GL P f w0 K n d ops rest k e (Quad A B C D :: F) := gl_heap (fun w hw => Quad.out hw) hk
theorem l_unquad {A B C D : Atom} (hk : GL P f w0 K n d ops rest k e (Quad A B C D :: F)) : GL P f w0 K n d ops rest k e (A :: B :: C :: D :: F) := gl_heap (fun w hw => Quad.mk hw) hk
theorem l_snocb {N : Nat} {A : Nat → Atom} {B : Atom} (C : Nat → Atom) (hB : C N = B) (hC : ∀ k, k < N → C k = A k) (hk : GL P f w0 K n d ops rest k e (BigF (N + 1) C :: F)) : GL P f w0 K n d ops rest k e (B :: BigF N A :: F) := gl_heap (fun w hw => BigF.snoc hw hB hC) hk
theorem g_snocb {N : Nat} {A : Nat → Atom} {B : Atom} (C : Nat → Atom) (hB : C N = B) (hC : ∀ k, k < N → C k = A k) (hk : G P f w0 K n d k e (BigF (N + 1) C :: F)) : G P f w0 K n d k e (B :: BigF N A :: F) := g_heap (fun w hw => BigF.snoc hw hB hC) hk
theorem l_bigzero (A : Nat → Atom) (hk : GL P f w0 K n d ops rest k e (BigF 0 A :: F)) : GL P f w0 K n d ops rest k e F := gl_heap (fun w hw => BigF.zero hw A) hk
end
end Go.Proofs.Ythemlddepepekaa.Fw
