import Derived.Test.YtecibldbnekgbaaFwR
namespace Go.Proofs.Ytecibldbnekgbaa.Fw
open Go
set_option linter.unusedVariables false
set_option linter.unusedSimpArgs false
set_option linter.unusedSectionVars false

/- Parts as one. -/
def Star (A B : Atom) : Atom where
  fp b := A.fp b ∨ B.fp b
  ok h := A.ok h ∧ B.ok h ∧ ∀ b, A.fp b → ¬ B.fp b
  loc h h' hh ho := ⟨A.loc h h' (fun b hb => hh b (.inl hb)) ho.1, B.loc h h' (fun b hb => hh b (.inr hb)) ho.2.1, ho.2.2⟩
theorem Star.out {w0 : World} {F : List Atom} {w : World} {A B : Atom} (h : Holds w0 (Star A B :: F) w) : Holds w0 (A :: B :: F) w := h.split (fun ho => ho) (fun b hb => hb)
theorem Star.mk {w0 : World} {F : List Atom} {w : World} {A B : Atom} (h : Holds w0 (A :: B :: F) w) : Holds w0 (Star A B :: F) w := h.join (fun a b c => ⟨a, b, c⟩) (fun b hb => hb)
def Quad (A B C D : Atom) : Atom := Star A (Star B (Star C D))
theorem Quad.out {w0 : World} {F : List Atom} {w : World} {A B C D : Atom} (h : Holds w0 (Quad A B C D :: F) w) : Holds w0 (A :: B :: C :: D :: F) w := by
  have h1 : Holds w0 (Star B (Star C D) :: A :: F) w := (Star.out h).perm (.swap ..)
  have h2 : Holds w0 (Star C D :: B :: A :: F) w := (Star.out h1).perm (.swap ..)
  have h3 : Holds w0 (C :: D :: B :: A :: F) w := Star.out h2
  exact h3.perm (((List.perm_append_comm (l₁ := [C, D]) (l₂ := [B, A])).append_right F).trans ((List.Perm.swap A B [C, D]).append_right F))
theorem Quad.mk {w0 : World} {F : List Atom} {w : World} {A B C D : Atom} (h : Holds w0 (A :: B :: C :: D :: F) w) : Holds w0 (Quad A B C D :: F) w := by
  have h1 : Holds w0 (C :: D :: B :: A :: F) w := h.perm (((List.Perm.swap A B [C, D]).append_right F).symm.trans ((List.perm_append_comm (l₁ := [C, D]) (l₂ := [B, A])).append_right F).symm)
  have h2 : Holds w0 (B :: Star C D :: A :: F) w := (Star.mk h1).perm (.swap ..)
  have h3 : Holds w0 (A :: Star B (Star C D) :: F) w := (Star.mk h2).perm (.swap ..)
  exact Star.mk h3
section
variable {P : Program} {f : FuncId} {w0 : World} {K : Post} {n : Nat} {d : List Deferred} {ops : Array Oper} {rest : List Oper} {k : List Item} {e : Env} {F : List Atom}
theorem does_append_fam {P : Program} {w0 : World} {e : Env} {F : List Atom} {ty : TypeId} {pos : String} {aft : Array Edge} {t x y T E sz by_ m m2 m3 inf z v u} {Z news : List Value} {vs : List (Value × Nat)} {F1 : Value → List Atom} (i : Nat) (hT : P.underlying T = some (.slice E)) (hi : P.info? E = some inf) (hz : inf.zero = some z) (hsz : inf.size = sz) (hby : inf.bytes = by_) (hzs : z.cells.size = sz) (hpos : Nat.blt 0 sz = true)
    (hx : evO e x = some v) (hy : evO e y = some u) (hF : getO F i = some (Fam E sz Z vs)) (hm : (v, m) ∈ vs) (hu : Reads w0 F u m2 sz news) (hm2 : 0 < m2) (h1 : news.all scalar = true) (hZ : ∀ j, j < news.length → news[j]? = Z[m * sz + j]?) (hZl : (m + m2) * sz ≤ Z.length) (hb : (m + m2) * by_ ≤ 140737488355328) (h63 : m + m2 ≤ maxLen) (hm3 : m + m2 = m3)
    (hset : ∀ v', setO F i (Fam E sz Z ((v', m3) :: vs)) = some (F1 v')) :
    Does P w0 (.mk (some t) (.call ⟨.builtin .append, #[x, y], #[T, T]⟩) ty pos aft none) e F (fun v' F2 => ∃ a c, v' = .slice a m3 c ∧ (m3 = 0 ∨ ∃ g, a = some ⟨g, 0, none⟩) ∧ F2 = F1 v') := by
  subst hm3
  intro ρ w ha hw
  have hpos' : 0 < sz := Nat.le_of_ble_eq_true hpos
  have hargs : (#[x, y] : Array Operand).map ρ = [v, u].toArray := kn_args (xs := [x, y]) ha (by simp [evL, hx, hy])
  rcases hu.2 with ⟨b, o, cap, rfl, hrow⟩ | ⟨rfl, h0⟩
  · obtain ⟨l', h1', _⟩ := perm_set (a' := Fam E sz Z vs) (getO_eq hF)
    obtain ⟨v', w', hr, hw'⟩ := run_fam_append (P := P) (ty := ty) (c := cap) (a := ⟨b, o, none⟩) hT hi hz hsz hby hzs hpos' (hw.perm h1') hm hu.1 hm2 (fun j u hj => by rw [add_none]; exact hrow w hw j u hj) h1 hZ hZl hb h63
    obtain ⟨l2, h2, h3⟩ := perm_set (a' := Fam E sz Z ((v', m + m2) :: vs)) (getO_eq hF)
    have he := (setO_eq (hset v')).2
    have hlt : i < F.length := (List.getElem?_eq_some_iff.1 (getO_eq hF)).1
    have hw2 : Holds w0 (F.set i (Fam E sz Z ((v', m + m2) :: vs))) w' := (hw'.perm ((((h1'.symm.trans h2).cons_inv).cons _))).perm h3.symm
    obtain ⟨a, c, rfl, hac, _, _⟩ := fam_slice (List.mem_set hlt _) (List.mem_cons_self ..) w' hw2
    refine .inl ⟨_, w', F1 _, .inl (run_builtin ρ hargs (by simp only [builtin]; exact run_value hr)), ?_, a, c, rfl, hac, rfl⟩
    rw [he]
    exact hw2
  · omega
theorem c_take {P : Program} {f : FuncId} {args : List Value} {w0 : World} {K : Post} {F : List Atom} (B : Atom) {F'} [h : Takes F B F'] (hk : CallK P f args w0 (B :: F') K) : CallK P f args w0 F K := fun w hw => hk w (hw.perm h.perm)
theorem g_star {A B : Atom} (hk : G P f w0 K n d k e (A :: B :: F)) : G P f w0 K n d k e (Star A B :: F) := g_heap (fun w hw => Star.out hw) hk
theorem g_unstar {A B : Atom} (hk : G P f w0 K n d k e (Star A B :: F)) : G P f w0 K n d k e (A :: B :: F) := g_heap (fun w hw => Star.mk hw) hk
theorem l_star {A B : Atom} (hk : GL P f w0 K n d ops rest k e (A :: B :: F)) : GL P f w0 K n d ops rest k e (Star A B :: F) := gl_heap (fun w hw => Star.out hw) hk
theorem l_unstar {A B : Atom} (hk : GL P f w0 K n d ops rest k e (Star A B :: F)) : GL P f w0 K n d ops rest k e (A :: B :: F) := gl_heap (fun w hw => Star.mk hw) hk
theorem g_quad {A B C D : Atom} (hk : G P f w0 K n d k e (A :: B :: C :: D :: F)) : G P f w0 K n d k e (Quad A B C D :: F) := g_heap (fun w hw => Quad.out hw) hk
theorem g_unquad {A B C D : Atom} (hk : G P f w0 K n d k e (Quad A B C D :: F)) : G P f w0 K n d k e (A :: B :: C :: D :: F) := g_heap (fun w hw => Quad.mk hw) hk
theorem l_quad {A B C D : Atom} (hk : GL P f w0 K n d ops rest k e (A :: B :: C :: D :: F)) : GL P f w0 K n d ops rest k e (Quad A B C D :: F) := gl_heap (fun w hw => Quad.out hw) hk
theorem l_unquad {A B C D : Atom} (hk : GL P f w0 K n d ops rest k e (Quad A B C D :: F)) : GL P f w0 K n d ops rest k e (A :: B :: C :: D :: F) := gl_heap (fun w hw => Quad.mk hw) hk
end
section
variable {P : Program} {f : FuncId} {w0 : World} {K : Post} {n : Nat} {d : List Deferred} {ops : Array Oper} {rest : List Oper} {k : List Item} {e : Env} {F : List Atom}
theorem g_unroll {c : Code} (h : G P f w0 K n d (.code c :: .inLoop c :: k) e F) : G P f w0 K n d (.code (.loop c) :: k) e F := fun a w ha hw => .head (fun b cs => step_loop) (h a w ha hw)
theorem g_more {c : Code} (h : G P f w0 K n d (.code c :: .inLoop c :: k) e F) : G P f w0 K n d (.inLoop c :: k) e F := fun a w ha hw => .head (fun b cs => step_inLoop) (h a w ha hw)
theorem g_join {X : Type} {c c1 c2 : Code} (B : Env) (hB : Sub e B) (I : X → Prop) (E : X → Env) (H : X → List Atom) (rest : ∀ x, I x → G P f w0 K n d (.code c2 :: k) (E x ++ B) (H x))
    (now : (∀ x, I x → G P f w0 K n d (.code c2 :: k) (E x ++ B) (H x)) → G P f w0 K n d (.code c :: .code (.seq c1 c2) :: k) e F) : G P f w0 K n d (.code c :: .code (.seq c1 c2) :: k) e F := now rest
theorem g_join0 {X : Type} {i1 i2 : Item} (B : Env) (hB : Sub e B) (I : X → Prop) (E : X → Env) (H : X → List Atom) (rest : ∀ x, I x → G P f w0 K n d k (E x ++ B) (H x)) (now : (∀ x, I x → G P f w0 K n d k (E x ++ B) (H x)) → G P f w0 K n d (i1 :: i2 :: k) e F) : G P f w0 K n d (i1 :: i2 :: k) e F := now rest
/-- A fact that is not looked at. -/
structure Hid (p : Prop) : Prop where
  out : p
end
end Go.Proofs.Ytecibldbnekgbaa.Fw
