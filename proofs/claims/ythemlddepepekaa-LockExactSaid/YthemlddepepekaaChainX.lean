import Derived.Test.YthemlddepepekaaBase
namespace Go.Proofs.Ythemlddepepekaa.Fw
open Go Go.Proofs
set_option linter.unusedVariables false
set_option linter.unusedSimpArgs false
set_option maxRecDepth 10000
theorem fa_84_1 (a : Addr) (w : World) : (Instr.fieldAt 84 (.pointer (some a)) 1).run Try.prog w = .ok (.pointer (some (a.add 1))) w := by
  simp [Instr.fieldAt, Try.runUnderlying84, Instr.sureAddr, fieldPlace, Try.sizeOf3, Sem.run_bind, Sem.run_pure]
theorem fa_84_0 (a : Addr) (w : World) : (Instr.fieldAt 84 (.pointer (some a)) 0).run Try.prog w = .ok (.pointer (some (a.add 0))) w := by
  simp [Instr.fieldAt, Try.runUnderlying84, Instr.sureAddr, fieldPlace, Try.sizeOf23, Sem.run_bind, Sem.run_pure]
theorem fa_84_2 (a : Addr) (w : World) : (Instr.fieldAt 84 (.pointer (some a)) 2).run Try.prog w = .ok (.pointer (some (a.add 2))) w := by
  simp [Instr.fieldAt, Try.runUnderlying84, Instr.sureAddr, fieldPlace, Try.sizeOf4, Sem.run_bind, Sem.run_pure]
theorem fa_84_3 (a : Addr) (w : World) : (Instr.fieldAt 84 (.pointer (some a)) 3).run Try.prog w = .ok (.pointer (some (a.add 3))) w := by
  simp [Instr.fieldAt, Try.runUnderlying84, Instr.sureAddr, fieldPlace, Try.sizeOf38, Sem.run_bind, Sem.run_pure]
/- A chain: what its calls do. -/
theorem callk_fact {P : Program} {f : FuncId} {args : List Value} {w0 : World} {K : Post} {F : List Atom} {φ : Prop} (hφ : ∀ w, Holds w0 F w → φ) (h : φ → CallK P f args w0 F K) : CallK P f args w0 F K := fun w hw => h (hφ w hw) w hw
def W32s (W : List Int) : Prop := ∀ i, 0 ≤ W.getD i 0 ∧ W.getD i 0 ≤ 4294967295
def I64s (W : List Int) : Prop := ∀ i, -9223372036854775808 ≤ W.getD i 0 ∧ W.getD i 0 ≤ 9223372036854775807
def NextG (k h : Int) (nl : Nat) (q : Bool) : Prop := (k = 2 ∧ h = nl) ∨ (k = 1 ∧ h ≠ nl ∧ q = true) ∨ (k = 0 ∧ h ≠ nl ∧ q = false)
theorem NextG.k0 {k h : Int} {nl : Nat} {q : Bool} (H : NextG k h nl q) (hk : k = 0) : h ≠ nl ∧ q = false := by
  rcases H with ⟨h1, _⟩ | ⟨h1, _⟩ | ⟨_, h1⟩
  · omega
  · omega
  · exact h1
theorem NextG.k1 {k h : Int} {nl : Nat} {q : Bool} (H : NextG k h nl q) (hk : k = 1) : h ≠ nl ∧ q = true := by
  rcases H with ⟨h1, _⟩ | ⟨_, h1⟩ | ⟨h1, _⟩
  · omega
  · exact h1
  · omega
theorem NextG.k2 {k h : Int} {nl : Nat} {q : Bool} (H : NextG k h nl q) (h0 : k ≠ 0) (hk : k ≠ 1) : h = nl := by
  rcases H with ⟨_, h1⟩ | ⟨h1, _⟩ | ⟨h1, _⟩
  · exact h1
  · omega
  · omega
theorem NextG.all {k h : Int} {nl : Nat} {q : Bool} (H : NextG k h nl q) : decide (k = 2) = decide (h = nl) := by
  rcases H with ⟨h1, h2⟩ | ⟨h1, h2, _⟩ | ⟨h1, h2, _⟩ <;> simp [h1, h2]
/-- How far a chain is. -/
structure ChS where
  h : Int
  q : Bool
  T : List Int
def ChOk (nl : Nat) (h : Int) (q : Bool) (nt : Nat) : Prop := 0 ≤ h ∧ h ≤ nl ∧ (q = true → (nt : Int) = h + 1 ∧ h < nl) ∧ (q = false → (nt : Int) = h)
def StepG (n : Nat) (W L : List Int) (h : Int) (q : Bool) (T : List Int) (b : Bool) (e : Int) (W2 : List Int) (h2 : Int) (q2 : Bool) (T2 : List Int) : Prop :=
  (h = L.length ∧ b = false ∧ e = 0 ∧ W2 = W ∧ h2 = h ∧ q2 = q ∧ T2 = T) ∨
  (h ≠ L.length ∧ q = true ∧ W2 = W ∧ T2 = T ∧ MinG W n (L.getD h.toNat 0) (T.getD h.toNat 0) b e ∧ ((b = true ∧ h2 = h + 1 ∧ q2 = false) ∨ (b = false ∧ h2 = h ∧ q2 = q))) ∨
  (h ≠ L.length ∧ q = false ∧ h2 = h ∧ ∃ k, TakG W n (L.getD h.toNat 0) k e W2 ∧ ((e = 0 ∧ b = true ∧ q2 = true ∧ T2 = T ++ [k]) ∨ (e ≠ 0 ∧ b = false ∧ q2 = q ∧ T2 = T)))
def BackG (n : Nat) (W L : List Int) (h : Int) (q : Bool) (T : List Int) (b : Bool) (e : Int) (W2 : List Int) (h2 : Int) (q2 : Bool) (T2 : List Int) : Prop :=
  q2 = q ∧ ((q = true ∧ b = false ∧ e = 170 ∧ W2 = W ∧ h2 = h ∧ T2 = T) ∨ (q = false ∧ h = 0 ∧ b = true ∧ e = 0 ∧ W2 = W ∧ h2 = h ∧ T2 = T) ∨
  (q = false ∧ h ≠ 0 ∧ FreG W n (L.getD (h - 1).toNat 0) (T.getD (h - 1).toNat 0) e W2 ∧ ((e ≠ 0 ∧ b = false ∧ h2 = h ∧ T2 = T) ∨ (e = 0 ∧ b = decide (h - 1 = 0) ∧ h2 = h - 1 ∧ T2 = T.take (h - 1).toNat))))
theorem TakG.same {W : List Int} {n : Nat} {a k e k2 e2 : Int} {W2 W3 : List Int} (h1 : TakG W n a k e W2) (h2 : TakG W n a k2 e2 W3) : k = k2 ∧ e = e2 ∧ W2 = W3 := by
  rcases h1 with ⟨a1, b, c, d⟩ | ⟨a1, b, c, d, f⟩ | ⟨a1, b, c, d, f⟩ <;> rcases h2 with ⟨a2, b2, c2, d2⟩ | ⟨a2, b2, c2, d2, f2⟩ | ⟨a2, b2, c2, d2, f2⟩ <;> first | exact absurd b2 b | exact absurd b b2 | exact absurd c c2 | exact absurd c2 c | (subst_vars; exact ⟨rfl, rfl, rfl⟩)
theorem MinG.same {W : List Int} {n : Nat} {a t e e2 : Int} {b b2 : Bool} (h1 : MinG W n a t b e) (h2 : MinG W n a t b2 e2) : b = b2 ∧ e = e2 := by
  rcases h1 with ⟨a1, b1, c⟩ | ⟨a1, b1, c⟩ <;> rcases h2 with ⟨a2, b3, c2⟩ | ⟨a2, b3, c2⟩ <;> first | exact absurd b3 b1 | exact absurd b1 b3 | (subst_vars; exact ⟨rfl, rfl⟩)
theorem FreG.same {W : List Int} {n : Nat} {a t e e2 : Int} {W2 W3 : List Int} (h1 : FreG W n a t e W2) (h2 : FreG W n a t e2 W3) : e = e2 ∧ W2 = W3 := by
  rcases h1 with ⟨a1, b, c⟩ | ⟨a1, b, c, d⟩ | ⟨a1, b, c, d, f⟩ <;> rcases h2 with ⟨a2, b2, c2⟩ | ⟨a2, b2, c2, d2⟩ | ⟨a2, b2, c2, d2, f2⟩ <;> first | exact absurd b2 b | exact absurd b b2 | (exfalso; rcases c with c | c <;> first | exact absurd c c2 | exact absurd d2 c) | (exfalso; rcases c2 with c2 | c2 <;> first | exact absurd c2 c | exact absurd d c2) | (subst_vars; exact ⟨rfl, rfl⟩)
theorem StepG.same {n : Nat} {W L T : List Int} {h : Int} {q b b3 : Bool} {e e3 : Int} {W2 W3 T2 T3 : List Int} {h2 h3 : Int} {q2 q3 : Bool} (H1 : StepG n W L h q T b e W2 h2 q2 T2) (H2 : StepG n W L h q T b3 e3 W3 h3 q3 T3) : b = b3 ∧ e = e3 ∧ W2 = W3 ∧ h2 = h3 ∧ q2 = q3 ∧ T2 = T3 := by
  rcases H1 with ⟨a1, a2, a3, a4, a5, a6, a7⟩ | ⟨a1, a2, a3, a4, a5, a6⟩ | ⟨a1, a2, a3, k, a4, a5⟩ <;> rcases H2 with ⟨c1, c2, c3, c4, c5, c6, c7⟩ | ⟨c1, c2, c3, c4, c5, c6⟩ | ⟨c1, c2, c3, k2, c4, c5⟩
  · subst_vars; exact ⟨rfl, rfl, rfl, rfl, rfl, rfl⟩
  · exact absurd a1 c1
  · exact absurd a1 c1
  · exact absurd c1 a1
  · obtain ⟨rfl, rfl⟩ := a5.same c5
    rcases a6 with ⟨a6, a7, a8⟩ | ⟨a6, a7, a8⟩ <;> rcases c6 with ⟨c6, c7, c8⟩ | ⟨c6, c7, c8⟩
    · subst_vars; exact ⟨rfl, rfl, rfl, rfl, rfl, rfl⟩
    · rw [a6] at c6; cases c6
    · rw [a6] at c6; cases c6
    · exact ⟨rfl, rfl, a3.trans c3.symm, a7.trans c7.symm, a8.trans c8.symm, a4.trans c4.symm⟩
  · rw [a2] at c2; cases c2
  · exact absurd c1 a1
  · rw [a2] at c2; cases c2
  · obtain ⟨rfl, rfl, rfl⟩ := a4.same c4
    rcases a5 with ⟨a5, a6, a7, a8⟩ | ⟨a5, a6, a7, a8⟩ <;> rcases c5 with ⟨c5, c6, c7, c8⟩ | ⟨c5, c6, c7, c8⟩
    · exact ⟨a6.trans c6.symm, rfl, rfl, a3.trans c3.symm, a7.trans c7.symm, a8.trans c8.symm⟩
    · exact absurd a5 c5
    · exact absurd c5 a5
    · exact ⟨a6.trans c6.symm, rfl, rfl, a3.trans c3.symm, a7.trans c7.symm, a8.trans c8.symm⟩
theorem BackG.same {n : Nat} {W L T : List Int} {h : Int} {q b b3 : Bool} {e e3 : Int} {W2 W3 T2 T3 : List Int} {h2 h3 : Int} {q2 q3 : Bool} (H1 : BackG n W L h q T b e W2 h2 q2 T2) (H2 : BackG n W L h q T b3 e3 W3 h3 q3 T3) : b = b3 ∧ e = e3 ∧ W2 = W3 ∧ h2 = h3 ∧ q2 = q3 ∧ T2 = T3 := by
  obtain ⟨rfl, H1⟩ := H1
  obtain ⟨rfl, H2⟩ := H2
  rcases H1 with ⟨a1, a2, a3, a4, a5, a6⟩ | ⟨a1, a2, a3, a4, a5, a6, a7⟩ | ⟨a1, a2, a3, a4⟩ <;> rcases H2 with ⟨c1, c2, c3, c4, c5, c6⟩ | ⟨c1, c2, c3, c4, c5, c6, c7⟩ | ⟨c1, c2, c3, c4⟩
  · exact ⟨a2.trans c2.symm, a3.trans c3.symm, a4.trans c4.symm, a5.trans c5.symm, rfl, a6.trans c6.symm⟩
  · rw [a1] at c1; cases c1
  · rw [a1] at c1; cases c1
  · rw [a1] at c1; cases c1
  · exact ⟨a3.trans c3.symm, a4.trans c4.symm, a5.trans c5.symm, a6.trans c6.symm, rfl, a7.trans c7.symm⟩
  · exact absurd a2 c2
  · rw [a1] at c1; cases c1
  · exact absurd c2 a2
  · obtain ⟨rfl, rfl⟩ := a3.same c3
    rcases a4 with ⟨a5, a6, a7, a8⟩ | ⟨a5, a6, a7, a8⟩ <;> rcases c4 with ⟨c5, c6, c7, c8⟩ | ⟨c5, c6, c7, c8⟩
    · exact ⟨a6.trans c6.symm, rfl, rfl, a7.trans c7.symm, rfl, a8.trans c8.symm⟩
    · exact absurd c5 a5
    · exact absurd a5 c5
    · exact ⟨a6.trans c6.symm, rfl, rfl, a7.trans c7.symm, rfl, a8.trans c8.symm⟩
theorem ChOk.len {nl nt : Nat} {h : Int} {q : Bool} (H : ChOk nl h q nt) : nt ≤ nl + 1 := by
  obtain ⟨o0, o1, o2, o3⟩ := H
  cases q
  · have := o3 rfl; omega
  · have := o2 rfl; omega
theorem StepG.ok {n : Nat} {W L T : List Int} {h : Int} {q b : Bool} {e : Int} {W2 T2 : List Int} {h2 : Int} {q2 : Bool} (H : StepG n W L h q T b e W2 h2 q2 T2) (hc : ChOk L.length h q T.length) : ChOk L.length h2 q2 T2.length := by
  obtain ⟨o0, o1, o2, o3⟩ := hc
  rcases H with ⟨a1, a2, a3, a4, a5, a6, a7⟩ | ⟨a1, a2, a3, a4, a5, a6⟩ | ⟨a1, a2, a3, k, a4, a5⟩
  · subst_vars; exact ⟨o0, o1, o2, o3⟩
  · have := o2 a2
    rcases a6 with ⟨a6, a7, a8⟩ | ⟨a6, a7, a8⟩
    · subst a4 a7 a8; exact ⟨by omega, by omega, fun h => (by cases h), fun _ => by omega⟩
    · subst a4 a7 a8; exact ⟨o0, o1, o2, o3⟩
  · have := o3 a2
    rcases a5 with ⟨a5, a6, a7, a8⟩ | ⟨a5, a6, a7, a8⟩
    · subst a3 a7 a8; exact ⟨o0, o1, fun _ => by rw [List.length_append]; simp only [List.length_singleton]; omega, fun h => (by cases h)⟩
    · subst a3 a7 a8; exact ⟨o0, o1, o2, o3⟩
theorem BackG.ok {n : Nat} {W L T : List Int} {h : Int} {q b : Bool} {e : Int} {W2 T2 : List Int} {h2 : Int} {q2 : Bool} (H : BackG n W L h q T b e W2 h2 q2 T2) (hc : ChOk L.length h q T.length) : ChOk L.length h2 q2 T2.length := by
  obtain ⟨o0, o1, o2, o3⟩ := hc
  obtain ⟨rfl, H⟩ := H
  rcases H with ⟨a1, a2, a3, a4, a5, a6⟩ | ⟨a1, a2, a3, a4, a5, a6, a7⟩ | ⟨a1, a2, a3, a4⟩
  · subst a5 a6; exact ⟨o0, o1, o2, o3⟩
  · subst a6 a7; exact ⟨o0, o1, o2, o3⟩
  · have := o3 a1
    rcases a4 with ⟨a5, a6, a7, a8⟩ | ⟨a5, a6, a7, a8⟩
    · subst a7 a8; exact ⟨o0, o1, o2, o3⟩
    · subst a7 a8; exact ⟨by omega, by omega, fun h => (by rw [a1] at h; cases h), fun _ => by rw [List.length_take]; omega⟩
theorem own_shrink {E g m k cap : Nat} {xs : List Value} {h : Nat → Option Obj} (hk : k ≤ m) (ho : (Own E 1 (.slice (some ⟨g, 0, none⟩) m cap) m xs).ok h) : (Own E 1 (.slice (some ⟨g, 0, none⟩) k cap) k (xs.take k)).ok h := by
  obtain ⟨hl, hx⟩ := ho
  rcases hx with ⟨h1, _⟩ | ⟨g2, cap2, cur, hv, hg, h1, h2, h3, h4⟩
  · cases h1
  · injection hv with e1 e2 e3
    injection e1 with e1
    injection e1 with e1
    subst e1 e3
    refine ⟨by rw [List.length_take]; omega, .inr ⟨g, cap, cur, rfl, hg, by omega, h2, h3, ?_⟩⟩
    rw [← h4, List.take_take]
    congr 1
    omega

theorem clonei_some (w0 : World) (F : List Atom) (b o n c : Nat) (W : List Int) (hW : W.length = n) (hn : n ≤ 8589934592) (hr : RowAt w0 F b o (ints .i64 W)) :
    CallK Try.prog 31 [.slice (some ⟨b, o, none⟩) n c] w0 (F) (Gives w0 fun v F2 => ∃ g c2, v = .slice (some ⟨g, 0, none⟩) n c2 ∧ F2 = Own 3 1 (.slice (some ⟨g, 0, none⟩) n c2) n (ints .i64 W) :: F) := by
  refine c_enter Try.func31 rfl rfl rfl ?_
  refine g_seq ?_
  refine g_region ?_
  refine l_assign rfl rfl ?_
  refine l_nil ?_
  refine g_seq ?_
  refine g_seq ?_
  refine g_region ?_
  refine l_move rfl rfl ?_
  refine l_eqsn rfl Try.underlying23 rfl rfl ?_
  refine l_nil ?_
  first | refine g_cond_f rfl ?_ | refine g_cond_f (congrArg (fun b => some (Value.bool b)) (decide_eq_false hbr)) ?_
  refine g_skip ?_
  refine g_seq ?_
  refine g_region ?_
  refine l_buildSlice rfl Try.underlying23 Try.sizeOf3 Try.zeroValue3 rfl rfl rfl rfl rfl rfl ?_; intro b5
  refine l_move rfl rfl ?_
  refine l_appendw 0 (by_ := 8) (V := []) rfl Try.underlying23 Try.type3 rfl rfl rfl rfl rfl rfl rfl ⟨by rw [ints_length]; omega, .inl ⟨_, _, _, rfl, hr.there⟩⟩ (by omega) (by simp only [maxLen]; omega) (Nat.zero_add _) (List.nil_append _) (fun _ => rfl) ?_; intro v7 hv7
  refine l_assign rfl rfl ?_
  refine l_nil ?_
  refine g_fact (own_cases (mem_getO 0 rfl)) ?_
  rintro ⟨_, hm7, hv | ⟨g7, c7, rfl, hc7⟩⟩
  · exact absurd (hv7.1 hv.1).1 (by simp)
  refine g_ret Try.func31 rfl (.tmp rfl .nil) ?_
  exact Gives.mki ⟨g7, c7, rfl, rfl⟩
theorem clonei_none (w0 : World) (F : List Atom)  :
    CallK Try.prog 31 [.slice none 0 0] w0 (F) (Gives w0 fun v F2 => v = .slice none 0 0 ∧ F2 = F) := by
  refine c_enter Try.func31 rfl rfl rfl ?_
  refine g_seq ?_
  refine g_region ?_
  refine l_assign rfl rfl ?_
  refine l_nil ?_
  refine g_seq ?_
  refine g_seq ?_
  refine g_region ?_
  refine l_move rfl rfl ?_
  refine l_eqsn rfl Try.underlying23 rfl rfl ?_
  refine l_nil ?_
  first | refine g_cond_t rfl ?_ | refine g_cond_t (congrArg (fun b => some (Value.bool b)) (decide_eq_true hbr)) ?_
  refine g_seq ?_
  refine g_region ?_
  refine l_assign rfl rfl ?_
  refine l_nil ?_
  refine g_ret Try.func31 rfl (.tmp rfl .nil) ?_
  exact Gives.mki ⟨rfl, rfl⟩
theorem clonei_ok (w0 : World) (F : List Atom) (a : Option Addr) (n c : Nat) (W : List Int) (hW : W.length = n) (hn : n ≤ 8589934592) : CallK Try.prog 31 [.slice a n c] w0 (Own 3 1 (.slice a n c) n (ints .i64 W) :: F) (Gives w0 fun v F2 => ∃ a2 c2, v = .slice a2 n c2 ∧ (n = 0 ∨ ∃ g, a2 = some ⟨g, 0, none⟩) ∧ F2 = Own 3 1 (.slice a2 n c2) n (ints .i64 W) :: Own 3 1 (.slice a n c) n (ints .i64 W) :: F) := by
  refine callk_fact (own_cases (List.mem_cons_self ..)) ?_
  rintro ⟨_, _, ⟨hv, h0⟩ | ⟨g, cap, hv, hc⟩⟩
  · cases hv
    refine (clonei_none w0 _).mono ?_
    rintro r F1 ⟨v, F2, rfl, ⟨rfl, rfl⟩, hh⟩
    have : W = [] := List.length_eq_zero_iff.1 hW
    subst this
    exact ⟨_, _, rfl, ⟨none, 0, rfl, .inl rfl, rfl⟩, fun w hw => (hh w hw).own_nil _ _⟩
  · cases hv
    refine (clonei_some w0 _ g 0 n _ W hW hn (.own (List.mem_cons_self ..))).mono ?_
    rintro r F1 ⟨v, F2, rfl, ⟨g2, c2, rfl, rfl⟩, hh⟩
    exact ⟨_, _, rfl, ⟨_, c2, rfl, .inr ⟨g2, rfl⟩, rfl⟩, hh⟩
theorem cloneu_some (w0 : World) (F : List Atom) (b o n c : Nat) (W : List Int) (hW : W.length = n) (hn : n ≤ 8589934592) (hr : RowAt w0 F b o (ints .u32 W)) :
    CallK Try.prog 35 [.slice (some ⟨b, o, none⟩) n c] w0 (F) (Gives w0 fun v F2 => ∃ g c2, v = .slice (some ⟨g, 0, none⟩) n c2 ∧ F2 = Own 51 1 (.slice (some ⟨g, 0, none⟩) n c2) n (ints .u32 W) :: F) := by
  refine c_enter Try.func35 rfl rfl rfl ?_
  refine g_seq ?_
  refine g_region ?_
  refine l_assign rfl rfl ?_
  refine l_nil ?_
  refine g_seq ?_
  refine g_seq ?_
  refine g_region ?_
  refine l_move rfl rfl ?_
  refine l_eqsn rfl Try.underlying38 rfl rfl ?_
  refine l_nil ?_
  first | refine g_cond_f rfl ?_ | refine g_cond_f (congrArg (fun b => some (Value.bool b)) (decide_eq_false hbr)) ?_
  refine g_skip ?_
  refine g_seq ?_
  refine g_region ?_
  refine l_buildSlice rfl Try.underlying38 Try.sizeOf51 Try.zeroValue51 rfl rfl rfl rfl rfl rfl ?_; intro b5
  refine l_move rfl rfl ?_
  refine l_appendw 0 (by_ := 4) (V := []) rfl Try.underlying38 Try.type51 rfl rfl rfl rfl rfl rfl rfl ⟨by rw [ints_length]; omega, .inl ⟨_, _, _, rfl, hr.there⟩⟩ (by omega) (by simp only [maxLen]; omega) (Nat.zero_add _) (List.nil_append _) (fun _ => rfl) ?_; intro v7 hv7
  refine l_assign rfl rfl ?_
  refine l_nil ?_
  refine g_fact (own_cases (mem_getO 0 rfl)) ?_
  rintro ⟨_, hm7, hv | ⟨g7, c7, rfl, hc7⟩⟩
  · exact absurd (hv7.1 hv.1).1 (by simp)
  refine g_ret Try.func35 rfl (.tmp rfl .nil) ?_
  exact Gives.mki ⟨g7, c7, rfl, rfl⟩
theorem cloneu_none (w0 : World) (F : List Atom)  :
    CallK Try.prog 35 [.slice none 0 0] w0 (F) (Gives w0 fun v F2 => v = .slice none 0 0 ∧ F2 = F) := by
  refine c_enter Try.func35 rfl rfl rfl ?_
  refine g_seq ?_
  refine g_region ?_
  refine l_assign rfl rfl ?_
  refine l_nil ?_
  refine g_seq ?_
  refine g_seq ?_
  refine g_region ?_
  refine l_move rfl rfl ?_
  refine l_eqsn rfl Try.underlying38 rfl rfl ?_
  refine l_nil ?_
  first | refine g_cond_t rfl ?_ | refine g_cond_t (congrArg (fun b => some (Value.bool b)) (decide_eq_true hbr)) ?_
  refine g_seq ?_
  refine g_region ?_
  refine l_assign rfl rfl ?_
  refine l_nil ?_
  refine g_ret Try.func35 rfl (.tmp rfl .nil) ?_
  exact Gives.mki ⟨rfl, rfl⟩
theorem cloneu_ok (w0 : World) (F : List Atom) (a : Option Addr) (n c : Nat) (W : List Int) (hW : W.length = n) (hn : n ≤ 8589934592) : CallK Try.prog 35 [.slice a n c] w0 (Own 51 1 (.slice a n c) n (ints .u32 W) :: F) (Gives w0 fun v F2 => ∃ a2 c2, v = .slice a2 n c2 ∧ (n = 0 ∨ ∃ g, a2 = some ⟨g, 0, none⟩) ∧ F2 = Own 51 1 (.slice a2 n c2) n (ints .u32 W) :: Own 51 1 (.slice a n c) n (ints .u32 W) :: F) := by
  refine callk_fact (own_cases (List.mem_cons_self ..)) ?_
  rintro ⟨_, _, ⟨hv, h0⟩ | ⟨g, cap, hv, hc⟩⟩
  · cases hv
    refine (cloneu_none w0 _).mono ?_
    rintro r F1 ⟨v, F2, rfl, ⟨rfl, rfl⟩, hh⟩
    have : W = [] := List.length_eq_zero_iff.1 hW
    subst this
    exact ⟨_, _, rfl, ⟨none, 0, rfl, .inl rfl, rfl⟩, fun w hw => (hh w hw).own_nil _ _⟩
  · cases hv
    refine (cloneu_some w0 _ g 0 n _ W hW hn (.own (List.mem_cons_self ..))).mono ?_
    rintro r F1 ⟨v, F2, rfl, ⟨g2, c2, rfl, rfl⟩, hh⟩
    exact ⟨_, _, rfl, ⟨_, c2, rfl, .inr ⟨g2, rfl⟩, rfl⟩, hh⟩
theorem chnext_ok (w0 : World) (F : List Atom) (b : Nat) (al : Option Addr) (cl : Nat) (L : List Int) (h : Int) (q : Bool) (tt : Option Addr) (nt ct : Nat) (hL : L.length ≤ 8589934592) (h0 : 0 ≤ h) (h1 : h ≤ L.length) :
    CallK Try.prog 33 [.pointer (some ⟨b, 0, none⟩)] w0 (Blk b (.cells [Value.slice al L.length cl, .int .i64 h, .bool q, .slice tt nt ct].toArray 84 (0, 0)) :: F) (Gives w0 fun v F2 => ∃ k, v = .int .i64 k ∧ F2 = Blk b (.cells [Value.slice al L.length cl, .int .i64 h, .bool q, .slice tt nt ct].toArray 84 (0, 0)) :: F ∧ NextG k h L.length q) := by
  refine c_enter Try.func33 rfl rfl rfl ?_
  refine g_seq ?_
  refine g_region ?_
  refine l_assign rfl rfl ?_
  refine l_nil ?_
  refine g_seq ?_
  refine g_block ?_
  refine g_seq ?_
  refine gp_start mo (by kernel_rfl) (by kernel_rfl) ?_
  refine gp_quiet 0 rfl rfl rfl rfl rfl rfl (q_move rfl) ?_
  refine gp_quiet 1 rfl rfl rfl rfl rfl rfl (q_nilCheck rfl) ?_
  refine gp_quiet 2 rfl rfl rfl rfl rfl rfl (q_fieldAddr fa_84_1 rfl) ?_
  first | refine gp_quiet 3 rfl rfl rfl rfl rfl rfl (q_ld Try.isAgg3 rfl rfl) ?_ | refine gp_quiet 3 rfl rfl rfl rfl rfl rfl (q_ldw Try.isAgg3 rfl (by omega)) ?_
  refine gp_quiet 4 rfl rfl rfl rfl rfl rfl (q_move rfl) ?_
  refine gp_quiet 5 rfl rfl rfl rfl rfl rfl (q_nilCheck rfl) ?_
  refine gp_quiet 6 rfl rfl rfl rfl rfl rfl (q_fieldAddr fa_84_0 rfl) ?_
  refine gp_quiet 7 rfl rfl rfl rfl rfl rfl (q_ld Try.isAgg23 rfl rfl) ?_
  refine gp_quiet 8 rfl rfl rfl rfl rfl rfl (q_len Try.underlying23 rfl) ?_
  refine gp_quiet 9 rfl rfl rfl rfl rfl rfl (q_eql rfl rfl) ?_
  refine gp_quiet 10 rfl rfl rfl rfl rfl rfl (q_assign rfl) ?_
  refine gp_end rfl rfl ?_
  refine g_cond rfl ?_ ?_
  · intro hbr
    have hbr := of_decide_eq_true hbr
    refine g_seq ?_
    refine g_region ?_
    refine l_assign rfl rfl ?_
    refine l_nil ?_
    refine g_ret Try.func33 rfl (.tmp rfl .nil) ?_
    (first | exact Gives.mki ⟨2, rfl, rfl, .inl ⟨rfl, by omega⟩⟩ | exact Gives.mki ⟨1, rfl, rfl, .inr (.inl ⟨rfl, by omega, by assumption⟩)⟩ | exact Gives.mki ⟨0, rfl, rfl, .inr (.inr ⟨rfl, by omega, by assumption⟩)⟩)
  intro hbr
  have hbr := of_decide_eq_false hbr
  refine g_seq ?_
  refine g_region ?_
  refine l_move rfl rfl ?_
  refine l_nilCheck rfl rfl ?_
  refine l_fieldAddr rfl fa_84_2 rfl ?_
  refine l_ld rfl Try.isAgg4 rfl rfl ?_
  refine l_assign rfl rfl ?_
  refine l_nil ?_
  refine g_cond rfl ?_ ?_
  · intro hbr
    have hb14 := hbr
    refine g_seq ?_
    refine g_region ?_
    refine l_assign rfl rfl ?_
    refine l_nil ?_
    refine g_ret Try.func33 rfl (.tmp rfl .nil) ?_
    (first | exact Gives.mki ⟨2, rfl, rfl, .inl ⟨rfl, by omega⟩⟩ | exact Gives.mki ⟨1, rfl, rfl, .inr (.inl ⟨rfl, by omega, by assumption⟩)⟩ | exact Gives.mki ⟨0, rfl, rfl, .inr (.inr ⟨rfl, by omega, by assumption⟩)⟩)
  intro hbr
  have hb14 := hbr
  refine g_skip ?_
  refine g_inBlock ?_
  refine g_seq ?_
  refine g_region ?_
  refine l_assign rfl rfl ?_
  refine l_nil ?_
  refine g_ret Try.func33 rfl (.tmp rfl .nil) ?_
  (first | exact Gives.mki ⟨2, rfl, rfl, .inl ⟨rfl, by omega⟩⟩ | exact Gives.mki ⟨1, rfl, rfl, .inr (.inl ⟨rfl, by omega, by assumption⟩)⟩ | exact Gives.mki ⟨0, rfl, rfl, .inr (.inr ⟨rfl, by omega, by assumption⟩)⟩)
theorem chall_ok (w0 : World) (F : List Atom) (b : Nat) (al : Option Addr) (cl : Nat) (L : List Int) (h : Int) (q : Bool) (tt : Option Addr) (nt ct : Nat) (hL : L.length ≤ 8589934592) (h0 : 0 ≤ h) (h1 : h ≤ L.length) :
    CallK Try.prog 10 [.pointer (some ⟨b, 0, none⟩)] w0 (Blk b (.cells [Value.slice al L.length cl, .int .i64 h, .bool q, .slice tt nt ct].toArray 84 (0, 0)) :: F) (Gives w0 fun v F2 => v = .bool (decide (h = L.length)) ∧ F2 = Blk b (.cells [Value.slice al L.length cl, .int .i64 h, .bool q, .slice tt nt ct].toArray 84 (0, 0)) :: F) := by
  refine c_enter Try.func10 rfl rfl rfl ?_
  refine g_seq ?_
  refine g_region ?_
  refine l_assign rfl rfl ?_
  refine l_nil ?_
  refine g_seq ?_
  refine g_region ?_
  refine l_move rfl rfl ?_
  refine l_nepn rfl Try.underlying28 rfl rfl ?_
  refine l_move rfl rfl ?_
  refine l_split 5 rfl ?_ ?_
  · intro hbr
    have hb5 := hbr
    refine l_guard_yes rfl rfl ?_
    refine l_move rfl rfl ?_
    refine l_guard_yes rfl rfl ?_
    refine l_call rfl Try.call33 rfl (chnext_ok _ _ b al cl L h q tt nt ct hL h0 h1) ?_; rintro _ _ ⟨k, rfl, rfl, hk⟩
    refine l_guard_yes rfl rfl ?_
    refine l_eql rfl rfl rfl ?_
    refine l_pick_t rfl rfl rfl ?_
    refine l_assign rfl rfl ?_
    refine l_nil ?_
    refine g_ret Try.func10 rfl (.tmp rfl .nil) ?_
    exact Gives.mki ⟨by rw [← hk.all]; rfl, rfl⟩
  · intro hbr
    first | (exfalso; simp at hbr; done) | (exfalso; simp at hbr; omega)
set_option maxHeartbeats 4000000 in
theorem chstep_ok (w0 : World) (F : List Atom) (bm g n c : Nat) (W : List Int) (hW : W.length = n) (hc : n ≤ c) (hn : n ≤ 1073741824) (b : Nat) (al : Option Addr) (cl : Nat) (L : List Int) (h : Int) (q : Bool) (tt : Option Addr) (nt ct : Nat) (T : List Int) (hT : T.length = nt) (hL : L.length ≤ 8589934592) (hLb : I64s L) (hal : L.length = 0 ∨ ∃ g, al = some ⟨g, 0, none⟩) (htt : nt = 0 ∨ ∃ g, tt = some ⟨g, 0, none⟩) (hok : ChOk L.length h q nt) :
    CallK Try.prog 32 [.pointer (some ⟨b, 0, none⟩), .pointer (some ⟨bm, 0, none⟩)] w0 (Blk bm (.cells [Value.slice (some ⟨g, 0, none⟩) n c].toArray 81 (0, 0)) :: Own 51 1 (.slice (some ⟨g, 0, none⟩) n c) n (ints .u32 W) :: Blk b (.cells [Value.slice al L.length cl, .int .i64 h, .bool q, .slice tt nt ct].toArray 84 (0, 0)) :: Own 3 1 (.slice al L.length cl) L.length (ints .i64 L) :: Own 51 1 (.slice tt nt ct) nt (ints .u32 T) :: F) (Gives w0 fun v F2 => ∃ d e W2 h2 q2 tt2 nt2 ct2 T2, v = .tuple #[.bool d, .int .i64 e] ∧ W2.length = n ∧ F2 = Blk bm (.cells [Value.slice (some ⟨g, 0, none⟩) n c].toArray 81 (0, 0)) :: Own 51 1 (.slice (some ⟨g, 0, none⟩) n c) n (ints .u32 W2) :: Blk b (.cells [Value.slice al L.length cl, .int .i64 h2, .bool q2, .slice tt2 nt2 ct2].toArray 84 (0, 0)) :: Own 3 1 (.slice al L.length cl) L.length (ints .i64 L) :: Own 51 1 (.slice tt2 nt2 ct2) nt2 (ints .u32 T2) :: F ∧ T2.length = nt2 ∧ (nt2 = 0 ∨ ∃ g, tt2 = some ⟨g, 0, none⟩) ∧ StepG n W L h q T d e W2 h2 q2 T2) := by
  obtain ⟨h0, h1, hq1, hq0⟩ := id hok
  refine c_enter Try.func32 rfl rfl rfl ?_
  refine g_seq ?_
  refine g_region ?_
  refine l_assign rfl rfl ?_
  refine l_assign rfl rfl ?_
  refine l_nil ?_
  refine g_seq ?_
  refine g_seq ?_
  refine g_region ?_
  refine l_move rfl rfl ?_
  refine l_eqpn rfl Try.underlying28 rfl rfl ?_
  refine l_move rfl rfl ?_
  refine l_split 12 rfl ?_ ?_
  · intro hbr
    first | (exfalso; simp at hbr; done) | (exfalso; simp at hbr; omega)
  intro hbr
  have hb12 := hbr
  refine l_guard_yes rfl rfl ?_
  refine l_move rfl rfl ?_
  refine l_guard_yes rfl rfl ?_
  refine l_eqpn rfl Try.underlying24 rfl rfl ?_
  refine l_pick_f rfl rfl rfl ?_
  refine l_nil ?_
  refine g_cond rfl ?_ ?_
  · intro hbr
    first | (exfalso; simp at hbr; done) | (exfalso; simp at hbr; omega)
  intro hbr
  have hb15 := hbr
  refine g_skip ?_
  refine g_seq ?_
  refine g_seq ?_
  refine g_region ?_
  refine l_move rfl rfl ?_
  refine l_frontb b ?_
  refine l_call rfl Try.call33 rfl (chnext_ok _ _ b al cl L h q tt nt ct hL h0 h1) ?_; rintro _ _ ⟨k, rfl, rfl, hk⟩
  refine l_nil ?_
  refine g_block ?_
  refine g_seq ?_
  refine g_region ?_
  refine l_eql rfl rfl rfl ?_
  refine l_assign rfl rfl ?_
  refine l_nil ?_
  refine g_cond rfl ?_ ?_
  · intro hbr
    have hbr := of_decide_eq_true hbr
    refine g_seq ?_
    refine gp_start mo (by kernel_rfl) (by kernel_rfl) ?_
    have hk0 := hk.k0 (by omega)
    obtain ⟨gl, rfl⟩ := hal.resolve_left (by omega)
    have hnt := hq0 hk0.2
    refine gp_quiet 0 rfl rfl rfl rfl rfl rfl (q_move rfl) ?_
    refine gp_quiet 1 rfl rfl rfl rfl rfl rfl (q_move rfl) ?_
    refine gp_quiet 2 rfl rfl rfl rfl rfl rfl (q_nilCheck rfl) ?_
    refine gp_quiet 3 rfl rfl rfl rfl rfl rfl (q_fieldAddr fa_84_0 rfl) ?_
    refine gp_quiet 4 rfl rfl rfl rfl rfl rfl (q_ld Try.isAgg23 rfl rfl) ?_
    refine gp_quiet 5 rfl rfl rfl rfl rfl rfl (q_move rfl) ?_
    refine gp_quiet 6 rfl rfl rfl rfl rfl rfl (q_nilCheck rfl) ?_
    refine gp_quiet 7 rfl rfl rfl rfl rfl rfl (q_fieldAddr fa_84_1 rfl) ?_
    first | refine gp_quiet 8 rfl rfl rfl rfl rfl rfl (q_ld Try.isAgg3 rfl rfl) ?_ | refine gp_quiet 8 rfl rfl rfl rfl rfl rfl (q_ldw Try.isAgg3 rfl (by omega)) ?_
    refine gp_quiet 9 rfl rfl rfl rfl rfl rfl (q_ixs Try.underlying23 Try.sizeOf3 rfl rfl (by omega) (by omega)) ?_
    refine gp_quiet 10 rfl rfl rfl rfl rfl rfl (q_ldw Try.isAgg3 rfl (by omega)) ?_
    refine gp_fronto g ?_
    refine gp_frontb bm ?_
    refine gp_effa 11 [0, 10] [9, 8, 7, 6, 5, 4, 3, 2, 1] rfl rfl rfl rfl rfl rfl rfl (does_call Try.call26 rfl (ltake_ok _ _ bm g n c W hW hc hn (L.getD h.toNat 0) (hLb _).1 (hLb _).2)) ?_
    rintro _ _ ⟨k1, e1, W1, rfl, hW1, rfl, hTk⟩
    refine ⟨?_, ?_⟩
    · refine .cons rfl rfl rfl rfl rfl (q_ixs Try.underlying23 Try.sizeOf3 rfl rfl (by omega) (by omega)) ?_
      first | refine .cons rfl rfl rfl rfl rfl (q_ld Try.isAgg3 rfl rfl) ?_ | refine .cons rfl rfl rfl rfl rfl (q_ldw Try.isAgg3 rfl (by omega)) ?_
      refine .cons rfl rfl rfl rfl rfl (q_fieldAddr fa_84_1 rfl) ?_
      refine .cons rfl rfl rfl rfl rfl (q_nilCheck rfl) ?_
      refine .cons rfl rfl rfl rfl rfl (q_move rfl) ?_
      refine .cons rfl rfl rfl rfl rfl (q_ld Try.isAgg23 rfl rfl) ?_
      refine .cons rfl rfl rfl rfl rfl (q_fieldAddr fa_84_0 rfl) ?_
      refine .cons rfl rfl rfl rfl rfl (q_nilCheck rfl) ?_
      refine .cons rfl rfl rfl rfl rfl (q_move rfl) ?_
      exact .nil
    refine gp_quiet 12 rfl rfl rfl rfl rfl rfl (q_move rfl) ?_
    refine gp_quiet 13 rfl rfl rfl rfl rfl rfl (q_extract rfl rfl) ?_
    refine gp_quiet 14 rfl rfl rfl rfl rfl rfl (q_extract rfl rfl) ?_
    refine gp_quiet 15 rfl rfl rfl rfl rfl rfl (q_assign rfl) ?_
    refine gp_quiet 16 rfl rfl rfl rfl rfl rfl (q_assign rfl) ?_
    refine gp_end rfl rfl ?_
    refine g_seq ?_
    refine g_seq ?_
    refine g_region ?_
    refine l_move rfl rfl ?_
    refine l_neq rfl rfl rfl ?_
    refine l_nil ?_
    refine g_cond rfl ?_ ?_
    · intro hbr
      have hbr := of_decide_eq_true hbr
      refine g_seq ?_
      refine g_region ?_
      refine l_move rfl rfl ?_
      refine l_assign rfl rfl ?_
      refine l_assign rfl rfl ?_
      refine l_nil ?_
      refine g_ret Try.func32 rfl (.tmp rfl (.tmp rfl .nil)) ?_
      (first | exact Gives.mki ⟨false, 0, W, h, q, tt, nt, ct, T, rfl, hW, rfl, hT, htt, .inl ⟨hk.k2 (by omega) (by omega), rfl, rfl, rfl, rfl, rfl, rfl⟩⟩ | exact Gives.mki ⟨false, e1, W1, h, q, tt, nt, ct, T, rfl, hW1, rfl, hT, htt, .inr (.inr ⟨hk0.1, hk0.2, rfl, k1, hTk, .inr ⟨by omega, rfl, rfl, rfl⟩⟩)⟩ | exact Gives.mki ⟨true, 0, W1, h, true, a33, nt + 1, c33, T ++ [k1], rfl, hW1, rfl, by rw [List.length_append, hT]; rfl, ha33, .inr (.inr ⟨hk0.1, hk0.2, rfl, k1, (show e1 = 0 by omega) ▸ hTk, .inl ⟨rfl, rfl, rfl, rfl⟩⟩)⟩ | exact Gives.mki ⟨mi, e1, W, h + 1, false, some ⟨gt, 0, none⟩, nt, ct, T, rfl, hW, rfl, hT, .inr ⟨_, rfl⟩, .inr (.inl ⟨hk1.1, hk1.2, rfl, rfl, hMi, .inl ⟨hb78, rfl, rfl⟩⟩)⟩ | exact Gives.mki ⟨mi, e1, W, h, q, some ⟨gt, 0, none⟩, nt, ct, T, rfl, hW, rfl, hT, .inr ⟨_, rfl⟩, .inr (.inl ⟨hk1.1, hk1.2, rfl, rfl, hMi, .inr ⟨hb78, rfl, rfl⟩⟩)⟩)
    intro hbr
    have hbr := of_decide_eq_false hbr
    refine g_skip ?_
    refine g_seq ?_
    refine g_region ?_
    refine l_move rfl rfl ?_
    refine l_move rfl rfl ?_
    refine l_nilCheck rfl rfl ?_
    refine l_fieldAddr rfl fa_84_3 rfl ?_
    refine l_ld rfl Try.isAgg38 rfl rfl ?_
    refine l_frontv (.slice tt nt ct) ?_
    refine l_move rfl rfl ?_
    refine l_buildSlice rfl Try.underlying38 Try.sizeOf51 Try.zeroValue51 rfl rfl rfl rfl rfl rfl ?_; intro b44
    refine l_does rfl (does_apps 1 (by_ := 4) (kd := .u32) (V := T) (W := [k1]) (m := nt) (m2 := 1) (m3 := nt + 1) (V3 := T ++ [k1]) Try.underlying38 Try.type51 rfl rfl rfl rfl rfl rfl rfl ⟨rfl, .inl ⟨_, _, _, rfl, .own (mem_getO 0 rfl)⟩⟩ (by omega) (by simp only [maxLen]; omega) (by omega) rfl (fun _ _ => rfl)) ?_
    rintro _ _ ⟨a33, c33, ha33, hn33, rfl, rfl⟩
    refine l_nilCheck rfl rfl ?_
    refine l_fieldAddr rfl fa_84_3 rfl ?_
    refine l_st Try.sizeOf38 rfl rfl rfl rfl ?_
    refine l_nil ?_
    refine g_seq ?_
    refine g_region ?_
    refine l_move rfl rfl ?_
    refine l_nilCheck rfl rfl ?_
    refine l_fieldAddr rfl fa_84_2 rfl ?_
    refine l_st Try.sizeOf4 rfl rfl rfl rfl ?_
    refine l_nil ?_
    refine g_seq ?_
    refine g_region ?_
    refine l_assign rfl rfl ?_
    refine l_assign rfl rfl ?_
    refine l_nil ?_
    refine g_ret Try.func32 rfl (.tmp rfl (.tmp rfl .nil)) ?_
    (first | exact Gives.mki ⟨false, 0, W, h, q, tt, nt, ct, T, rfl, hW, rfl, hT, htt, .inl ⟨hk.k2 (by omega) (by omega), rfl, rfl, rfl, rfl, rfl, rfl⟩⟩ | exact Gives.mki ⟨false, e1, W1, h, q, tt, nt, ct, T, rfl, hW1, rfl, hT, htt, .inr (.inr ⟨hk0.1, hk0.2, rfl, k1, hTk, .inr ⟨by omega, rfl, rfl, rfl⟩⟩)⟩ | exact Gives.mki ⟨true, 0, W1, h, true, a33, nt + 1, c33, T ++ [k1], rfl, hW1, rfl, by rw [List.length_append, hT]; rfl, ha33, .inr (.inr ⟨hk0.1, hk0.2, rfl, k1, (show e1 = 0 by omega) ▸ hTk, .inl ⟨rfl, rfl, rfl, rfl⟩⟩)⟩ | exact Gives.mki ⟨mi, e1, W, h + 1, false, some ⟨gt, 0, none⟩, nt, ct, T, rfl, hW, rfl, hT, .inr ⟨_, rfl⟩, .inr (.inl ⟨hk1.1, hk1.2, rfl, rfl, hMi, .inl ⟨hb78, rfl, rfl⟩⟩)⟩ | exact Gives.mki ⟨mi, e1, W, h, q, some ⟨gt, 0, none⟩, nt, ct, T, rfl, hW, rfl, hT, .inr ⟨_, rfl⟩, .inr (.inl ⟨hk1.1, hk1.2, rfl, rfl, hMi, .inr ⟨hb78, rfl, rfl⟩⟩)⟩)
  intro hbr
  have hbr := of_decide_eq_false hbr
  refine g_seq ?_
  refine g_region ?_
  refine l_eql rfl rfl rfl ?_
  refine l_assign rfl rfl ?_
  refine l_nil ?_
  refine g_cond rfl ?_ ?_
  · intro hbr
    have hbr := of_decide_eq_true hbr
    refine g_seq ?_
    refine gp_start mo (by kernel_rfl) (by kernel_rfl) ?_
    have hk1 := hk.k1 (by omega)
    obtain ⟨gl, rfl⟩ := hal.resolve_left (by omega)
    have hnt := hq1 hk1.2
    obtain ⟨gt, rfl⟩ := htt.resolve_left (by omega)
    refine gp_quiet 0 rfl rfl rfl rfl rfl rfl (q_move rfl) ?_
    refine gp_quiet 1 rfl rfl rfl rfl rfl rfl (q_move rfl) ?_
    refine gp_quiet 2 rfl rfl rfl rfl rfl rfl (q_nilCheck rfl) ?_
    refine gp_quiet 3 rfl rfl rfl rfl rfl rfl (q_fieldAddr fa_84_0 rfl) ?_
    refine gp_quiet 4 rfl rfl rfl rfl rfl rfl (q_ld Try.isAgg23 rfl rfl) ?_
    refine gp_quiet 5 rfl rfl rfl rfl rfl rfl (q_move rfl) ?_
    refine gp_quiet 6 rfl rfl rfl rfl rfl rfl (q_nilCheck rfl) ?_
    refine gp_quiet 7 rfl rfl rfl rfl rfl rfl (q_fieldAddr fa_84_1 rfl) ?_
    first | refine gp_quiet 8 rfl rfl rfl rfl rfl rfl (q_ld Try.isAgg3 rfl rfl) ?_ | refine gp_quiet 8 rfl rfl rfl rfl rfl rfl (q_ldw Try.isAgg3 rfl (by omega)) ?_
    refine gp_quiet 9 rfl rfl rfl rfl rfl rfl (q_ixs Try.underlying23 Try.sizeOf3 rfl rfl (by omega) (by omega)) ?_
    refine gp_quiet 10 rfl rfl rfl rfl rfl rfl (q_ldw Try.isAgg3 rfl (by omega)) ?_
    refine gp_quiet 11 rfl rfl rfl rfl rfl rfl (q_move rfl) ?_
    refine gp_quiet 12 rfl rfl rfl rfl rfl rfl (q_nilCheck rfl) ?_
    refine gp_quiet 13 rfl rfl rfl rfl rfl rfl (q_fieldAddr fa_84_3 rfl) ?_
    refine gp_quiet 14 rfl rfl rfl rfl rfl rfl (q_ld Try.isAgg38 rfl rfl) ?_
    refine gp_quiet 15 rfl rfl rfl rfl rfl rfl (q_move rfl) ?_
    refine gp_quiet 16 rfl rfl rfl rfl rfl rfl (q_nilCheck rfl) ?_
    refine gp_quiet 17 rfl rfl rfl rfl rfl rfl (q_fieldAddr fa_84_1 rfl) ?_
    first | refine gp_quiet 18 rfl rfl rfl rfl rfl rfl (q_ld Try.isAgg3 rfl rfl) ?_ | refine gp_quiet 18 rfl rfl rfl rfl rfl rfl (q_ldw Try.isAgg3 rfl (by omega)) ?_
    refine gp_quiet 19 rfl rfl rfl rfl rfl rfl (q_ixs Try.underlying38 Try.sizeOf51 rfl rfl (by omega) (by omega)) ?_
    refine gp_quiet 20 rfl rfl rfl rfl rfl rfl (q_ldw Try.isAgg51 rfl (by omega)) ?_
    refine gp_fronto g ?_
    refine gp_frontb bm ?_
    refine gp_effa 21 [0, 10, 20] [19, 18, 17, 16, 15, 14, 13, 12, 11, 9, 8, 7, 6, 5, 4, 3, 2, 1] rfl rfl rfl rfl rfl rfl rfl (does_call Try.call39 rfl (lmine_ok _ _ bm g n c W hW hc hn (L.getD h.toNat 0) (hLb _).1 (hLb _).2 (T.getD h.toNat 0))) ?_
    rintro _ _ ⟨mi, e1, rfl, rfl, hMi⟩
    refine ⟨?_, ?_⟩
    · refine .cons rfl rfl rfl rfl rfl (q_ixs Try.underlying38 Try.sizeOf51 rfl rfl (by omega) (by omega)) ?_
      first | refine .cons rfl rfl rfl rfl rfl (q_ld Try.isAgg3 rfl rfl) ?_ | refine .cons rfl rfl rfl rfl rfl (q_ldw Try.isAgg3 rfl (by omega)) ?_
      refine .cons rfl rfl rfl rfl rfl (q_fieldAddr fa_84_1 rfl) ?_
      refine .cons rfl rfl rfl rfl rfl (q_nilCheck rfl) ?_
      refine .cons rfl rfl rfl rfl rfl (q_move rfl) ?_
      refine .cons rfl rfl rfl rfl rfl (q_ld Try.isAgg38 rfl rfl) ?_
      refine .cons rfl rfl rfl rfl rfl (q_fieldAddr fa_84_3 rfl) ?_
      refine .cons rfl rfl rfl rfl rfl (q_nilCheck rfl) ?_
      refine .cons rfl rfl rfl rfl rfl (q_move rfl) ?_
      refine .cons rfl rfl rfl rfl rfl (q_ixs Try.underlying23 Try.sizeOf3 rfl rfl (by omega) (by omega)) ?_
      first | refine .cons rfl rfl rfl rfl rfl (q_ld Try.isAgg3 rfl rfl) ?_ | refine .cons rfl rfl rfl rfl rfl (q_ldw Try.isAgg3 rfl (by omega)) ?_
      refine .cons rfl rfl rfl rfl rfl (q_fieldAddr fa_84_1 rfl) ?_
      refine .cons rfl rfl rfl rfl rfl (q_nilCheck rfl) ?_
      refine .cons rfl rfl rfl rfl rfl (q_move rfl) ?_
      refine .cons rfl rfl rfl rfl rfl (q_ld Try.isAgg23 rfl rfl) ?_
      refine .cons rfl rfl rfl rfl rfl (q_fieldAddr fa_84_0 rfl) ?_
      refine .cons rfl rfl rfl rfl rfl (q_nilCheck rfl) ?_
      refine .cons rfl rfl rfl rfl rfl (q_move rfl) ?_
      exact .nil
    refine gp_quiet 22 rfl rfl rfl rfl rfl rfl (q_move rfl) ?_
    refine gp_quiet 23 rfl rfl rfl rfl rfl rfl (q_extract rfl rfl) ?_
    refine gp_quiet 24 rfl rfl rfl rfl rfl rfl (q_extract rfl rfl) ?_
    refine gp_quiet 25 rfl rfl rfl rfl rfl rfl (q_assign rfl) ?_
    refine gp_quiet 26 rfl rfl rfl rfl rfl rfl (q_assign rfl) ?_
    refine gp_end rfl rfl ?_
    refine g_seq ?_
    refine g_seq ?_
    refine g_region ?_
    refine l_move rfl rfl ?_
    refine l_nil ?_
    refine g_cond rfl ?_ ?_
    · intro hbr
      have hb78 := hbr
      refine g_seq ?_
      refine g_region ?_
      refine l_move rfl rfl ?_
      refine l_nilCheck rfl rfl ?_
      refine l_fieldAddr rfl fa_84_1 rfl ?_
      first | refine l_ld rfl Try.isAgg3 rfl rfl ?_ | refine l_ldw rfl Try.isAgg3 rfl (by omega) ?_
      first | refine l_add rfl rfl rfl (w_i64 (by omega) (by omega)) ?_ | refine l_addw rfl rfl rfl ?_
      refine l_nilCheck rfl rfl ?_
      refine l_fieldAddr rfl fa_84_1 rfl ?_
      first | refine l_st Try.sizeOf3 rfl rfl rfl rfl ?_ | refine l_stw Try.sizeOf3 rfl rfl (by omega) ?_
      refine l_nil ?_
      refine g_region ?_
      refine l_move rfl rfl ?_
      refine l_nilCheck rfl rfl ?_
      refine l_fieldAddr rfl fa_84_2 rfl ?_
      refine l_st Try.sizeOf4 rfl rfl rfl rfl ?_
      refine l_nil ?_
      refine g_seq ?_
      refine g_region ?_
      refine l_move rfl rfl ?_
      refine l_move rfl rfl ?_
      refine l_assign rfl rfl ?_
      refine l_assign rfl rfl ?_
      refine l_nil ?_
      refine g_ret Try.func32 rfl (.tmp rfl (.tmp rfl .nil)) ?_
      (first | exact Gives.mki ⟨false, 0, W, h, q, tt, nt, ct, T, rfl, hW, rfl, hT, htt, .inl ⟨hk.k2 (by omega) (by omega), rfl, rfl, rfl, rfl, rfl, rfl⟩⟩ | exact Gives.mki ⟨false, e1, W1, h, q, tt, nt, ct, T, rfl, hW1, rfl, hT, htt, .inr (.inr ⟨hk0.1, hk0.2, rfl, k1, hTk, .inr ⟨by omega, rfl, rfl, rfl⟩⟩)⟩ | exact Gives.mki ⟨true, 0, W1, h, true, a33, nt + 1, c33, T ++ [k1], rfl, hW1, rfl, by rw [List.length_append, hT]; rfl, ha33, .inr (.inr ⟨hk0.1, hk0.2, rfl, k1, (show e1 = 0 by omega) ▸ hTk, .inl ⟨rfl, rfl, rfl, rfl⟩⟩)⟩ | exact Gives.mki ⟨mi, e1, W, h + 1, false, some ⟨gt, 0, none⟩, nt, ct, T, rfl, hW, rfl, hT, .inr ⟨_, rfl⟩, .inr (.inl ⟨hk1.1, hk1.2, rfl, rfl, hMi, .inl ⟨hb78, rfl, rfl⟩⟩)⟩ | exact Gives.mki ⟨mi, e1, W, h, q, some ⟨gt, 0, none⟩, nt, ct, T, rfl, hW, rfl, hT, .inr ⟨_, rfl⟩, .inr (.inl ⟨hk1.1, hk1.2, rfl, rfl, hMi, .inr ⟨hb78, rfl, rfl⟩⟩)⟩)
    intro hbr
    have hb78 := hbr
    refine g_skip ?_
    refine g_seq ?_
    refine g_region ?_
    refine l_move rfl rfl ?_
    refine l_move rfl rfl ?_
    refine l_assign rfl rfl ?_
    refine l_assign rfl rfl ?_
    refine l_nil ?_
    refine g_ret Try.func32 rfl (.tmp rfl (.tmp rfl .nil)) ?_
    (first | exact Gives.mki ⟨false, 0, W, h, q, tt, nt, ct, T, rfl, hW, rfl, hT, htt, .inl ⟨hk.k2 (by omega) (by omega), rfl, rfl, rfl, rfl, rfl, rfl⟩⟩ | exact Gives.mki ⟨false, e1, W1, h, q, tt, nt, ct, T, rfl, hW1, rfl, hT, htt, .inr (.inr ⟨hk0.1, hk0.2, rfl, k1, hTk, .inr ⟨by omega, rfl, rfl, rfl⟩⟩)⟩ | exact Gives.mki ⟨true, 0, W1, h, true, a33, nt + 1, c33, T ++ [k1], rfl, hW1, rfl, by rw [List.length_append, hT]; rfl, ha33, .inr (.inr ⟨hk0.1, hk0.2, rfl, k1, (show e1 = 0 by omega) ▸ hTk, .inl ⟨rfl, rfl, rfl, rfl⟩⟩)⟩ | exact Gives.mki ⟨mi, e1, W, h + 1, false, some ⟨gt, 0, none⟩, nt, ct, T, rfl, hW, rfl, hT, .inr ⟨_, rfl⟩, .inr (.inl ⟨hk1.1, hk1.2, rfl, rfl, hMi, .inl ⟨hb78, rfl, rfl⟩⟩)⟩ | exact Gives.mki ⟨mi, e1, W, h, q, some ⟨gt, 0, none⟩, nt, ct, T, rfl, hW, rfl, hT, .inr ⟨_, rfl⟩, .inr (.inl ⟨hk1.1, hk1.2, rfl, rfl, hMi, .inr ⟨hb78, rfl, rfl⟩⟩)⟩)
  intro hbr
  have hbr := of_decide_eq_false hbr
  refine g_skip ?_
  refine g_inBlock ?_
  refine g_seq ?_
  refine g_region ?_
  refine l_assign rfl rfl ?_
  refine l_assign rfl rfl ?_
  refine l_nil ?_
  refine g_ret Try.func32 rfl (.tmp rfl (.tmp rfl .nil)) ?_
  (first | exact Gives.mki ⟨false, 0, W, h, q, tt, nt, ct, T, rfl, hW, rfl, hT, htt, .inl ⟨hk.k2 (by omega) (by omega), rfl, rfl, rfl, rfl, rfl, rfl⟩⟩ | exact Gives.mki ⟨false, e1, W1, h, q, tt, nt, ct, T, rfl, hW1, rfl, hT, htt, .inr (.inr ⟨hk0.1, hk0.2, rfl, k1, hTk, .inr ⟨by omega, rfl, rfl, rfl⟩⟩)⟩ | exact Gives.mki ⟨true, 0, W1, h, true, a33, nt + 1, c33, T ++ [k1], rfl, hW1, rfl, by rw [List.length_append, hT]; rfl, ha33, .inr (.inr ⟨hk0.1, hk0.2, rfl, k1, (show e1 = 0 by omega) ▸ hTk, .inl ⟨rfl, rfl, rfl, rfl⟩⟩)⟩ | exact Gives.mki ⟨mi, e1, W, h + 1, false, some ⟨gt, 0, none⟩, nt, ct, T, rfl, hW, rfl, hT, .inr ⟨_, rfl⟩, .inr (.inl ⟨hk1.1, hk1.2, rfl, rfl, hMi, .inl ⟨hb78, rfl, rfl⟩⟩)⟩ | exact Gives.mki ⟨mi, e1, W, h, q, some ⟨gt, 0, none⟩, nt, ct, T, rfl, hW, rfl, hT, .inr ⟨_, rfl⟩, .inr (.inl ⟨hk1.1, hk1.2, rfl, rfl, hMi, .inr ⟨hb78, rfl, rfl⟩⟩)⟩)
set_option maxHeartbeats 4000000 in
theorem chback_ok (w0 : World) (F : List Atom) (bm g n c : Nat) (W : List Int) (hW : W.length = n) (hc : n ≤ c) (hn : n ≤ 1073741824) (b : Nat) (al : Option Addr) (cl : Nat) (L : List Int) (h : Int) (q : Bool) (tt : Option Addr) (nt ct : Nat) (T : List Int) (hT : T.length = nt) (hL : L.length ≤ 8589934592) (hLb : I64s L) (hal : L.length = 0 ∨ ∃ g, al = some ⟨g, 0, none⟩) (htt : nt = 0 ∨ ∃ g, tt = some ⟨g, 0, none⟩) (hok : ChOk L.length h q nt) :
    CallK Try.prog 34 [.pointer (some ⟨b, 0, none⟩), .pointer (some ⟨bm, 0, none⟩)] w0 (Blk bm (.cells [Value.slice (some ⟨g, 0, none⟩) n c].toArray 81 (0, 0)) :: Own 51 1 (.slice (some ⟨g, 0, none⟩) n c) n (ints .u32 W) :: Blk b (.cells [Value.slice al L.length cl, .int .i64 h, .bool q, .slice tt nt ct].toArray 84 (0, 0)) :: Own 3 1 (.slice al L.length cl) L.length (ints .i64 L) :: Own 51 1 (.slice tt nt ct) nt (ints .u32 T) :: F) (Gives w0 fun v F2 => ∃ d e W2 h2 q2 tt2 nt2 ct2 T2, v = .tuple #[.bool d, .int .i64 e] ∧ W2.length = n ∧ F2 = Blk bm (.cells [Value.slice (some ⟨g, 0, none⟩) n c].toArray 81 (0, 0)) :: Own 51 1 (.slice (some ⟨g, 0, none⟩) n c) n (ints .u32 W2) :: Blk b (.cells [Value.slice al L.length cl, .int .i64 h2, .bool q2, .slice tt2 nt2 ct2].toArray 84 (0, 0)) :: Own 3 1 (.slice al L.length cl) L.length (ints .i64 L) :: Own 51 1 (.slice tt2 nt2 ct2) nt2 (ints .u32 T2) :: F ∧ T2.length = nt2 ∧ (nt2 = 0 ∨ ∃ g, tt2 = some ⟨g, 0, none⟩) ∧ BackG n W L h q T d e W2 h2 q2 T2) := by
  obtain ⟨h0, h1, hq1, hq0⟩ := id hok
  refine c_enter Try.func34 rfl rfl rfl ?_
  refine g_seq ?_
  refine g_region ?_
  refine l_assign rfl rfl ?_
  refine l_assign rfl rfl ?_
  refine l_nil ?_
  refine g_seq ?_
  refine g_block ?_
  refine g_seq ?_
  refine g_region ?_
  refine l_move rfl rfl ?_
  refine l_eqpn rfl Try.underlying28 rfl rfl ?_
  refine l_move rfl rfl ?_
  refine l_split 11 rfl ?_ ?_
  · intro hbr
    first | (exfalso; simp at hbr; done) | (exfalso; simp at hbr; omega)
  intro hbr
  have hb11 := hbr
  refine l_guard_yes rfl rfl ?_
  refine l_move rfl rfl ?_
  refine l_guard_yes rfl rfl ?_
  refine l_eqpn rfl Try.underlying24 rfl rfl ?_
  refine l_pick_f rfl rfl rfl ?_
  refine l_assign rfl rfl ?_
  refine l_nil ?_
  refine g_cond rfl ?_ ?_
  · intro hbr
    first | (exfalso; simp at hbr; done) | (exfalso; simp at hbr; omega)
  intro hbr
  have hb8 := hbr
  refine g_seq ?_
  refine g_region ?_
  refine l_move rfl rfl ?_
  refine l_nilCheck rfl rfl ?_
  refine l_fieldAddr rfl fa_84_2 rfl ?_
  refine l_ld rfl Try.isAgg4 rfl rfl ?_
  refine l_assign rfl rfl ?_
  refine l_nil ?_
  refine g_cond rfl ?_ ?_
  · intro hbr
    have hb15 := hbr
    refine g_seq ?_
    refine g_region ?_
    refine l_assign rfl rfl ?_
    refine l_assign rfl rfl ?_
    refine l_nil ?_
    refine g_ret Try.func34 rfl (.tmp rfl (.tmp rfl .nil)) ?_
    (first | exact Gives.mki ⟨false, 170, W, h, q, tt, nt, ct, T, rfl, hW, rfl, hT, htt, rfl, .inl ⟨hb15, rfl, rfl, rfl, rfl, rfl⟩⟩ | exact Gives.mki ⟨true, 0, W, h, q, tt, nt, ct, T, rfl, hW, rfl, hT, htt, rfl, .inr (.inl ⟨hb15, by omega, rfl, rfl, rfl, rfl, rfl⟩)⟩ | exact Gives.mki ⟨false, e1, W1, h, q, some ⟨gt, 0, none⟩, nt, ct, T, rfl, hW1, rfl, hT, .inr ⟨_, rfl⟩, rfl, .inr (.inr ⟨hqf, hh9, hFr, .inl ⟨by omega, rfl, rfl, rfl⟩⟩)⟩ | exact Gives.mki ⟨_, 0, W1, h - 1, q, some ⟨gt, 0, none⟩, (h - 1).toNat, ct, T.take (h - 1).toNat, rfl, hW1, rfl, by rw [List.length_take]; omega, .inr ⟨_, rfl⟩, rfl, .inr (.inr ⟨hqf, hh9, (show e1 = 0 by omega) ▸ hFr, .inr ⟨rfl, rfl, rfl, rfl⟩⟩)⟩)
  intro hbr
  have hb15 := hbr
  refine g_seq ?_
  refine g_region ?_
  refine l_move rfl rfl ?_
  refine l_nilCheck rfl rfl ?_
  refine l_fieldAddr rfl fa_84_1 rfl ?_
  first | refine l_ld rfl Try.isAgg3 rfl rfl ?_ | refine l_ldw rfl Try.isAgg3 rfl (by omega) ?_
  refine l_eql rfl rfl rfl ?_
  refine l_assign rfl rfl ?_
  refine l_nil ?_
  refine g_cond rfl ?_ ?_
  · intro hbr
    have hbr := of_decide_eq_true hbr
    refine g_seq ?_
    refine g_region ?_
    refine l_assign rfl rfl ?_
    refine l_assign rfl rfl ?_
    refine l_nil ?_
    refine g_ret Try.func34 rfl (.tmp rfl (.tmp rfl .nil)) ?_
    (first | exact Gives.mki ⟨false, 170, W, h, q, tt, nt, ct, T, rfl, hW, rfl, hT, htt, rfl, .inl ⟨hb15, rfl, rfl, rfl, rfl, rfl⟩⟩ | exact Gives.mki ⟨true, 0, W, h, q, tt, nt, ct, T, rfl, hW, rfl, hT, htt, rfl, .inr (.inl ⟨hb15, by omega, rfl, rfl, rfl, rfl, rfl⟩)⟩ | exact Gives.mki ⟨false, e1, W1, h, q, some ⟨gt, 0, none⟩, nt, ct, T, rfl, hW1, rfl, hT, .inr ⟨_, rfl⟩, rfl, .inr (.inr ⟨hqf, hh9, hFr, .inl ⟨by omega, rfl, rfl, rfl⟩⟩)⟩ | exact Gives.mki ⟨_, 0, W1, h - 1, q, some ⟨gt, 0, none⟩, (h - 1).toNat, ct, T.take (h - 1).toNat, rfl, hW1, rfl, by rw [List.length_take]; omega, .inr ⟨_, rfl⟩, rfl, .inr (.inr ⟨hqf, hh9, (show e1 = 0 by omega) ▸ hFr, .inr ⟨rfl, rfl, rfl, rfl⟩⟩)⟩)
  intro hbr
  have hbr := of_decide_eq_false hbr
  refine g_skip ?_
  refine g_inBlock ?_
  refine g_seq ?_
  refine g_region ?_
  have hqf : q = false := hb15
  have hnt := hq0 hqf
  have hh9 : h ≠ 0 := (by omega)
  obtain ⟨gl, rfl⟩ := hal.resolve_left (by omega)
  obtain ⟨gt, rfl⟩ := htt.resolve_left (by omega)
  refine l_fact (own_cases (mem_getO 4 rfl)) ?_; intro hown
  have hct : nt ≤ ct := by
    rcases hown.2.2 with ⟨h, _⟩ | ⟨g9, cp, h, h2⟩
    · cases h
    · cases h
      exact h2
  clear hown
  refine l_move rfl rfl ?_
  refine l_nilCheck rfl rfl ?_
  refine l_fieldAddr rfl fa_84_1 rfl ?_
  first | refine l_ld rfl Try.isAgg3 rfl rfl ?_ | refine l_ldw rfl Try.isAgg3 rfl (by omega) ?_
  first | refine l_sub_ rfl rfl rfl (w_i64 (by omega) (by omega)) ?_ | refine l_subw rfl rfl rfl ?_
  refine l_assign rfl rfl ?_
  refine l_nil ?_
  refine g_seq ?_
  refine g_seq ?_
  refine gp_start mo (by kernel_rfl) (by kernel_rfl) ?_
  refine gp_quiet 0 rfl rfl rfl rfl rfl rfl (q_move rfl) ?_
  refine gp_quiet 1 rfl rfl rfl rfl rfl rfl (q_move rfl) ?_
  refine gp_quiet 2 rfl rfl rfl rfl rfl rfl (q_nilCheck rfl) ?_
  refine gp_quiet 3 rfl rfl rfl rfl rfl rfl (q_fieldAddr fa_84_0 rfl) ?_
  refine gp_quiet 4 rfl rfl rfl rfl rfl rfl (q_ld Try.isAgg23 rfl rfl) ?_
  refine gp_quiet 5 rfl rfl rfl rfl rfl rfl (q_move rfl) ?_
  refine gp_quiet 6 rfl rfl rfl rfl rfl rfl (q_ixs Try.underlying23 Try.sizeOf3 rfl rfl (by omega) (by omega)) ?_
  refine gp_quiet 7 rfl rfl rfl rfl rfl rfl (q_ldw Try.isAgg3 rfl (by omega)) ?_
  refine gp_quiet 8 rfl rfl rfl rfl rfl rfl (q_move rfl) ?_
  refine gp_quiet 9 rfl rfl rfl rfl rfl rfl (q_nilCheck rfl) ?_
  refine gp_quiet 10 rfl rfl rfl rfl rfl rfl (q_fieldAddr fa_84_3 rfl) ?_
  refine gp_quiet 11 rfl rfl rfl rfl rfl rfl (q_ld Try.isAgg38 rfl rfl) ?_
  refine gp_quiet 12 rfl rfl rfl rfl rfl rfl (q_move rfl) ?_
  refine gp_quiet 13 rfl rfl rfl rfl rfl rfl (q_ixs Try.underlying38 Try.sizeOf51 rfl rfl (by omega) (by omega)) ?_
  refine gp_quiet 14 rfl rfl rfl rfl rfl rfl (q_ldw Try.isAgg51 rfl (by omega)) ?_
  refine gp_fronto g ?_
  refine gp_frontb bm ?_
  refine gp_effa 15 [0, 7, 14] [13, 12, 11, 10, 9, 8, 6, 5, 4, 3, 2, 1] rfl rfl rfl rfl rfl rfl rfl (does_call Try.call41 rfl (lfree_ok _ _ bm g n c W hW hc hn (L.getD (h - 1).toNat 0) (hLb _).1 (hLb _).2 (T.getD (h - 1).toNat 0))) ?_
  rintro _ _ ⟨e1, W1, rfl, hW1, rfl, hFr⟩
  refine ⟨?_, ?_⟩
  · refine .cons rfl rfl rfl rfl rfl (q_ixs Try.underlying38 Try.sizeOf51 rfl rfl (by omega) (by omega)) ?_
    refine .cons rfl rfl rfl rfl rfl (q_move rfl) ?_
    refine .cons rfl rfl rfl rfl rfl (q_ld Try.isAgg38 rfl rfl) ?_
    refine .cons rfl rfl rfl rfl rfl (q_fieldAddr fa_84_3 rfl) ?_
    refine .cons rfl rfl rfl rfl rfl (q_nilCheck rfl) ?_
    refine .cons rfl rfl rfl rfl rfl (q_move rfl) ?_
    refine .cons rfl rfl rfl rfl rfl (q_ixs Try.underlying23 Try.sizeOf3 rfl rfl (by omega) (by omega)) ?_
    refine .cons rfl rfl rfl rfl rfl (q_move rfl) ?_
    refine .cons rfl rfl rfl rfl rfl (q_ld Try.isAgg23 rfl rfl) ?_
    refine .cons rfl rfl rfl rfl rfl (q_fieldAddr fa_84_0 rfl) ?_
    refine .cons rfl rfl rfl rfl rfl (q_nilCheck rfl) ?_
    refine .cons rfl rfl rfl rfl rfl (q_move rfl) ?_
    exact .nil
  refine gp_quiet 16 rfl rfl rfl rfl rfl rfl (q_assign rfl) ?_
  refine gp_end rfl rfl ?_
  refine g_seq ?_
  refine g_region ?_
  refine l_move rfl rfl ?_
  refine l_neq rfl rfl rfl ?_
  refine l_nil ?_
  refine g_cond rfl ?_ ?_
  · intro hbr
    have hbr := of_decide_eq_true hbr
    refine g_seq ?_
    refine g_region ?_
    refine l_move rfl rfl ?_
    refine l_assign rfl rfl ?_
    refine l_assign rfl rfl ?_
    refine l_nil ?_
    refine g_ret Try.func34 rfl (.tmp rfl (.tmp rfl .nil)) ?_
    (first | exact Gives.mki ⟨false, 170, W, h, q, tt, nt, ct, T, rfl, hW, rfl, hT, htt, rfl, .inl ⟨hb15, rfl, rfl, rfl, rfl, rfl⟩⟩ | exact Gives.mki ⟨true, 0, W, h, q, tt, nt, ct, T, rfl, hW, rfl, hT, htt, rfl, .inr (.inl ⟨hb15, by omega, rfl, rfl, rfl, rfl, rfl⟩)⟩ | exact Gives.mki ⟨false, e1, W1, h, q, some ⟨gt, 0, none⟩, nt, ct, T, rfl, hW1, rfl, hT, .inr ⟨_, rfl⟩, rfl, .inr (.inr ⟨hqf, hh9, hFr, .inl ⟨by omega, rfl, rfl, rfl⟩⟩)⟩ | exact Gives.mki ⟨_, 0, W1, h - 1, q, some ⟨gt, 0, none⟩, (h - 1).toNat, ct, T.take (h - 1).toNat, rfl, hW1, rfl, by rw [List.length_take]; omega, .inr ⟨_, rfl⟩, rfl, .inr (.inr ⟨hqf, hh9, (show e1 = 0 by omega) ▸ hFr, .inr ⟨rfl, rfl, rfl, rfl⟩⟩)⟩)
  intro hbr
  have hbr := of_decide_eq_false hbr
  refine g_skip ?_
  refine g_seq ?_
  refine gp_start mo (by kernel_rfl) (by kernel_rfl) ?_
  refine gp_quiet 0 rfl rfl rfl rfl rfl rfl (q_move rfl) ?_
  refine gp_quiet 1 rfl rfl rfl rfl rfl rfl (q_move rfl) ?_
  refine gp_quiet 2 rfl rfl rfl rfl rfl rfl (q_move rfl) ?_
  refine gp_quiet 3 rfl rfl rfl rfl rfl rfl (q_move rfl) ?_
  refine gp_quiet 4 rfl rfl rfl rfl rfl rfl (q_nilCheck rfl) ?_
  refine gp_quiet 5 rfl rfl rfl rfl rfl rfl (q_fieldAddr fa_84_3 rfl) ?_
  refine gp_quiet 6 rfl rfl rfl rfl rfl rfl (q_ld Try.isAgg38 rfl rfl) ?_
  refine gp_quiet 7 rfl rfl rfl rfl rfl rfl (q_move rfl) ?_
  refine gp_quiet 8 rfl rfl rfl rfl rfl rfl (q_slice_hi Try.underlying38 Try.sizeOf51 rfl rfl (by omega) (by omega)) ?_
  refine gp_quiet 9 rfl rfl rfl rfl rfl rfl (q_nilCheck rfl) ?_
  refine gp_quiet 10 rfl rfl rfl rfl rfl rfl (q_fieldAddr fa_84_1 rfl) ?_
  first | refine gp_effa 11 [0, 2, 6, 10] [9, 8, 7, 5, 4, 3, 1] rfl rfl rfl rfl rfl rfl rfl (does_st Try.sizeOf3 rfl rfl rfl rfl) ?_ | refine gp_effa 11 [0, 2, 6, 10] [9, 8, 7, 5, 4, 3, 1] rfl rfl rfl rfl rfl rfl rfl (does_stw Try.sizeOf3 rfl rfl (by omega)) ?_
  rintro _ _ ⟨rfl, rfl⟩
  refine ⟨?_, ?_⟩
  · refine .cons rfl rfl rfl rfl rfl (q_nilCheck rfl) ?_
    refine .cons rfl rfl rfl rfl rfl (q_slice_hi Try.underlying38 Try.sizeOf51 rfl rfl (by omega) (by omega)) ?_
    refine .cons rfl rfl rfl rfl rfl (q_move rfl) ?_
    refine .cons rfl rfl rfl rfl rfl (q_fieldAddr fa_84_3 rfl) ?_
    refine .cons rfl rfl rfl rfl rfl (q_nilCheck rfl) ?_
    refine .cons rfl rfl rfl rfl rfl (q_move rfl) ?_
    refine .cons rfl rfl rfl rfl rfl (q_move rfl) ?_
    exact .nil
  refine gp_quiet 12 rfl rfl rfl rfl rfl rfl (q_nilCheck rfl) ?_
  refine gp_quiet 13 rfl rfl rfl rfl rfl rfl (q_fieldAddr fa_84_3 rfl) ?_
  refine gp_effa 14 [1, 3, 4, 5, 7, 8, 9, 13] [12] rfl rfl rfl rfl rfl rfl rfl (does_st Try.sizeOf38 rfl rfl rfl rfl) ?_
  rintro _ _ ⟨rfl, rfl⟩
  refine ⟨?_, ?_⟩
  · refine .cons rfl rfl rfl rfl rfl (q_nilCheck rfl) ?_
    exact .nil
  refine gp_end rfl rfl ?_
  refine g_seq ?_
  refine g_region ?_
  refine l_fronto gt ?_
  refine gl_heap (fun w hw => hw.as (own_shrink (k := (h - 1).toNat) (by omega)) (fun b hb => hb)) ?_
  rw [ints_take]
  refine l_move rfl rfl ?_
  refine l_eql rfl rfl rfl ?_
  refine l_assign rfl rfl ?_
  refine l_assign rfl rfl ?_
  refine l_nil ?_
  refine g_ret Try.func34 rfl (.tmp rfl (.tmp rfl .nil)) ?_
  (first | exact Gives.mki ⟨false, 170, W, h, q, tt, nt, ct, T, rfl, hW, rfl, hT, htt, rfl, .inl ⟨hb15, rfl, rfl, rfl, rfl, rfl⟩⟩ | exact Gives.mki ⟨true, 0, W, h, q, tt, nt, ct, T, rfl, hW, rfl, hT, htt, rfl, .inr (.inl ⟨hb15, by omega, rfl, rfl, rfl, rfl, rfl⟩)⟩ | exact Gives.mki ⟨false, e1, W1, h, q, some ⟨gt, 0, none⟩, nt, ct, T, rfl, hW1, rfl, hT, .inr ⟨_, rfl⟩, rfl, .inr (.inr ⟨hqf, hh9, hFr, .inl ⟨by omega, rfl, rfl, rfl⟩⟩)⟩ | exact Gives.mki ⟨_, 0, W1, h - 1, q, some ⟨gt, 0, none⟩, (h - 1).toNat, ct, T.take (h - 1).toNat, rfl, hW1, rfl, by rw [List.length_take]; omega, .inr ⟨_, rfl⟩, rfl, .inr (.inr ⟨hqf, hh9, (show e1 = 0 by omega) ▸ hFr, .inr ⟨rfl, rfl, rfl, rfl⟩⟩)⟩)
set_option maxHeartbeats 4000000 in
theorem chstepI_ok (w0 : World) (F : List Atom) (bm g n c : Nat) (W : List Int) (hW : W.length = n) (hc : n ≤ c) (hn : n ≤ 1073741824) (b : Nat) (al : Option Addr) (cl : Nat) (L : List Int) (h : Int) (q : Bool) (tt : Option Addr) (nt ct : Nat) (T : List Int) (hT : T.length = nt) (hL : L.length ≤ 8589934592) (hLb : I64s L) (hLI : IR w0 F .i64 al L.length L) (htt : nt = 0 ∨ ∃ g, tt = some ⟨g, 0, none⟩) (hok : ChOk L.length h q nt) :
    CallK Try.prog 32 [.pointer (some ⟨b, 0, none⟩), .pointer (some ⟨bm, 0, none⟩)] w0 (Blk bm (.cells [Value.slice (some ⟨g, 0, none⟩) n c].toArray 81 (0, 0)) :: Own 51 1 (.slice (some ⟨g, 0, none⟩) n c) n (ints .u32 W) :: Blk b (.cells [Value.slice al L.length cl, .int .i64 h, .bool q, .slice tt nt ct].toArray 84 (0, 0)) :: Own 51 1 (.slice tt nt ct) nt (ints .u32 T) :: F) (Gives w0 fun v F2 => ∃ d e W2 h2 q2 tt2 nt2 ct2 T2, v = .tuple #[.bool d, .int .i64 e] ∧ W2.length = n ∧ F2 = Blk bm (.cells [Value.slice (some ⟨g, 0, none⟩) n c].toArray 81 (0, 0)) :: Own 51 1 (.slice (some ⟨g, 0, none⟩) n c) n (ints .u32 W2) :: Blk b (.cells [Value.slice al L.length cl, .int .i64 h2, .bool q2, .slice tt2 nt2 ct2].toArray 84 (0, 0)) :: Own 51 1 (.slice tt2 nt2 ct2) nt2 (ints .u32 T2) :: F ∧ T2.length = nt2 ∧ (nt2 = 0 ∨ ∃ g, tt2 = some ⟨g, 0, none⟩) ∧ StepG n W L h q T d e W2 h2 q2 T2) := by
  obtain ⟨h0, h1, hq1, hq0⟩ := id hok
  refine c_enter Try.func32 rfl rfl rfl ?_
  refine g_seq ?_
  refine g_region ?_
  refine l_assign rfl rfl ?_
  refine l_assign rfl rfl ?_
  refine l_nil ?_
  refine g_seq ?_
  refine g_seq ?_
  refine g_region ?_
  refine l_move rfl rfl ?_
  refine l_eqpn rfl Try.underlying28 rfl rfl ?_
  refine l_move rfl rfl ?_
  refine l_split 12 rfl ?_ ?_
  · intro hbr
    first | (exfalso; simp at hbr; done) | (exfalso; simp at hbr; omega)
  intro hbr
  have hb12 := hbr
  refine l_guard_yes rfl rfl ?_
  refine l_move rfl rfl ?_
  refine l_guard_yes rfl rfl ?_
  refine l_eqpn rfl Try.underlying24 rfl rfl ?_
  refine l_pick_f rfl rfl rfl ?_
  refine l_nil ?_
  refine g_cond rfl ?_ ?_
  · intro hbr
    first | (exfalso; simp at hbr; done) | (exfalso; simp at hbr; omega)
  intro hbr
  have hb15 := hbr
  refine g_skip ?_
  refine g_seq ?_
  refine g_seq ?_
  refine g_region ?_
  refine l_move rfl rfl ?_
  refine l_frontb b ?_
  refine l_call rfl Try.call33 rfl (chnext_ok _ _ b al cl L h q tt nt ct hL h0 h1) ?_; rintro _ _ ⟨k, rfl, rfl, hk⟩
  refine l_nil ?_
  refine g_block ?_
  refine g_seq ?_
  refine g_region ?_
  refine l_eql rfl rfl rfl ?_
  refine l_assign rfl rfl ?_
  refine l_nil ?_
  refine g_cond rfl ?_ ?_
  · intro hbr
    have hbr := of_decide_eq_true hbr
    refine g_seq ?_
    refine gp_start mo (by kernel_rfl) (by kernel_rfl) ?_
    have hk0 := hk.k0 (by omega)
    have hnt := hq0 hk0.2
    refine gp_quiet 0 rfl rfl rfl rfl rfl rfl (q_move rfl) ?_
    refine gp_quiet 1 rfl rfl rfl rfl rfl rfl (q_move rfl) ?_
    refine gp_quiet 2 rfl rfl rfl rfl rfl rfl (q_nilCheck rfl) ?_
    refine gp_quiet 3 rfl rfl rfl rfl rfl rfl (q_fieldAddr fa_84_0 rfl) ?_
    refine gp_quiet 4 rfl rfl rfl rfl rfl rfl (q_ld Try.isAgg23 rfl rfl) ?_
    refine gp_quiet 5 rfl rfl rfl rfl rfl rfl (q_move rfl) ?_
    refine gp_quiet 6 rfl rfl rfl rfl rfl rfl (q_nilCheck rfl) ?_
    refine gp_quiet 7 rfl rfl rfl rfl rfl rfl (q_fieldAddr fa_84_1 rfl) ?_
    first | refine gp_quiet 8 rfl rfl rfl rfl rfl rfl (q_ld Try.isAgg3 rfl rfl) ?_ | refine gp_quiet 8 rfl rfl rfl rfl rfl rfl (q_ldw Try.isAgg3 rfl (by omega)) ?_
    obtain ⟨b9, o9, rfl, hr9⟩ := hLI.some (i := h.toNat) (by omega)
    refine gp_quiet 9 rfl rfl rfl rfl rfl rfl (q_ixs Try.underlying23 Try.sizeOf3 rfl rfl (by omega) (by omega)) ?_
    refine gp_quiet 10 rfl rfl rfl rfl rfl rfl (q_loadc Try.isAgg3 rfl (word_any hr9 (by omega))) ?_
    refine gp_fronto g ?_
    refine gp_frontb bm ?_
    refine gp_effa 11 [0, 10] [9, 8, 7, 6, 5, 4, 3, 2, 1] rfl rfl rfl rfl rfl rfl rfl (does_call Try.call26 rfl (ltake_ok _ _ bm g n c W hW hc hn (L.getD h.toNat 0) (hLb _).1 (hLb _).2)) ?_
    rintro _ _ ⟨k1, e1, W1, rfl, hW1, rfl, hTk⟩
    refine ⟨?_, ?_⟩
    · refine .cons rfl rfl rfl rfl rfl (q_ixs Try.underlying23 Try.sizeOf3 rfl rfl (by omega) (by omega)) ?_
      first | refine .cons rfl rfl rfl rfl rfl (q_ld Try.isAgg3 rfl rfl) ?_ | refine .cons rfl rfl rfl rfl rfl (q_ldw Try.isAgg3 rfl (by omega)) ?_
      refine .cons rfl rfl rfl rfl rfl (q_fieldAddr fa_84_1 rfl) ?_
      refine .cons rfl rfl rfl rfl rfl (q_nilCheck rfl) ?_
      refine .cons rfl rfl rfl rfl rfl (q_move rfl) ?_
      refine .cons rfl rfl rfl rfl rfl (q_ld Try.isAgg23 rfl rfl) ?_
      refine .cons rfl rfl rfl rfl rfl (q_fieldAddr fa_84_0 rfl) ?_
      refine .cons rfl rfl rfl rfl rfl (q_nilCheck rfl) ?_
      refine .cons rfl rfl rfl rfl rfl (q_move rfl) ?_
      exact .nil
    refine gp_quiet 12 rfl rfl rfl rfl rfl rfl (q_move rfl) ?_
    refine gp_quiet 13 rfl rfl rfl rfl rfl rfl (q_extract rfl rfl) ?_
    refine gp_quiet 14 rfl rfl rfl rfl rfl rfl (q_extract rfl rfl) ?_
    refine gp_quiet 15 rfl rfl rfl rfl rfl rfl (q_assign rfl) ?_
    refine gp_quiet 16 rfl rfl rfl rfl rfl rfl (q_assign rfl) ?_
    refine gp_end rfl rfl ?_
    refine g_seq ?_
    refine g_seq ?_
    refine g_region ?_
    refine l_move rfl rfl ?_
    refine l_neq rfl rfl rfl ?_
    refine l_nil ?_
    refine g_cond rfl ?_ ?_
    · intro hbr
      have hbr := of_decide_eq_true hbr
      refine g_seq ?_
      refine g_region ?_
      refine l_move rfl rfl ?_
      refine l_assign rfl rfl ?_
      refine l_assign rfl rfl ?_
      refine l_nil ?_
      refine g_ret Try.func32 rfl (.tmp rfl (.tmp rfl .nil)) ?_
      (first | exact Gives.mki ⟨false, 0, W, h, q, tt, nt, ct, T, rfl, hW, rfl, hT, htt, .inl ⟨hk.k2 (by omega) (by omega), rfl, rfl, rfl, rfl, rfl, rfl⟩⟩ | exact Gives.mki ⟨false, e1, W1, h, q, tt, nt, ct, T, rfl, hW1, rfl, hT, htt, .inr (.inr ⟨hk0.1, hk0.2, rfl, k1, hTk, .inr ⟨by omega, rfl, rfl, rfl⟩⟩)⟩ | exact Gives.mki ⟨true, 0, W1, h, true, a33, nt + 1, c33, T ++ [k1], rfl, hW1, rfl, by rw [List.length_append, hT]; rfl, ha33, .inr (.inr ⟨hk0.1, hk0.2, rfl, k1, (show e1 = 0 by omega) ▸ hTk, .inl ⟨rfl, rfl, rfl, rfl⟩⟩)⟩ | exact Gives.mki ⟨mi, e1, W, h + 1, false, some ⟨gt, 0, none⟩, nt, ct, T, rfl, hW, rfl, hT, .inr ⟨_, rfl⟩, .inr (.inl ⟨hk1.1, hk1.2, rfl, rfl, hMi, .inl ⟨hb78, rfl, rfl⟩⟩)⟩ | exact Gives.mki ⟨mi, e1, W, h, q, some ⟨gt, 0, none⟩, nt, ct, T, rfl, hW, rfl, hT, .inr ⟨_, rfl⟩, .inr (.inl ⟨hk1.1, hk1.2, rfl, rfl, hMi, .inr ⟨hb78, rfl, rfl⟩⟩)⟩)
    intro hbr
    have hbr := of_decide_eq_false hbr
    refine g_skip ?_
    refine g_seq ?_
    refine g_region ?_
    refine l_move rfl rfl ?_
    refine l_move rfl rfl ?_
    refine l_nilCheck rfl rfl ?_
    refine l_fieldAddr rfl fa_84_3 rfl ?_
    refine l_ld rfl Try.isAgg38 rfl rfl ?_
    refine l_frontv (.slice tt nt ct) ?_
    refine l_move rfl rfl ?_
    refine l_buildSlice rfl Try.underlying38 Try.sizeOf51 Try.zeroValue51 rfl rfl rfl rfl rfl rfl ?_; intro b44
    refine l_does rfl (does_apps 1 (by_ := 4) (kd := .u32) (V := T) (W := [k1]) (m := nt) (m2 := 1) (m3 := nt + 1) (V3 := T ++ [k1]) Try.underlying38 Try.type51 rfl rfl rfl rfl rfl rfl rfl ⟨rfl, .inl ⟨_, _, _, rfl, .own (mem_getO 0 rfl)⟩⟩ (by omega) (by simp only [maxLen]; omega) (by omega) rfl (fun _ _ => rfl)) ?_
    rintro _ _ ⟨a33, c33, ha33, hn33, rfl, rfl⟩
    refine l_nilCheck rfl rfl ?_
    refine l_fieldAddr rfl fa_84_3 rfl ?_
    refine l_st Try.sizeOf38 rfl rfl rfl rfl ?_
    refine l_nil ?_
    refine g_seq ?_
    refine g_region ?_
    refine l_move rfl rfl ?_
    refine l_nilCheck rfl rfl ?_
    refine l_fieldAddr rfl fa_84_2 rfl ?_
    refine l_st Try.sizeOf4 rfl rfl rfl rfl ?_
    refine l_nil ?_
    refine g_seq ?_
    refine g_region ?_
    refine l_assign rfl rfl ?_
    refine l_assign rfl rfl ?_
    refine l_nil ?_
    refine g_ret Try.func32 rfl (.tmp rfl (.tmp rfl .nil)) ?_
    (first | exact Gives.mki ⟨false, 0, W, h, q, tt, nt, ct, T, rfl, hW, rfl, hT, htt, .inl ⟨hk.k2 (by omega) (by omega), rfl, rfl, rfl, rfl, rfl, rfl⟩⟩ | exact Gives.mki ⟨false, e1, W1, h, q, tt, nt, ct, T, rfl, hW1, rfl, hT, htt, .inr (.inr ⟨hk0.1, hk0.2, rfl, k1, hTk, .inr ⟨by omega, rfl, rfl, rfl⟩⟩)⟩ | exact Gives.mki ⟨true, 0, W1, h, true, a33, nt + 1, c33, T ++ [k1], rfl, hW1, rfl, by rw [List.length_append, hT]; rfl, ha33, .inr (.inr ⟨hk0.1, hk0.2, rfl, k1, (show e1 = 0 by omega) ▸ hTk, .inl ⟨rfl, rfl, rfl, rfl⟩⟩)⟩ | exact Gives.mki ⟨mi, e1, W, h + 1, false, some ⟨gt, 0, none⟩, nt, ct, T, rfl, hW, rfl, hT, .inr ⟨_, rfl⟩, .inr (.inl ⟨hk1.1, hk1.2, rfl, rfl, hMi, .inl ⟨hb78, rfl, rfl⟩⟩)⟩ | exact Gives.mki ⟨mi, e1, W, h, q, some ⟨gt, 0, none⟩, nt, ct, T, rfl, hW, rfl, hT, .inr ⟨_, rfl⟩, .inr (.inl ⟨hk1.1, hk1.2, rfl, rfl, hMi, .inr ⟨hb78, rfl, rfl⟩⟩)⟩)
  intro hbr
  have hbr := of_decide_eq_false hbr
  refine g_seq ?_
  refine g_region ?_
  refine l_eql rfl rfl rfl ?_
  refine l_assign rfl rfl ?_
  refine l_nil ?_
  refine g_cond rfl ?_ ?_
  · intro hbr
    have hbr := of_decide_eq_true hbr
    refine g_seq ?_
    refine gp_start mo (by kernel_rfl) (by kernel_rfl) ?_
    have hk1 := hk.k1 (by omega)
    have hnt := hq1 hk1.2
    obtain ⟨gt, rfl⟩ := htt.resolve_left (by omega)
    refine gp_quiet 0 rfl rfl rfl rfl rfl rfl (q_move rfl) ?_
    refine gp_quiet 1 rfl rfl rfl rfl rfl rfl (q_move rfl) ?_
    refine gp_quiet 2 rfl rfl rfl rfl rfl rfl (q_nilCheck rfl) ?_
    refine gp_quiet 3 rfl rfl rfl rfl rfl rfl (q_fieldAddr fa_84_0 rfl) ?_
    refine gp_quiet 4 rfl rfl rfl rfl rfl rfl (q_ld Try.isAgg23 rfl rfl) ?_
    refine gp_quiet 5 rfl rfl rfl rfl rfl rfl (q_move rfl) ?_
    refine gp_quiet 6 rfl rfl rfl rfl rfl rfl (q_nilCheck rfl) ?_
    refine gp_quiet 7 rfl rfl rfl rfl rfl rfl (q_fieldAddr fa_84_1 rfl) ?_
    first | refine gp_quiet 8 rfl rfl rfl rfl rfl rfl (q_ld Try.isAgg3 rfl rfl) ?_ | refine gp_quiet 8 rfl rfl rfl rfl rfl rfl (q_ldw Try.isAgg3 rfl (by omega)) ?_
    obtain ⟨b9, o9, rfl, hr9⟩ := hLI.some (i := h.toNat) (by omega)
    refine gp_quiet 9 rfl rfl rfl rfl rfl rfl (q_ixs Try.underlying23 Try.sizeOf3 rfl rfl (by omega) (by omega)) ?_
    refine gp_quiet 10 rfl rfl rfl rfl rfl rfl (q_loadc Try.isAgg3 rfl (word_any hr9 (by omega))) ?_
    refine gp_quiet 11 rfl rfl rfl rfl rfl rfl (q_move rfl) ?_
    refine gp_quiet 12 rfl rfl rfl rfl rfl rfl (q_nilCheck rfl) ?_
    refine gp_quiet 13 rfl rfl rfl rfl rfl rfl (q_fieldAddr fa_84_3 rfl) ?_
    refine gp_quiet 14 rfl rfl rfl rfl rfl rfl (q_ld Try.isAgg38 rfl rfl) ?_
    refine gp_quiet 15 rfl rfl rfl rfl rfl rfl (q_move rfl) ?_
    refine gp_quiet 16 rfl rfl rfl rfl rfl rfl (q_nilCheck rfl) ?_
    refine gp_quiet 17 rfl rfl rfl rfl rfl rfl (q_fieldAddr fa_84_1 rfl) ?_
    first | refine gp_quiet 18 rfl rfl rfl rfl rfl rfl (q_ld Try.isAgg3 rfl rfl) ?_ | refine gp_quiet 18 rfl rfl rfl rfl rfl rfl (q_ldw Try.isAgg3 rfl (by omega)) ?_
    refine gp_quiet 19 rfl rfl rfl rfl rfl rfl (q_ixs Try.underlying38 Try.sizeOf51 rfl rfl (by omega) (by omega)) ?_
    refine gp_quiet 20 rfl rfl rfl rfl rfl rfl (q_ldw Try.isAgg51 rfl (by omega)) ?_
    refine gp_fronto g ?_
    refine gp_frontb bm ?_
    refine gp_effa 21 [0, 10, 20] [19, 18, 17, 16, 15, 14, 13, 12, 11, 9, 8, 7, 6, 5, 4, 3, 2, 1] rfl rfl rfl rfl rfl rfl rfl (does_call Try.call39 rfl (lmine_ok _ _ bm g n c W hW hc hn (L.getD h.toNat 0) (hLb _).1 (hLb _).2 (T.getD h.toNat 0))) ?_
    rintro _ _ ⟨mi, e1, rfl, rfl, hMi⟩
    refine ⟨?_, ?_⟩
    · refine .cons rfl rfl rfl rfl rfl (q_ixs Try.underlying38 Try.sizeOf51 rfl rfl (by omega) (by omega)) ?_
      first | refine .cons rfl rfl rfl rfl rfl (q_ld Try.isAgg3 rfl rfl) ?_ | refine .cons rfl rfl rfl rfl rfl (q_ldw Try.isAgg3 rfl (by omega)) ?_
      refine .cons rfl rfl rfl rfl rfl (q_fieldAddr fa_84_1 rfl) ?_
      refine .cons rfl rfl rfl rfl rfl (q_nilCheck rfl) ?_
      refine .cons rfl rfl rfl rfl rfl (q_move rfl) ?_
      refine .cons rfl rfl rfl rfl rfl (q_ld Try.isAgg38 rfl rfl) ?_
      refine .cons rfl rfl rfl rfl rfl (q_fieldAddr fa_84_3 rfl) ?_
      refine .cons rfl rfl rfl rfl rfl (q_nilCheck rfl) ?_
      refine .cons rfl rfl rfl rfl rfl (q_move rfl) ?_
      refine .cons rfl rfl rfl rfl rfl (q_ixs Try.underlying23 Try.sizeOf3 rfl rfl (by omega) (by omega)) ?_
      first | refine .cons rfl rfl rfl rfl rfl (q_ld Try.isAgg3 rfl rfl) ?_ | refine .cons rfl rfl rfl rfl rfl (q_ldw Try.isAgg3 rfl (by omega)) ?_
      refine .cons rfl rfl rfl rfl rfl (q_fieldAddr fa_84_1 rfl) ?_
      refine .cons rfl rfl rfl rfl rfl (q_nilCheck rfl) ?_
      refine .cons rfl rfl rfl rfl rfl (q_move rfl) ?_
      refine .cons rfl rfl rfl rfl rfl (q_ld Try.isAgg23 rfl rfl) ?_
      refine .cons rfl rfl rfl rfl rfl (q_fieldAddr fa_84_0 rfl) ?_
      refine .cons rfl rfl rfl rfl rfl (q_nilCheck rfl) ?_
      refine .cons rfl rfl rfl rfl rfl (q_move rfl) ?_
      exact .nil
    refine gp_quiet 22 rfl rfl rfl rfl rfl rfl (q_move rfl) ?_
    refine gp_quiet 23 rfl rfl rfl rfl rfl rfl (q_extract rfl rfl) ?_
    refine gp_quiet 24 rfl rfl rfl rfl rfl rfl (q_extract rfl rfl) ?_
    refine gp_quiet 25 rfl rfl rfl rfl rfl rfl (q_assign rfl) ?_
    refine gp_quiet 26 rfl rfl rfl rfl rfl rfl (q_assign rfl) ?_
    refine gp_end rfl rfl ?_
    refine g_seq ?_
    refine g_seq ?_
    refine g_region ?_
    refine l_move rfl rfl ?_
    refine l_nil ?_
    refine g_cond rfl ?_ ?_
    · intro hbr
      have hb78 := hbr
      refine g_seq ?_
      refine g_region ?_
      refine l_move rfl rfl ?_
      refine l_nilCheck rfl rfl ?_
      refine l_fieldAddr rfl fa_84_1 rfl ?_
      first | refine l_ld rfl Try.isAgg3 rfl rfl ?_ | refine l_ldw rfl Try.isAgg3 rfl (by omega) ?_
      first | refine l_add rfl rfl rfl (w_i64 (by omega) (by omega)) ?_ | refine l_addw rfl rfl rfl ?_
      refine l_nilCheck rfl rfl ?_
      refine l_fieldAddr rfl fa_84_1 rfl ?_
      first | refine l_st Try.sizeOf3 rfl rfl rfl rfl ?_ | refine l_stw Try.sizeOf3 rfl rfl (by omega) ?_
      refine l_nil ?_
      refine g_region ?_
      refine l_move rfl rfl ?_
      refine l_nilCheck rfl rfl ?_
      refine l_fieldAddr rfl fa_84_2 rfl ?_
      refine l_st Try.sizeOf4 rfl rfl rfl rfl ?_
      refine l_nil ?_
      refine g_seq ?_
      refine g_region ?_
      refine l_move rfl rfl ?_
      refine l_move rfl rfl ?_
      refine l_assign rfl rfl ?_
      refine l_assign rfl rfl ?_
      refine l_nil ?_
      refine g_ret Try.func32 rfl (.tmp rfl (.tmp rfl .nil)) ?_
      (first | exact Gives.mki ⟨false, 0, W, h, q, tt, nt, ct, T, rfl, hW, rfl, hT, htt, .inl ⟨hk.k2 (by omega) (by omega), rfl, rfl, rfl, rfl, rfl, rfl⟩⟩ | exact Gives.mki ⟨false, e1, W1, h, q, tt, nt, ct, T, rfl, hW1, rfl, hT, htt, .inr (.inr ⟨hk0.1, hk0.2, rfl, k1, hTk, .inr ⟨by omega, rfl, rfl, rfl⟩⟩)⟩ | exact Gives.mki ⟨true, 0, W1, h, true, a33, nt + 1, c33, T ++ [k1], rfl, hW1, rfl, by rw [List.length_append, hT]; rfl, ha33, .inr (.inr ⟨hk0.1, hk0.2, rfl, k1, (show e1 = 0 by omega) ▸ hTk, .inl ⟨rfl, rfl, rfl, rfl⟩⟩)⟩ | exact Gives.mki ⟨mi, e1, W, h + 1, false, some ⟨gt, 0, none⟩, nt, ct, T, rfl, hW, rfl, hT, .inr ⟨_, rfl⟩, .inr (.inl ⟨hk1.1, hk1.2, rfl, rfl, hMi, .inl ⟨hb78, rfl, rfl⟩⟩)⟩ | exact Gives.mki ⟨mi, e1, W, h, q, some ⟨gt, 0, none⟩, nt, ct, T, rfl, hW, rfl, hT, .inr ⟨_, rfl⟩, .inr (.inl ⟨hk1.1, hk1.2, rfl, rfl, hMi, .inr ⟨hb78, rfl, rfl⟩⟩)⟩)
    intro hbr
    have hb78 := hbr
    refine g_skip ?_
    refine g_seq ?_
    refine g_region ?_
    refine l_move rfl rfl ?_
    refine l_move rfl rfl ?_
    refine l_assign rfl rfl ?_
    refine l_assign rfl rfl ?_
    refine l_nil ?_
    refine g_ret Try.func32 rfl (.tmp rfl (.tmp rfl .nil)) ?_
    (first | exact Gives.mki ⟨false, 0, W, h, q, tt, nt, ct, T, rfl, hW, rfl, hT, htt, .inl ⟨hk.k2 (by omega) (by omega), rfl, rfl, rfl, rfl, rfl, rfl⟩⟩ | exact Gives.mki ⟨false, e1, W1, h, q, tt, nt, ct, T, rfl, hW1, rfl, hT, htt, .inr (.inr ⟨hk0.1, hk0.2, rfl, k1, hTk, .inr ⟨by omega, rfl, rfl, rfl⟩⟩)⟩ | exact Gives.mki ⟨true, 0, W1, h, true, a33, nt + 1, c33, T ++ [k1], rfl, hW1, rfl, by rw [List.length_append, hT]; rfl, ha33, .inr (.inr ⟨hk0.1, hk0.2, rfl, k1, (show e1 = 0 by omega) ▸ hTk, .inl ⟨rfl, rfl, rfl, rfl⟩⟩)⟩ | exact Gives.mki ⟨mi, e1, W, h + 1, false, some ⟨gt, 0, none⟩, nt, ct, T, rfl, hW, rfl, hT, .inr ⟨_, rfl⟩, .inr (.inl ⟨hk1.1, hk1.2, rfl, rfl, hMi, .inl ⟨hb78, rfl, rfl⟩⟩)⟩ | exact Gives.mki ⟨mi, e1, W, h, q, some ⟨gt, 0, none⟩, nt, ct, T, rfl, hW, rfl, hT, .inr ⟨_, rfl⟩, .inr (.inl ⟨hk1.1, hk1.2, rfl, rfl, hMi, .inr ⟨hb78, rfl, rfl⟩⟩)⟩)
  intro hbr
  have hbr := of_decide_eq_false hbr
  refine g_skip ?_
  refine g_inBlock ?_
  refine g_seq ?_
  refine g_region ?_
  refine l_assign rfl rfl ?_
  refine l_assign rfl rfl ?_
  refine l_nil ?_
  refine g_ret Try.func32 rfl (.tmp rfl (.tmp rfl .nil)) ?_
  (first | exact Gives.mki ⟨false, 0, W, h, q, tt, nt, ct, T, rfl, hW, rfl, hT, htt, .inl ⟨hk.k2 (by omega) (by omega), rfl, rfl, rfl, rfl, rfl, rfl⟩⟩ | exact Gives.mki ⟨false, e1, W1, h, q, tt, nt, ct, T, rfl, hW1, rfl, hT, htt, .inr (.inr ⟨hk0.1, hk0.2, rfl, k1, hTk, .inr ⟨by omega, rfl, rfl, rfl⟩⟩)⟩ | exact Gives.mki ⟨true, 0, W1, h, true, a33, nt + 1, c33, T ++ [k1], rfl, hW1, rfl, by rw [List.length_append, hT]; rfl, ha33, .inr (.inr ⟨hk0.1, hk0.2, rfl, k1, (show e1 = 0 by omega) ▸ hTk, .inl ⟨rfl, rfl, rfl, rfl⟩⟩)⟩ | exact Gives.mki ⟨mi, e1, W, h + 1, false, some ⟨gt, 0, none⟩, nt, ct, T, rfl, hW, rfl, hT, .inr ⟨_, rfl⟩, .inr (.inl ⟨hk1.1, hk1.2, rfl, rfl, hMi, .inl ⟨hb78, rfl, rfl⟩⟩)⟩ | exact Gives.mki ⟨mi, e1, W, h, q, some ⟨gt, 0, none⟩, nt, ct, T, rfl, hW, rfl, hT, .inr ⟨_, rfl⟩, .inr (.inl ⟨hk1.1, hk1.2, rfl, rfl, hMi, .inr ⟨hb78, rfl, rfl⟩⟩)⟩)
set_option maxHeartbeats 4000000 in
theorem chbackI_ok (w0 : World) (F : List Atom) (bm g n c : Nat) (W : List Int) (hW : W.length = n) (hc : n ≤ c) (hn : n ≤ 1073741824) (b : Nat) (al : Option Addr) (cl : Nat) (L : List Int) (h : Int) (q : Bool) (tt : Option Addr) (nt ct : Nat) (T : List Int) (hT : T.length = nt) (hL : L.length ≤ 8589934592) (hLb : I64s L) (hLI : IR w0 F .i64 al L.length L) (htt : nt = 0 ∨ ∃ g, tt = some ⟨g, 0, none⟩) (hok : ChOk L.length h q nt) :
    CallK Try.prog 34 [.pointer (some ⟨b, 0, none⟩), .pointer (some ⟨bm, 0, none⟩)] w0 (Blk bm (.cells [Value.slice (some ⟨g, 0, none⟩) n c].toArray 81 (0, 0)) :: Own 51 1 (.slice (some ⟨g, 0, none⟩) n c) n (ints .u32 W) :: Blk b (.cells [Value.slice al L.length cl, .int .i64 h, .bool q, .slice tt nt ct].toArray 84 (0, 0)) :: Own 51 1 (.slice tt nt ct) nt (ints .u32 T) :: F) (Gives w0 fun v F2 => ∃ d e W2 h2 q2 tt2 nt2 ct2 T2, v = .tuple #[.bool d, .int .i64 e] ∧ W2.length = n ∧ F2 = Blk bm (.cells [Value.slice (some ⟨g, 0, none⟩) n c].toArray 81 (0, 0)) :: Own 51 1 (.slice (some ⟨g, 0, none⟩) n c) n (ints .u32 W2) :: Blk b (.cells [Value.slice al L.length cl, .int .i64 h2, .bool q2, .slice tt2 nt2 ct2].toArray 84 (0, 0)) :: Own 51 1 (.slice tt2 nt2 ct2) nt2 (ints .u32 T2) :: F ∧ T2.length = nt2 ∧ (nt2 = 0 ∨ ∃ g, tt2 = some ⟨g, 0, none⟩) ∧ BackG n W L h q T d e W2 h2 q2 T2) := by
  obtain ⟨h0, h1, hq1, hq0⟩ := id hok
  refine c_enter Try.func34 rfl rfl rfl ?_
  refine g_seq ?_
  refine g_region ?_
  refine l_assign rfl rfl ?_
  refine l_assign rfl rfl ?_
  refine l_nil ?_
  refine g_seq ?_
  refine g_block ?_
  refine g_seq ?_
  refine g_region ?_
  refine l_move rfl rfl ?_
  refine l_eqpn rfl Try.underlying28 rfl rfl ?_
  refine l_move rfl rfl ?_
  refine l_split 11 rfl ?_ ?_
  · intro hbr
    first | (exfalso; simp at hbr; done) | (exfalso; simp at hbr; omega)
  intro hbr
  have hb11 := hbr
  refine l_guard_yes rfl rfl ?_
  refine l_move rfl rfl ?_
  refine l_guard_yes rfl rfl ?_
  refine l_eqpn rfl Try.underlying24 rfl rfl ?_
  refine l_pick_f rfl rfl rfl ?_
  refine l_assign rfl rfl ?_
  refine l_nil ?_
  refine g_cond rfl ?_ ?_
  · intro hbr
    first | (exfalso; simp at hbr; done) | (exfalso; simp at hbr; omega)
  intro hbr
  have hb8 := hbr
  refine g_seq ?_
  refine g_region ?_
  refine l_move rfl rfl ?_
  refine l_nilCheck rfl rfl ?_
  refine l_fieldAddr rfl fa_84_2 rfl ?_
  refine l_ld rfl Try.isAgg4 rfl rfl ?_
  refine l_assign rfl rfl ?_
  refine l_nil ?_
  refine g_cond rfl ?_ ?_
  · intro hbr
    have hb15 := hbr
    refine g_seq ?_
    refine g_region ?_
    refine l_assign rfl rfl ?_
    refine l_assign rfl rfl ?_
    refine l_nil ?_
    refine g_ret Try.func34 rfl (.tmp rfl (.tmp rfl .nil)) ?_
    (first | exact Gives.mki ⟨false, 170, W, h, q, tt, nt, ct, T, rfl, hW, rfl, hT, htt, rfl, .inl ⟨hb15, rfl, rfl, rfl, rfl, rfl⟩⟩ | exact Gives.mki ⟨true, 0, W, h, q, tt, nt, ct, T, rfl, hW, rfl, hT, htt, rfl, .inr (.inl ⟨hb15, by omega, rfl, rfl, rfl, rfl, rfl⟩)⟩ | exact Gives.mki ⟨false, e1, W1, h, q, some ⟨gt, 0, none⟩, nt, ct, T, rfl, hW1, rfl, hT, .inr ⟨_, rfl⟩, rfl, .inr (.inr ⟨hqf, hh9, hFr, .inl ⟨by omega, rfl, rfl, rfl⟩⟩)⟩ | exact Gives.mki ⟨_, 0, W1, h - 1, q, some ⟨gt, 0, none⟩, (h - 1).toNat, ct, T.take (h - 1).toNat, rfl, hW1, rfl, by rw [List.length_take]; omega, .inr ⟨_, rfl⟩, rfl, .inr (.inr ⟨hqf, hh9, (show e1 = 0 by omega) ▸ hFr, .inr ⟨rfl, rfl, rfl, rfl⟩⟩)⟩)
  intro hbr
  have hb15 := hbr
  refine g_seq ?_
  refine g_region ?_
  refine l_move rfl rfl ?_
  refine l_nilCheck rfl rfl ?_
  refine l_fieldAddr rfl fa_84_1 rfl ?_
  first | refine l_ld rfl Try.isAgg3 rfl rfl ?_ | refine l_ldw rfl Try.isAgg3 rfl (by omega) ?_
  refine l_eql rfl rfl rfl ?_
  refine l_assign rfl rfl ?_
  refine l_nil ?_
  refine g_cond rfl ?_ ?_
  · intro hbr
    have hbr := of_decide_eq_true hbr
    refine g_seq ?_
    refine g_region ?_
    refine l_assign rfl rfl ?_
    refine l_assign rfl rfl ?_
    refine l_nil ?_
    refine g_ret Try.func34 rfl (.tmp rfl (.tmp rfl .nil)) ?_
    (first | exact Gives.mki ⟨false, 170, W, h, q, tt, nt, ct, T, rfl, hW, rfl, hT, htt, rfl, .inl ⟨hb15, rfl, rfl, rfl, rfl, rfl⟩⟩ | exact Gives.mki ⟨true, 0, W, h, q, tt, nt, ct, T, rfl, hW, rfl, hT, htt, rfl, .inr (.inl ⟨hb15, by omega, rfl, rfl, rfl, rfl, rfl⟩)⟩ | exact Gives.mki ⟨false, e1, W1, h, q, some ⟨gt, 0, none⟩, nt, ct, T, rfl, hW1, rfl, hT, .inr ⟨_, rfl⟩, rfl, .inr (.inr ⟨hqf, hh9, hFr, .inl ⟨by omega, rfl, rfl, rfl⟩⟩)⟩ | exact Gives.mki ⟨_, 0, W1, h - 1, q, some ⟨gt, 0, none⟩, (h - 1).toNat, ct, T.take (h - 1).toNat, rfl, hW1, rfl, by rw [List.length_take]; omega, .inr ⟨_, rfl⟩, rfl, .inr (.inr ⟨hqf, hh9, (show e1 = 0 by omega) ▸ hFr, .inr ⟨rfl, rfl, rfl, rfl⟩⟩)⟩)
  intro hbr
  have hbr := of_decide_eq_false hbr
  refine g_skip ?_
  refine g_inBlock ?_
  refine g_seq ?_
  refine g_region ?_
  have hqf : q = false := hb15
  have hnt := hq0 hqf
  have hh9 : h ≠ 0 := (by omega)
  obtain ⟨gt, rfl⟩ := htt.resolve_left (by omega)
  refine l_fact (own_cases (mem_getO 3 rfl)) ?_; intro hown
  have hct : nt ≤ ct := by
    rcases hown.2.2 with ⟨h, _⟩ | ⟨g9, cp, h, h2⟩
    · cases h
    · cases h
      exact h2
  clear hown
  refine l_move rfl rfl ?_
  refine l_nilCheck rfl rfl ?_
  refine l_fieldAddr rfl fa_84_1 rfl ?_
  first | refine l_ld rfl Try.isAgg3 rfl rfl ?_ | refine l_ldw rfl Try.isAgg3 rfl (by omega) ?_
  first | refine l_sub_ rfl rfl rfl (w_i64 (by omega) (by omega)) ?_ | refine l_subw rfl rfl rfl ?_
  refine l_assign rfl rfl ?_
  refine l_nil ?_
  refine g_seq ?_
  refine g_seq ?_
  refine gp_start mo (by kernel_rfl) (by kernel_rfl) ?_
  refine gp_quiet 0 rfl rfl rfl rfl rfl rfl (q_move rfl) ?_
  refine gp_quiet 1 rfl rfl rfl rfl rfl rfl (q_move rfl) ?_
  refine gp_quiet 2 rfl rfl rfl rfl rfl rfl (q_nilCheck rfl) ?_
  refine gp_quiet 3 rfl rfl rfl rfl rfl rfl (q_fieldAddr fa_84_0 rfl) ?_
  refine gp_quiet 4 rfl rfl rfl rfl rfl rfl (q_ld Try.isAgg23 rfl rfl) ?_
  refine gp_quiet 5 rfl rfl rfl rfl rfl rfl (q_move rfl) ?_
  obtain ⟨b9, o9, rfl, hr9⟩ := hLI.some (i := (h - 1).toNat) (by omega)
  refine gp_quiet 6 rfl rfl rfl rfl rfl rfl (q_ixs Try.underlying23 Try.sizeOf3 rfl rfl (by omega) (by omega)) ?_
  refine gp_quiet 7 rfl rfl rfl rfl rfl rfl (q_loadc Try.isAgg3 rfl (word_any hr9 (by omega))) ?_
  refine gp_quiet 8 rfl rfl rfl rfl rfl rfl (q_move rfl) ?_
  refine gp_quiet 9 rfl rfl rfl rfl rfl rfl (q_nilCheck rfl) ?_
  refine gp_quiet 10 rfl rfl rfl rfl rfl rfl (q_fieldAddr fa_84_3 rfl) ?_
  refine gp_quiet 11 rfl rfl rfl rfl rfl rfl (q_ld Try.isAgg38 rfl rfl) ?_
  refine gp_quiet 12 rfl rfl rfl rfl rfl rfl (q_move rfl) ?_
  refine gp_quiet 13 rfl rfl rfl rfl rfl rfl (q_ixs Try.underlying38 Try.sizeOf51 rfl rfl (by omega) (by omega)) ?_
  refine gp_quiet 14 rfl rfl rfl rfl rfl rfl (q_ldw Try.isAgg51 rfl (by omega)) ?_
  refine gp_fronto g ?_
  refine gp_frontb bm ?_
  refine gp_effa 15 [0, 7, 14] [13, 12, 11, 10, 9, 8, 6, 5, 4, 3, 2, 1] rfl rfl rfl rfl rfl rfl rfl (does_call Try.call41 rfl (lfree_ok _ _ bm g n c W hW hc hn (L.getD (h - 1).toNat 0) (hLb _).1 (hLb _).2 (T.getD (h - 1).toNat 0))) ?_
  rintro _ _ ⟨e1, W1, rfl, hW1, rfl, hFr⟩
  refine ⟨?_, ?_⟩
  · refine .cons rfl rfl rfl rfl rfl (q_ixs Try.underlying38 Try.sizeOf51 rfl rfl (by omega) (by omega)) ?_
    refine .cons rfl rfl rfl rfl rfl (q_move rfl) ?_
    refine .cons rfl rfl rfl rfl rfl (q_ld Try.isAgg38 rfl rfl) ?_
    refine .cons rfl rfl rfl rfl rfl (q_fieldAddr fa_84_3 rfl) ?_
    refine .cons rfl rfl rfl rfl rfl (q_nilCheck rfl) ?_
    refine .cons rfl rfl rfl rfl rfl (q_move rfl) ?_
    refine .cons rfl rfl rfl rfl rfl (q_ixs Try.underlying23 Try.sizeOf3 rfl rfl (by omega) (by omega)) ?_
    refine .cons rfl rfl rfl rfl rfl (q_move rfl) ?_
    refine .cons rfl rfl rfl rfl rfl (q_ld Try.isAgg23 rfl rfl) ?_
    refine .cons rfl rfl rfl rfl rfl (q_fieldAddr fa_84_0 rfl) ?_
    refine .cons rfl rfl rfl rfl rfl (q_nilCheck rfl) ?_
    refine .cons rfl rfl rfl rfl rfl (q_move rfl) ?_
    exact .nil
  refine gp_quiet 16 rfl rfl rfl rfl rfl rfl (q_assign rfl) ?_
  refine gp_end rfl rfl ?_
  refine g_seq ?_
  refine g_region ?_
  refine l_move rfl rfl ?_
  refine l_neq rfl rfl rfl ?_
  refine l_nil ?_
  refine g_cond rfl ?_ ?_
  · intro hbr
    have hbr := of_decide_eq_true hbr
    refine g_seq ?_
    refine g_region ?_
    refine l_move rfl rfl ?_
    refine l_assign rfl rfl ?_
    refine l_assign rfl rfl ?_
    refine l_nil ?_
    refine g_ret Try.func34 rfl (.tmp rfl (.tmp rfl .nil)) ?_
    (first | exact Gives.mki ⟨false, 170, W, h, q, tt, nt, ct, T, rfl, hW, rfl, hT, htt, rfl, .inl ⟨hb15, rfl, rfl, rfl, rfl, rfl⟩⟩ | exact Gives.mki ⟨true, 0, W, h, q, tt, nt, ct, T, rfl, hW, rfl, hT, htt, rfl, .inr (.inl ⟨hb15, by omega, rfl, rfl, rfl, rfl, rfl⟩)⟩ | exact Gives.mki ⟨false, e1, W1, h, q, some ⟨gt, 0, none⟩, nt, ct, T, rfl, hW1, rfl, hT, .inr ⟨_, rfl⟩, rfl, .inr (.inr ⟨hqf, hh9, hFr, .inl ⟨by omega, rfl, rfl, rfl⟩⟩)⟩ | exact Gives.mki ⟨_, 0, W1, h - 1, q, some ⟨gt, 0, none⟩, (h - 1).toNat, ct, T.take (h - 1).toNat, rfl, hW1, rfl, by rw [List.length_take]; omega, .inr ⟨_, rfl⟩, rfl, .inr (.inr ⟨hqf, hh9, (show e1 = 0 by omega) ▸ hFr, .inr ⟨rfl, rfl, rfl, rfl⟩⟩)⟩)
  intro hbr
  have hbr := of_decide_eq_false hbr
  refine g_skip ?_
  refine g_seq ?_
  refine gp_start mo (by kernel_rfl) (by kernel_rfl) ?_
  refine gp_quiet 0 rfl rfl rfl rfl rfl rfl (q_move rfl) ?_
  refine gp_quiet 1 rfl rfl rfl rfl rfl rfl (q_move rfl) ?_
  refine gp_quiet 2 rfl rfl rfl rfl rfl rfl (q_move rfl) ?_
  refine gp_quiet 3 rfl rfl rfl rfl rfl rfl (q_move rfl) ?_
  refine gp_quiet 4 rfl rfl rfl rfl rfl rfl (q_nilCheck rfl) ?_
  refine gp_quiet 5 rfl rfl rfl rfl rfl rfl (q_fieldAddr fa_84_3 rfl) ?_
  refine gp_quiet 6 rfl rfl rfl rfl rfl rfl (q_ld Try.isAgg38 rfl rfl) ?_
  refine gp_quiet 7 rfl rfl rfl rfl rfl rfl (q_move rfl) ?_
  refine gp_quiet 8 rfl rfl rfl rfl rfl rfl (q_slice_hi Try.underlying38 Try.sizeOf51 rfl rfl (by omega) (by omega)) ?_
  refine gp_quiet 9 rfl rfl rfl rfl rfl rfl (q_nilCheck rfl) ?_
  refine gp_quiet 10 rfl rfl rfl rfl rfl rfl (q_fieldAddr fa_84_1 rfl) ?_
  first | refine gp_effa 11 [0, 2, 6, 10] [9, 8, 7, 5, 4, 3, 1] rfl rfl rfl rfl rfl rfl rfl (does_st Try.sizeOf3 rfl rfl rfl rfl) ?_ | refine gp_effa 11 [0, 2, 6, 10] [9, 8, 7, 5, 4, 3, 1] rfl rfl rfl rfl rfl rfl rfl (does_stw Try.sizeOf3 rfl rfl (by omega)) ?_
  rintro _ _ ⟨rfl, rfl⟩
  refine ⟨?_, ?_⟩
  · refine .cons rfl rfl rfl rfl rfl (q_nilCheck rfl) ?_
    refine .cons rfl rfl rfl rfl rfl (q_slice_hi Try.underlying38 Try.sizeOf51 rfl rfl (by omega) (by omega)) ?_
    refine .cons rfl rfl rfl rfl rfl (q_move rfl) ?_
    refine .cons rfl rfl rfl rfl rfl (q_fieldAddr fa_84_3 rfl) ?_
    refine .cons rfl rfl rfl rfl rfl (q_nilCheck rfl) ?_
    refine .cons rfl rfl rfl rfl rfl (q_move rfl) ?_
    refine .cons rfl rfl rfl rfl rfl (q_move rfl) ?_
    exact .nil
  refine gp_quiet 12 rfl rfl rfl rfl rfl rfl (q_nilCheck rfl) ?_
  refine gp_quiet 13 rfl rfl rfl rfl rfl rfl (q_fieldAddr fa_84_3 rfl) ?_
  refine gp_effa 14 [1, 3, 4, 5, 7, 8, 9, 13] [12] rfl rfl rfl rfl rfl rfl rfl (does_st Try.sizeOf38 rfl rfl rfl rfl) ?_
  rintro _ _ ⟨rfl, rfl⟩
  refine ⟨?_, ?_⟩
  · refine .cons rfl rfl rfl rfl rfl (q_nilCheck rfl) ?_
    exact .nil
  refine gp_end rfl rfl ?_
  refine g_seq ?_
  refine g_region ?_
  refine l_fronto gt ?_
  refine gl_heap (fun w hw => hw.as (own_shrink (k := (h - 1).toNat) (by omega)) (fun b hb => hb)) ?_
  rw [ints_take]
  refine l_move rfl rfl ?_
  refine l_eql rfl rfl rfl ?_
  refine l_assign rfl rfl ?_
  refine l_assign rfl rfl ?_
  refine l_nil ?_
  refine g_ret Try.func34 rfl (.tmp rfl (.tmp rfl .nil)) ?_
  (first | exact Gives.mki ⟨false, 170, W, h, q, tt, nt, ct, T, rfl, hW, rfl, hT, htt, rfl, .inl ⟨hb15, rfl, rfl, rfl, rfl, rfl⟩⟩ | exact Gives.mki ⟨true, 0, W, h, q, tt, nt, ct, T, rfl, hW, rfl, hT, htt, rfl, .inr (.inl ⟨hb15, by omega, rfl, rfl, rfl, rfl, rfl⟩)⟩ | exact Gives.mki ⟨false, e1, W1, h, q, some ⟨gt, 0, none⟩, nt, ct, T, rfl, hW1, rfl, hT, .inr ⟨_, rfl⟩, rfl, .inr (.inr ⟨hqf, hh9, hFr, .inl ⟨by omega, rfl, rfl, rfl⟩⟩)⟩ | exact Gives.mki ⟨_, 0, W1, h - 1, q, some ⟨gt, 0, none⟩, (h - 1).toNat, ct, T.take (h - 1).toNat, rfl, hW1, rfl, by rw [List.length_take]; omega, .inr ⟨_, rfl⟩, rfl, .inr (.inr ⟨hqf, hh9, (show e1 = 0 by omega) ▸ hFr, .inr ⟨rfl, rfl, rfl, rfl⟩⟩)⟩)
end Go.Proofs.Ythemlddepepekaa.Fw
