import Derived.Test.YthngpcaljljlaaaMore
namespace Go.Proofs.Ythngpcaljljlaaa.Fw
open Go Go.Proofs
set_option linter.unusedVariables false
set_option linter.unusedSimpArgs false
set_option maxRecDepth 10000

def msgN (l : List Int) (h : Nat) : Nat := (l.getD (h - 1) 0).toNat
def AllZ (l : List Int) : Prop := ∀ i, i < l.length → l.getD i 0 = 0
def MsgC (l : List Int) (h : Nat) : Prop := 1 ≤ msgN l h ∧ h + msgN l h ≤ l.length ∧ ∀ i, h + msgN l h ≤ i → i < l.length → l.getD i 0 = 0
open Classical in
/-- What a stage or a port holds; none: it is not right. -/
noncomputable def heldV (l : List Int) (h : Nat) : Option (List Int) :=
  if AllZ l then some [] else if l.getD 0 0 = 1 ∧ (h = 3 → l.getD 1 0 ≤ 1) ∧ MsgC l h then some ((l.drop h).take (msgN l h)) else none
theorem heldV_z {l : List Int} {h : Nat} (hz : AllZ l) : heldV l h = some [] := by unfold heldV; rw [if_pos hz]
theorem heldV_no {l : List Int} {h : Nat} (hz : ¬ AllZ l) (hc : ¬ (l.getD 0 0 = 1 ∧ (h = 3 → l.getD 1 0 ≤ 1) ∧ MsgC l h)) : heldV l h = none := by unfold heldV; rw [if_neg hz, if_neg hc]
theorem heldV_msg {l : List Int} {h : Nat} (hz : ¬ AllZ l) (h1 : l.getD 0 0 = 1) (h2 : h = 3 → l.getD 1 0 ≤ 1) (h3 : MsgC l h) : heldV l h = some ((l.drop h).take (msgN l h)) := by unfold heldV; rw [if_neg hz, if_pos ⟨h1, h2, h3⟩]
def W32s (W : List Int) : Prop := ∀ i, 0 ≤ W.getD i 0 ∧ W.getD i 0 ≤ 4294967295
theorem W32s.of {W : List Int} (h : ∀ x ∈ W, 0 ≤ x ∧ x ≤ 4294967295) : W32s W := by
  intro i
  rcases Nat.lt_or_ge i W.length with hi | hi
  · have : W.getD i 0 = W[i] := by simp [hi]
    rw [this]; exact h _ (List.getElem_mem _)
  · have : W.getD i 0 = 0 := by simp [List.getD_eq_getElem?_getD, hi]
    rw [this]; decide
theorem getD_part {W : List Int} {a m i : Nat} : ((W.drop a).take m).getD i 0 = if i < m then W.getD (a + i) 0 else 0 := by
  simp only [List.getD_eq_getElem?_getD, List.getElem?_take, List.getElem?_drop]
  split <;> simp
theorem W32s.part {W : List Int} (h : W32s W) (a m : Nat) : W32s ((W.drop a).take m) := by
  intro i
  rw [getD_part]
  split
  · exact h _
  · decide
theorem g_wnil {P : Program} {f : FuncId} {w0 : World} {K : Post} {n : Nat} {d : List Deferred} {k : List Item} {e : Env} {F : List Atom} (E : Nat) (kd : IntKind) (h : G P f w0 K n d k e (Own E 1 (.slice none 0 0) 0 (ints kd []) :: F)) : G P f w0 K n d k e F := g_own_nil E 1 h
theorem gives_imp {w0 : World} {R R2 : Value → List Atom → Prop} (h : ∀ v F, R v F → R2 v F) {en F} (hg : Gives w0 R en F) : Gives w0 R2 en F := by
  obtain ⟨v, F2, he, hr, hp⟩ := hg
  exact ⟨v, F2, he, h _ _ hr, hp⟩
theorem callk_imp {P : Program} {f : FuncId} {args : List Value} {w0 : World} {F : List Atom} {R R2 : Value → List Atom → Prop} (hc : CallK P f args w0 F (Gives w0 R)) (h : ∀ v F, R v F → R2 v F) : CallK P f args w0 F (Gives w0 R2) := fun w hw => (hc w hw).mono fun e w' ⟨F', hg, hw'⟩ => ⟨F', gives_imp h hg, hw'⟩
/-- A list that a call tells, new. -/
def MsgG (l : List Int) (h : Nat) (T : List Int) (t : Bool) : Prop := (t = true ∧ MsgC l h ∧ T = (l.drop h).take (msgN l h)) ∨ (t = false ∧ ¬ MsgC l h ∧ T = [])
def HeldG (l : List Int) (h : Nat) (T : List Int) (t : Bool) : Prop := (t = true ∧ heldV l h = some T) ∨ (t = false ∧ T = [] ∧ heldV l h = none)
theorem HeldG.of_msg {l : List Int} {h : Nat} {T : List Int} {t : Bool} (hm : MsgG l h T t) (hz : ¬ AllZ l) (h1 : l.getD 0 0 = 1) (h2 : h = 3 → l.getD 1 0 ≤ 1) : HeldG l h T t := by
  rcases hm with ⟨rfl, h3, rfl⟩ | ⟨rfl, h3, rfl⟩
  · exact .inl ⟨rfl, heldV_msg hz h1 h2 h3⟩
  · exact .inr ⟨rfl, rfl, heldV_no hz fun h => h3 h.2.2⟩
theorem empty_ok (w0 : World) (F : List Atom) (g n c : Nat) (l : List Int) (hl : l.length = n) (hc : n ≤ c) (hr : RowAt w0 F g 0 (ints .u32 l)) (hU : W32s l) (hn : n ≤ 1073741824) :
    CallK Try.prog 54 [.slice (some ⟨g, 0, none⟩) n c] w0 (F) (Gives w0 fun v F2 => ∃ t, v = .bool t ∧ F2 = F ∧ (t = true ↔ AllZ l)) := by
  refine c_enter Try.func54 rfl rfl rfl ?_
  refine g_seq ?_
  refine g_region ?_
  refine l_assign rfl rfl ?_
  refine l_nil ?_
  refine g_seq ?_
  refine g_seq ?_
  refine g_region ?_
  refine l_move rfl rfl ?_
  refine l_len rfl Try.underlying29 rfl ?_
  refine l_move rfl rfl ?_
  refine l_nil ?_
  refine g_block ?_
  refine g_loopc (X := Int) [(5, _), (6, _)] (.cons rfl (.cons rfl (.nil))) (fun i => 0 ≤ i ∧ i ≤ n ∧ ∀ j : Nat, j < i → l.getD j 0 = 0) (fun i => (n - i).toNat) (fun i => [(7, .int .i64 i)]) (0) (⟨by omega, by omega, fun j hj => by omega⟩) (.cons rfl .nil) ?_
  rintro i ⟨i0, i1, hz⟩ ih
  dsimp only [List.cons_append, List.nil_append] at ih ⊢
  refine g_seq ?_
  refine g_region ?_
  refine l_lss rfl rfl rfl ?_
  refine l_nil ?_
  refine g_seq ?_
  refine g_cond rfl ?_ ?_
  · intro hbr
    have hbr := of_decide_eq_true hbr
    refine g_skip ?_
    refine g_seq ?_
    refine g_block ?_
    refine g_seq ?_
    refine g_region ?_
    refine l_ixs rfl Try.underlying29 Try.sizeOf28 rfl rfl (by omega) (by omega) ?_
    refine l_loadc rfl Try.isAgg28 rfl (word_row hr.ex (by omega)) ?_
    refine l_assign rfl rfl ?_
    refine l_nil ?_
    refine g_seq ?_
    refine g_region ?_
    refine l_move rfl rfl ?_
    refine l_neq rfl rfl rfl ?_
    refine l_nil ?_
    refine g_cond rfl ?_ ?_
    · intro hbr
      have hbr := of_decide_eq_true hbr
      refine g_seq ?_
      refine g_region ?_
      refine l_assign rfl rfl ?_
      refine l_nil ?_
      refine g_ret Try.func54 rfl (.tmp rfl .nil) ?_
      (first | exact Gives.mki ⟨true, rfl, rfl, ⟨fun _ j hj => hz j (by omega), fun _ => rfl⟩⟩ | exact Gives.mki ⟨false, rfl, rfl, ⟨fun h => (by cases h), fun h => absurd (h i.toNat (by omega)) (by omega)⟩⟩)
    intro hbr
    have hbr := of_decide_eq_false hbr
    refine g_skip ?_
    refine g_inBlock ?_
    refine g_region ?_
    first | refine l_add rfl rfl rfl (w_i64 (by omega) (by omega)) ?_ | refine l_addw rfl rfl rfl ?_
    refine l_move rfl rfl ?_
    refine l_nil ?_
    exact g_againi (ih (i + 1) ⟨by omega, by omega, fun j hj => by rcases (show (j : Int) < i ∨ j = i.toNat by omega) with h | rfl; exact hz j h; omega⟩ (by omega)) (.cons rfl (.cons rfl (.cons rfl (.nil))))
  intro hbr
  have hbr := of_decide_eq_false hbr
  refine g_exit rfl ?_
  obtain rfl : i = n := by omega
  refine g_seq ?_
  refine g_region ?_
  refine l_assign rfl rfl ?_
  refine l_nil ?_
  refine g_ret Try.func54 rfl (.tmp rfl .nil) ?_
  (first | exact Gives.mki ⟨true, rfl, rfl, ⟨fun _ j hj => hz j (by omega), fun _ => rfl⟩⟩ | exact Gives.mki ⟨false, rfl, rfl, ⟨fun h => (by cases h), fun h => absurd (h i.toNat (by omega)) (by omega)⟩⟩)
theorem message_ok (w0 : World) (F : List Atom) (g n c : Nat) (l : List Int) (hl : l.length = n) (hc : n ≤ c) (hr : RowAt w0 F g 0 (ints .u32 l)) (hU : W32s l) (hn : n ≤ 1073741824) (h : Nat) (h1 : 1 ≤ h) (hh : h ≤ n) :
    CallK Try.prog 55 [.slice (some ⟨g, 0, none⟩) n c, .int .i64 h] w0 (F) (Gives w0 fun v F2 => ∃ a q c2 T t, v = .tuple #[.slice a q c2, .bool t] ∧ T.length = q ∧ (q = 0 ∨ ∃ g2, a = some ⟨g2, 0, none⟩) ∧ F2 = Own 28 1 (.slice a q c2) q (ints .u32 T) :: F ∧ MsgG l h T t) := by
  obtain ⟨m, hm⟩ := Int.eq_ofNat_of_zero_le (hU (h - 1)).1
  have hmn : msgN l h = m := by unfold msgN; rw [hm]; rfl
  have hmb := (hU (h - 1)).2
  rw [hm] at hmb
  refine c_enter Try.func55 rfl rfl rfl ?_
  refine g_seq ?_
  refine g_region ?_
  refine l_assign rfl rfl ?_
  refine l_assign rfl rfl ?_
  refine l_nil ?_
  refine g_seq ?_
  refine g_region ?_
  refine l_move rfl rfl ?_
  refine l_move rfl rfl ?_
  first | refine l_sub_ rfl rfl rfl (w_i64 (by omega) (by omega)) ?_ | refine l_subw rfl rfl rfl ?_
  refine l_ixs rfl Try.underlying29 Try.sizeOf28 rfl rfl (by omega) (by omega) ?_
  refine l_loadc rfl Try.isAgg28 rfl (word_row hr.ex (by omega)) ?_
  rw [show ((h : Int) - 1).toNat = h - 1 by omega, hm]
  first | refine l_conv rfl Try.underlying28 Try.underlying3 rfl (w_i64 (by omega) (by omega)) ?_ | refine l_convw rfl Try.underlying28 Try.underlying3 rfl ?_
  refine l_assign rfl rfl ?_
  refine l_nil ?_
  refine g_seq ?_
  refine g_region ?_
  refine l_move rfl rfl ?_
  refine l_move rfl rfl ?_
  refine l_slice_lo rfl Try.underlying29 Try.sizeOf28 rfl rfl (by omega) (by omega) (by omega) ?_; intro o19 ho19
  refine l_assign rfl rfl ?_
  refine l_nil ?_
  refine g_seq ?_
  refine g_seq ?_
  refine g_region ?_
  have row : RowAt w0 F g o19 (ints .u32 (l.drop h)) := by
    have := words_from hr ho19 (by omega)
    rwa [Int.toNat_natCast] at this
  refine l_move rfl rfl ?_
  refine l_lss rfl rfl rfl ?_
  refine l_move rfl rfl ?_
  refine l_split 22 rfl ?_ ?_
  · intro hbr
    have hbr := of_decide_eq_true hbr
    refine l_guard_no rfl rfl rfl ?_
    refine l_guard_no rfl rfl rfl ?_
    refine l_guard_no rfl rfl rfl ?_
    refine l_guard_no rfl rfl rfl ?_
    refine l_pick_t rfl rfl rfl ?_
    refine l_nil ?_
    refine g_cond_t rfl ?_
    refine g_seq ?_
    refine g_region ?_
    refine l_assign rfl rfl ?_
    refine l_assign rfl rfl ?_
    refine l_nil ?_
    refine g_wnil 28 .u32 ?_
    refine g_ret Try.func55 rfl (.tmp rfl (.tmp rfl .nil)) ?_
    (first | exact Gives.mki ⟨none, 0, 0, [], false, rfl, rfl, .inl rfl, rfl, .inr ⟨rfl, fun hc => by have h1 := hc.1; have h2 := hc.2.1; rw [hmn] at h1 h2; omega, rfl⟩⟩ | exact Gives.mki ⟨none, 0, 0, [], false, rfl, rfl, .inl rfl, rfl, .inr ⟨rfl, fun hc => by have h3 := hc.2.2 (h + m + i.toNat) (by rw [hmn]; omega) (by omega); omega, rfl⟩⟩ | exact Gives.mki ⟨_, m, m, (l.drop h).take m, true, rfl, by rw [List.length_take, List.length_drop]; omega, .inr ⟨b40, rfl⟩, rfl, .inl ⟨rfl, ⟨by rw [hmn]; omega, by rw [hmn]; omega, fun j h1 h2 => by rw [hmn] at h1; have := hz (j - h - m) (by omega); rwa [show h + m + (j - h - m) = j by omega] at this⟩, by rw [hmn]⟩⟩)
  intro hbr
  have hbr := of_decide_eq_false hbr
  refine l_guard_yes rfl rfl ?_
  refine l_move rfl rfl ?_
  refine l_guard_yes rfl rfl ?_
  refine l_move rfl rfl ?_
  refine l_guard_yes rfl rfl ?_
  refine l_len rfl Try.underlying29 rfl ?_
  refine l_guard_yes rfl rfl ?_
  refine l_gtr rfl rfl rfl ?_
  refine l_pick_f rfl rfl rfl ?_
  refine l_nil ?_
  refine g_cond rfl ?_ ?_
  · intro hbr
    have hbr := of_decide_eq_true hbr
    refine g_seq ?_
    refine g_region ?_
    refine l_assign rfl rfl ?_
    refine l_assign rfl rfl ?_
    refine l_nil ?_
    refine g_wnil 28 .u32 ?_
    refine g_ret Try.func55 rfl (.tmp rfl (.tmp rfl .nil)) ?_
    (first | exact Gives.mki ⟨none, 0, 0, [], false, rfl, rfl, .inl rfl, rfl, .inr ⟨rfl, fun hc => by have h1 := hc.1; have h2 := hc.2.1; rw [hmn] at h1 h2; omega, rfl⟩⟩ | exact Gives.mki ⟨none, 0, 0, [], false, rfl, rfl, .inl rfl, rfl, .inr ⟨rfl, fun hc => by have h3 := hc.2.2 (h + m + i.toNat) (by rw [hmn]; omega) (by omega); omega, rfl⟩⟩ | exact Gives.mki ⟨_, m, m, (l.drop h).take m, true, rfl, by rw [List.length_take, List.length_drop]; omega, .inr ⟨b40, rfl⟩, rfl, .inl ⟨rfl, ⟨by rw [hmn]; omega, by rw [hmn]; omega, fun j h1 h2 => by rw [hmn] at h1; have := hz (j - h - m) (by omega); rwa [show h + m + (j - h - m) = j by omega] at this⟩, by rw [hmn]⟩⟩)
  intro hbr
  have hbr := of_decide_eq_false hbr
  refine g_skip ?_
  refine g_seq ?_
  refine g_seq ?_
  refine g_region ?_
  refine l_move rfl rfl ?_
  refine l_move rfl rfl ?_
  refine l_slice_lo rfl Try.underlying29 Try.sizeOf28 rfl rfl (by omega) (by omega) (by omega) ?_; intro o30 ho30
  refine l_len rfl Try.underlying29 rfl ?_
  refine l_move rfl rfl ?_
  refine l_nil ?_
  refine g_block ?_
  refine g_loopc (X := Int) [(6, _), (7, _), (30, _), (31, _)] (.cons rfl (.cons rfl (.cons rfl (.cons rfl (.nil))))) (fun i => 0 ≤ i ∧ i ≤ ((n - h - m : Nat) : Int) ∧ ∀ j : Nat, j < i → l.getD (h + m + j) 0 = 0) (fun i => (((n - h - m : Nat) : Int) - i).toNat) (fun i => [(32, .int .i64 i)]) (0) (⟨by omega, by omega, fun j hj => by omega⟩) (.cons rfl .nil) ?_
  rintro i ⟨i0, i1, hz⟩ ih
  dsimp only [List.cons_append, List.nil_append] at ih ⊢
  refine g_seq ?_
  refine g_region ?_
  refine l_lss rfl rfl rfl ?_
  refine l_nil ?_
  refine g_seq ?_
  refine g_cond rfl ?_ ?_
  · intro hbr
    have hbr := of_decide_eq_true hbr
    refine g_skip ?_
    refine g_seq ?_
    refine g_block ?_
    refine g_seq ?_
    refine g_region ?_
    refine l_ixs rfl Try.underlying29 Try.sizeOf28 rfl rfl (by omega) (by omega) ?_
    rw [show o30 + i.toNat * 1 = o19 + (m + i.toNat) * 1 by omega]
    refine l_loadc (v := .int .u32 (l.getD (h + m + i.toNat) 0)) rfl Try.isAgg28 rfl (by rw [show l.getD (h + m + i.toNat) 0 = (l.drop h).getD (m + i.toNat) 0 by simp [List.getD_eq_getElem?_getD, Nat.add_assoc]]; exact word_row row.ex (by rw [List.length_drop]; omega)) ?_
    refine l_assign rfl rfl ?_
    refine l_nil ?_
    refine g_seq ?_
    refine g_region ?_
    refine l_move rfl rfl ?_
    refine l_neq rfl rfl rfl ?_
    refine l_nil ?_
    refine g_cond rfl ?_ ?_
    · intro hbr
      have hbr := of_decide_eq_true hbr
      refine g_seq ?_
      refine g_region ?_
      refine l_assign rfl rfl ?_
      refine l_assign rfl rfl ?_
      refine l_nil ?_
      refine g_wnil 28 .u32 ?_
      refine g_ret Try.func55 rfl (.tmp rfl (.tmp rfl .nil)) ?_
      (first | exact Gives.mki ⟨none, 0, 0, [], false, rfl, rfl, .inl rfl, rfl, .inr ⟨rfl, fun hc => by have h1 := hc.1; have h2 := hc.2.1; rw [hmn] at h1 h2; omega, rfl⟩⟩ | exact Gives.mki ⟨none, 0, 0, [], false, rfl, rfl, .inl rfl, rfl, .inr ⟨rfl, fun hc => by have h3 := hc.2.2 (h + m + i.toNat) (by rw [hmn]; omega) (by omega); omega, rfl⟩⟩ | exact Gives.mki ⟨_, m, m, (l.drop h).take m, true, rfl, by rw [List.length_take, List.length_drop]; omega, .inr ⟨b40, rfl⟩, rfl, .inl ⟨rfl, ⟨by rw [hmn]; omega, by rw [hmn]; omega, fun j h1 h2 => by rw [hmn] at h1; have := hz (j - h - m) (by omega); rwa [show h + m + (j - h - m) = j by omega] at this⟩, by rw [hmn]⟩⟩)
    intro hbr
    have hbr := of_decide_eq_false hbr
    refine g_skip ?_
    refine g_inBlock ?_
    refine g_region ?_
    first | refine l_add rfl rfl rfl (w_i64 (by omega) (by omega)) ?_ | refine l_addw rfl rfl rfl ?_
    refine l_move rfl rfl ?_
    refine l_nil ?_
    exact g_againi (ih (i + 1) ⟨by omega, by omega, fun j hj => by rcases (show (j : Int) < i ∨ j = i.toNat by omega) with h | rfl; exact hz j h; omega⟩ (by omega)) (.cons rfl (.cons rfl (.cons rfl (.cons rfl (.cons rfl (.nil))))))
  intro hbr
  have hbr := of_decide_eq_false hbr
  refine g_exit rfl ?_
  obtain rfl : i = ((n - h - m : Nat) : Int) := by omega
  refine g_seq ?_
  refine g_region ?_
  refine l_move rfl rfl ?_
  refine l_makew rfl Try.underlying29 Try.type28 rfl rfl rfl rfl (by omega) (by show (4 : Int) * _ ≤ _; omega) (by omega) ?_; intro b40; rw [Int.toNat_natCast]
  refine l_assign rfl rfl ?_
  refine l_nil ?_
  refine g_seq ?_
  refine g_region ?_
  refine l_move rfl rfl ?_
  refine l_move rfl rfl ?_
  refine l_copyw 0 (W := l.drop h) rfl Try.underlying29 Try.sizeOf28 rfl rfl rfl ⟨by rw [ints_length, List.length_drop]; omega, .inl ⟨_, _, _, rfl, row.ex⟩⟩ (by simp; omega) (by rw [spl_full (q := n - ((h : Nat) : Int).toNat) (m := m) (by simp) (by rw [List.length_drop]; omega) (by omega)]; rfl) ?_
  refine l_nil ?_
  refine g_seq ?_
  refine g_region ?_
  refine l_move rfl rfl ?_
  refine l_assign rfl rfl ?_
  refine l_assign rfl rfl ?_
  refine l_nil ?_
  refine g_wnil 28 .u32 ?_
  refine g_ret Try.func55 rfl (.tmp rfl (.tmp rfl .nil)) ?_
  (first | exact Gives.mki ⟨none, 0, 0, [], false, rfl, rfl, .inl rfl, rfl, .inr ⟨rfl, fun hc => by have h1 := hc.1; have h2 := hc.2.1; rw [hmn] at h1 h2; omega, rfl⟩⟩ | exact Gives.mki ⟨none, 0, 0, [], false, rfl, rfl, .inl rfl, rfl, .inr ⟨rfl, fun hc => by have h3 := hc.2.2 (h + m + i.toNat) (by rw [hmn]; omega) (by omega); omega, rfl⟩⟩ | exact Gives.mki ⟨_, m, m, (l.drop h).take m, true, rfl, by rw [List.length_take, List.length_drop]; omega, .inr ⟨b40, rfl⟩, rfl, .inl ⟨rfl, ⟨by rw [hmn]; omega, by rw [hmn]; omega, fun j h1 h2 => by rw [hmn] at h1; have := hz (j - h - m) (by omega); rwa [show h + m + (j - h - m) = j by omega] at this⟩, by rw [hmn]⟩⟩)
theorem held_ok (w0 : World) (F : List Atom) (g n c : Nat) (l : List Int) (hl : l.length = n) (hc : n ≤ c) (hr : RowAt w0 F g 0 (ints .u32 l)) (hU : W32s l) (hn : n ≤ 1073741824) (h : Nat) (h1 : 1 ≤ h) (hh : h ≤ n) (h2 : 2 ≤ n) :
    CallK Try.prog 45 [.slice (some ⟨g, 0, none⟩) n c, .int .i64 h] w0 (F) (Gives w0 fun v F2 => ∃ a q c2 T t, v = .tuple #[.slice a q c2, .bool t] ∧ T.length = q ∧ (q = 0 ∨ ∃ g2, a = some ⟨g2, 0, none⟩) ∧ F2 = Own 28 1 (.slice a q c2) q (ints .u32 T) :: F ∧ HeldG l h T t) := by
  refine c_enter Try.func45 rfl rfl rfl ?_
  refine g_seq ?_
  refine g_region ?_
  refine l_assign rfl rfl ?_
  refine l_assign rfl rfl ?_
  refine l_nil ?_
  refine g_seq ?_
  refine g_block ?_
  refine g_seq ?_
  refine g_region ?_
  refine l_move rfl rfl ?_
  refine l_call rfl Try.call54 rfl (empty_ok _ _ g n c l hl hc hr.ex hU hn) ?_; rintro _ F9 ⟨et, rfl, hF9, hez⟩; rw [hF9]; clear hF9 F9
  refine l_assign rfl rfl ?_
  refine l_nil ?_
  refine g_cond rfl ?_ ?_
  · intro hbr
    have hb6 := hbr
    refine g_seq ?_
    refine g_region ?_
    refine l_assign rfl rfl ?_
    refine l_assign rfl rfl ?_
    refine l_nil ?_
    refine g_wnil 28 .u32 ?_
    refine g_ret Try.func45 rfl (.tmp rfl (.tmp rfl .nil)) ?_
    (first | exact Gives.mki ⟨none, 0, 0, [], true, rfl, rfl, .inl rfl, rfl, .inl ⟨rfl, heldV_z (hez.1 (by assumption))⟩⟩ | exact Gives.mki ⟨none, 0, 0, [], false, rfl, rfl, .inl rfl, rfl, .inr ⟨rfl, rfl, heldV_no (fun h => by have := hez.2 h; simp_all) (fun hc => by have h1 := hc.1; have h2 := hc.2.1; omega)⟩⟩ | exact Gives.mki ⟨a, q, c2, T, t, rfl, hT, ha, rfl, HeldG.of_msg hG (fun h => by have := hez.2 h; simp_all) (by omega) (by omega)⟩)
  intro hbr
  have hb6 := hbr
  refine g_seq ?_
  refine g_region ?_
  refine l_move rfl rfl ?_
  refine l_ixs rfl Try.underlying29 Try.sizeOf28 rfl rfl (by omega) (by omega) ?_
  refine l_loadc rfl Try.isAgg28 rfl (word_row hr.ex (j := 0) (by omega)) ?_
  refine l_neq rfl rfl rfl ?_
  refine l_move rfl rfl ?_
  refine l_split 14 rfl ?_ ?_
  · intro hbr
    have hbr := of_decide_eq_true hbr
    refine l_guard_no rfl rfl rfl ?_
    refine l_guard_no rfl rfl rfl ?_
    refine l_guard_no rfl rfl rfl ?_
    refine l_guard_nou rfl rfl rfl ?_
    refine l_guard_nou rfl rfl rfl ?_
    refine l_guard_nou rfl rfl rfl ?_
    refine l_guard_nou rfl rfl rfl ?_
    refine l_guard_no rfl rfl rfl ?_
    refine l_pick_t rfl rfl rfl ?_
    refine l_assign rfl rfl ?_
    refine l_nil ?_
    refine g_cond_t rfl ?_
    refine g_seq ?_
    refine g_region ?_
    refine l_assign rfl rfl ?_
    refine l_assign rfl rfl ?_
    refine l_nil ?_
    refine g_wnil 28 .u32 ?_
    refine g_ret Try.func45 rfl (.tmp rfl (.tmp rfl .nil)) ?_
    (first | exact Gives.mki ⟨none, 0, 0, [], true, rfl, rfl, .inl rfl, rfl, .inl ⟨rfl, heldV_z (hez.1 (by assumption))⟩⟩ | exact Gives.mki ⟨none, 0, 0, [], false, rfl, rfl, .inl rfl, rfl, .inr ⟨rfl, rfl, heldV_no (fun h => by have := hez.2 h; simp_all) (fun hc => by have h1 := hc.1; have h2 := hc.2.1; omega)⟩⟩ | exact Gives.mki ⟨a, q, c2, T, t, rfl, hT, ha, rfl, HeldG.of_msg hG (fun h => by have := hez.2 h; simp_all) (by omega) (by omega)⟩)
  intro hbr
  have hbr := of_decide_eq_false hbr
  refine l_guard_yes rfl rfl ?_
  refine l_move rfl rfl ?_
  refine l_guard_yes rfl rfl ?_
  refine l_eql rfl rfl rfl ?_
  refine l_guard_yes rfl rfl ?_
  refine l_move rfl rfl ?_
  refine l_split 17 rfl ?_ ?_
  · intro hbr
    have hbr := of_decide_eq_true hbr
    refine l_guard_yes rfl rfl ?_
    refine l_move rfl rfl ?_
    refine l_guard_yes rfl rfl ?_
    refine l_ixs rfl Try.underlying29 Try.sizeOf28 rfl rfl (by omega) (by omega) ?_
    refine l_guard_yes rfl rfl ?_
    refine l_loadc rfl Try.isAgg28 rfl (word_row hr.ex (j := 1) (by omega)) ?_
    refine l_guard_yes rfl rfl ?_
    refine l_gtr rfl rfl rfl ?_
    refine l_guard_yes rfl rfl ?_
    refine l_pick_t rfl rfl rfl ?_
    refine l_pick_f rfl rfl rfl ?_
    refine l_assign rfl rfl ?_
    refine l_nil ?_
    refine g_cond rfl ?_ ?_
    · intro hbr
      have hbr := of_decide_eq_true hbr
      refine g_seq ?_
      refine g_region ?_
      refine l_assign rfl rfl ?_
      refine l_assign rfl rfl ?_
      refine l_nil ?_
      refine g_wnil 28 .u32 ?_
      refine g_ret Try.func45 rfl (.tmp rfl (.tmp rfl .nil)) ?_
      (first | exact Gives.mki ⟨none, 0, 0, [], true, rfl, rfl, .inl rfl, rfl, .inl ⟨rfl, heldV_z (hez.1 (by assumption))⟩⟩ | exact Gives.mki ⟨none, 0, 0, [], false, rfl, rfl, .inl rfl, rfl, .inr ⟨rfl, rfl, heldV_no (fun h => by have := hez.2 h; simp_all) (fun hc => by have h1 := hc.1; have h2 := hc.2.1; omega)⟩⟩ | exact Gives.mki ⟨a, q, c2, T, t, rfl, hT, ha, rfl, HeldG.of_msg hG (fun h => by have := hez.2 h; simp_all) (by omega) (by omega)⟩)
    intro hbr
    have hbr := of_decide_eq_false hbr
    refine g_skip ?_
    refine g_inBlock ?_
    refine g_seq ?_
    refine g_region ?_
    refine l_move rfl rfl ?_
    refine l_move rfl rfl ?_
    refine l_call rfl Try.call55 rfl (message_ok _ _ g n c l hl hc hr.ex hU hn h h1 hh) ?_; rintro _ _ ⟨a, q, c2, T, t, rfl, hT, ha, rfl, hG⟩
    refine l_extract rfl rfl rfl ?_
    refine l_extract rfl rfl rfl ?_
    refine l_assign rfl rfl ?_
    refine l_assign rfl rfl ?_
    refine l_nil ?_
    refine g_wnil 28 .u32 ?_
    refine g_ret Try.func45 rfl (.tmp rfl (.tmp rfl .nil)) ?_
    (first | exact Gives.mki ⟨none, 0, 0, [], true, rfl, rfl, .inl rfl, rfl, .inl ⟨rfl, heldV_z (hez.1 (by assumption))⟩⟩ | exact Gives.mki ⟨none, 0, 0, [], false, rfl, rfl, .inl rfl, rfl, .inr ⟨rfl, rfl, heldV_no (fun h => by have := hez.2 h; simp_all) (fun hc => by have h1 := hc.1; have h2 := hc.2.1; omega)⟩⟩ | exact Gives.mki ⟨a, q, c2, T, t, rfl, hT, ha, rfl, HeldG.of_msg hG (fun h => by have := hez.2 h; simp_all) (by omega) (by omega)⟩)
  intro hbr
  have hbr := of_decide_eq_false hbr
  refine l_guard_no rfl rfl rfl ?_
  refine l_guard_no rfl rfl rfl ?_
  refine l_guard_no rfl rfl rfl ?_
  refine l_guard_no rfl rfl rfl ?_
  refine l_guard_yes rfl rfl ?_
  refine l_pick_f rfl rfl rfl ?_
  refine l_pick_f rfl rfl rfl ?_
  refine l_assign rfl rfl ?_
  refine l_nil ?_
  refine g_cond_f rfl ?_
  refine g_skip ?_
  refine g_inBlock ?_
  refine g_seq ?_
  refine g_region ?_
  refine l_move rfl rfl ?_
  refine l_move rfl rfl ?_
  refine l_call rfl Try.call55 rfl (message_ok _ _ g n c l hl hc hr.ex hU hn h h1 hh) ?_; rintro _ _ ⟨a, q, c2, T, t, rfl, hT, ha, rfl, hG⟩
  refine l_extract rfl rfl rfl ?_
  refine l_extract rfl rfl rfl ?_
  refine l_assign rfl rfl ?_
  refine l_assign rfl rfl ?_
  refine l_nil ?_
  refine g_wnil 28 .u32 ?_
  refine g_ret Try.func45 rfl (.tmp rfl (.tmp rfl .nil)) ?_
  (first | exact Gives.mki ⟨none, 0, 0, [], true, rfl, rfl, .inl rfl, rfl, .inl ⟨rfl, heldV_z (hez.1 (by assumption))⟩⟩ | exact Gives.mki ⟨none, 0, 0, [], false, rfl, rfl, .inl rfl, rfl, .inr ⟨rfl, rfl, heldV_no (fun h => by have := hez.2 h; simp_all) (fun hc => by have h1 := hc.1; have h2 := hc.2.1; omega)⟩⟩ | exact Gives.mki ⟨a, q, c2, T, t, rfl, hT, ha, rfl, HeldG.of_msg hG (fun h => by have := hez.2 h; simp_all) (by omega) (by omega)⟩)
end Go.Proofs.Ythngpcaljljlaaa.Fw
