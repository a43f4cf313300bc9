import Derived.Test.YtfccfjgnoeocnaaBase
namespace Go.Proofs.Ytfccfjgnoeocnaa.Fw
open Go Go.Proofs
set_option linter.unusedVariables false
set_option linter.unusedSimpArgs false
set_option maxRecDepth 10000

def mk0 (i : Int) : Int := -7000000 - 2 * i
theorem allints_ok (w0 : World) (F : List Atom) (a : Option Addr) (len c n : Nat) (wh : Int) (W : List Int) (hI : IR w0 F .i64 a len W) (hl : len ≤ 140737488355327) (hn : n ≤ 140737488355327) (hw : 0 ≤ wh ∧ wh ≤ 140737488355327) (hW : ∀ j, j < len → W.getD j 0 = if (j : Int) < n then mk0 wh else mk0 wh - 1) :
    CallK Try.prog 39 [.slice a len c, .int .i64 n, .int .i64 wh] w0 (F) (Gives w0 fun v F2 => v = .bool true ∧ F2 = F) := by
  have hWl := hI.1
  unfold mk0 at hW
  refine c_enter Try.func39 rfl rfl rfl ?_
  refine g_seq ?_
  refine g_region ?_
  refine l_assign rfl rfl ?_
  refine l_nil ?_
  refine g_seq ?_
  refine g_seq ?_
  refine g_region ?_
  refine l_assign rfl rfl ?_
  refine l_nil ?_
  refine g_block ?_
  refine g_loopc (X := Int) [(0, _), (1, _), (2, _)] (.cons rfl (.cons rfl (.cons rfl (.nil)))) (fun i => 0 ≤ i ∧ i ≤ len) (fun i => (len - i).toNat) (fun i => [(7, .int .i64 i)]) (0) (by omega) (.cons rfl .nil) ?_
  rintro i ⟨i0, i1⟩ ih
  dsimp only [List.cons_append, List.nil_append] at ih ⊢
  have hWi := fun h => hW i.toNat h
  refine g_seq ?_
  refine g_seq ?_
  refine g_region ?_
  refine l_move rfl rfl ?_
  refine l_move rfl rfl ?_
  refine l_len rfl Try.underlying35 rfl ?_
  refine l_lss rfl rfl rfl ?_
  refine l_nil ?_
  refine g_cond rfl ?_ ?_
  · intro hbr
    have hbr := of_decide_eq_true hbr
    refine g_skip ?_
    refine g_seq ?_
    refine g_block ?_
    refine g_seq ?_
    refine g_region ?_
    refine l_move rfl rfl ?_
    first | refine l_mul rfl rfl rfl (w_i64 (by omega) (by omega)) ?_ | refine l_mulw rfl rfl rfl ?_
    first | refine l_sub_ rfl rfl rfl (w_i64 (by omega) (by omega)) ?_ | refine l_subw rfl rfl rfl ?_
    refine l_assign rfl rfl ?_
    refine l_nil ?_
    refine g_seq ?_
    refine g_seq ?_
    refine g_region ?_
    refine l_move rfl rfl ?_
    refine l_move rfl rfl ?_
    refine l_geq rfl rfl rfl ?_
    refine l_nil ?_
    refine g_cond rfl ?_ ?_
    · intro hbr
      have hbr := of_decide_eq_true hbr
      refine g_region ?_
      refine l_move rfl rfl ?_
      first | refine l_sub_ rfl rfl rfl (w_i64 (by omega) (by omega)) ?_ | refine l_subw rfl rfl rfl ?_
      refine l_assign rfl rfl ?_
      refine l_nil ?_
      refine g_seq ?_
      refine g_region ?_
      refine l_move rfl rfl ?_
      refine l_move rfl rfl ?_
      obtain ⟨b9, o9, rfl, hr9⟩ := hI.some (i := i.toNat) (by omega)
      refine l_ixs rfl Try.underlying35 Try.sizeOf3 rfl rfl (by omega) (by omega) ?_
      refine l_loadc rfl Try.isAgg3 rfl (word_any hr9 (by omega)) ?_
      refine l_move rfl rfl ?_
      refine l_neq rfl rfl rfl ?_
      refine l_nil ?_
      refine g_cond rfl ?_ ?_
      · intro hbr
        have hbr := of_decide_eq_true hbr
        (exfalso; omega)
      intro hbr
      have hbr := of_decide_eq_false hbr
      refine g_skip ?_
      refine g_inBlock ?_
      refine g_region ?_
      refine l_move rfl rfl ?_
      first | refine l_add rfl rfl rfl (w_i64 (by omega) (by omega)) ?_ | refine l_addw rfl rfl rfl ?_
      refine l_assign rfl rfl ?_
      refine l_nil ?_
      exact g_againi (ih (i + 1) (by omega) (by omega)) (.cons rfl (.cons rfl (.cons rfl (.cons rfl (.nil)))))
    intro hbr
    have hbr := of_decide_eq_false hbr
    refine g_skip ?_
    refine g_seq ?_
    refine g_region ?_
    refine l_move rfl rfl ?_
    refine l_move rfl rfl ?_
    obtain ⟨b9, o9, rfl, hr9⟩ := hI.some (i := i.toNat) (by omega)
    refine l_ixs rfl Try.underlying35 Try.sizeOf3 rfl rfl (by omega) (by omega) ?_
    refine l_loadc rfl Try.isAgg3 rfl (word_any hr9 (by omega)) ?_
    refine l_move rfl rfl ?_
    refine l_neq rfl rfl rfl ?_
    refine l_nil ?_
    refine g_cond rfl ?_ ?_
    · intro hbr
      have hbr := of_decide_eq_true hbr
      (exfalso; omega)
    intro hbr
    have hbr := of_decide_eq_false hbr
    refine g_skip ?_
    refine g_inBlock ?_
    refine g_region ?_
    refine l_move rfl rfl ?_
    first | refine l_add rfl rfl rfl (w_i64 (by omega) (by omega)) ?_ | refine l_addw rfl rfl rfl ?_
    refine l_assign rfl rfl ?_
    refine l_nil ?_
    exact g_againi (ih (i + 1) (by omega) (by omega)) (.cons rfl (.cons rfl (.cons rfl (.cons rfl (.nil)))))
  intro hbr
  have hbr := of_decide_eq_false hbr
  refine g_exit rfl ?_
  refine g_seq ?_
  refine g_region ?_
  refine l_assign rfl rfl ?_
  refine l_nil ?_
  refine g_ret Try.func39 rfl (.tmp rfl .nil) ?_
  exact Gives.mki ⟨rfl, rfl⟩
/-- The lists at first, marked; and what stands then. -/
def apA (Ls : List LV) (c : Nat → List Int) : Nat → Atom := fun k => Own 3 1 (lvV (lat Ls k)) (lat Ls k).n (ints .i64 (c k))
def apZ (Ls : List LV) (k : Nat) : List Value := ints .i64 (List.replicate (lat Ls k).n (mk0 k) ++ List.replicate 72 (mk0 k - 1))
def apB (Ls : List LV) (i : Nat) (X Y : List Value) : Nat → Atom := fun k => if k < i then Fam 3 1 (apZ Ls k) [(Y.getD k .nilFunc, (lat Ls k).n + 72), (X.getD k .nilFunc, (lat Ls k).n + 17), (lvV (lat Ls k), (lat Ls k).n)] else Own 3 1 (lvV (lat Ls k)) (lat Ls k).n (ints .i64 (List.replicate (lat Ls k).n (mk0 k)))
theorem apB_now {Ls : List LV} {i : Nat} {X Y : List Value} {a n c} (hk : lat Ls i = ⟨a, n, c⟩) : apB Ls i X Y i = Own 3 1 (.slice a n c) n (ints .i64 (List.replicate n (mk0 i))) := by
  unfold apB
  rw [if_neg (by omega), hk]; rfl
theorem apB_done {Ls : List LV} {i : Nat} {X Y : List Value} {x y : Value} {a n c} (hk : lat Ls i = ⟨a, n, c⟩) (hX : X.length = i) (hY : Y.length = i) : apB Ls (i + 1) (X ++ [x]) (Y ++ [y]) i = Fam 3 1 (ints .i64 (List.replicate n (mk0 i) ++ List.replicate 72 (mk0 i - 1))) [(y, n + 72), (x, n + 17), (.slice a n c, n)] := by
  have h1 : (X ++ [x]).getD i .nilFunc = x := by rw [← hX]; simp
  have h2 : (Y ++ [y]).getD i .nilFunc = y := by rw [← hY]; simp
  unfold apB apZ
  rw [if_pos (by omega), h1, h2, hk]; rfl
theorem apB_keep {Ls : List LV} {i k : Nat} {X Y : List Value} {x y : Value} (hX : X.length = i) (hY : Y.length = i) (h : k ≠ i) : apB Ls (i + 1) (X ++ [x]) (Y ++ [y]) k = apB Ls i X Y k := by
  unfold apB
  by_cases hk : k < i
  · rw [if_pos (by omega), if_pos hk]
    have h1 : (X ++ [x]).getD k .nilFunc = X.getD k .nilFunc := by simp only [List.getD_eq_getElem?_getD]; rw [List.getElem?_append_left (by omega)]
    have h2 : (Y ++ [y]).getD k .nilFunc = Y.getD k .nilFunc := by simp only [List.getD_eq_getElem?_getD]; rw [List.getElem?_append_left (by omega)]
    rw [h1, h2]
  · rw [if_neg (by omega), if_neg hk]
theorem apB_read {Ls : List LV} {N i : Nat} {X Y : List Value} {a n c} (hk : lat Ls i = ⟨a, n, c⟩) (hi : i < N) : apB Ls N X Y i = Fam 3 1 (ints .i64 (List.replicate n (mk0 i) ++ List.replicate 72 (mk0 i - 1))) [(Y.getD i .nilFunc, n + 72), (X.getD i .nilFunc, n + 17), (.slice a n c, n)] := by
  unfold apB apZ
  rw [if_pos hi, hk]; rfl
theorem rr_len (n : Nat) (x y : Int) (m : Nat) : (ints .i64 (List.replicate n x ++ List.replicate m y)).length = n + m := by rw [ints_length, List.length_append, List.length_replicate, List.length_replicate]
theorem rr_get {n m q : Nat} {x y : Int} (h : q < n + m) : (ints .i64 (List.replicate n x ++ List.replicate m y))[q]? = some (.int .i64 (if q < n then x else y)) := by
  rw [ints_get (by rw [← ints_length .i64, rr_len]; exact h), getD_repapp h]
theorem r_get {m q : Nat} {y : Int} (h : q < m) : (ints .i64 (List.replicate m y))[q]? = some (.int .i64 y) := by
  simp [ints, h]
class FrontF (F : List Atom) (B : outParam Atom) (F' : outParam (List Atom)) : Prop where
  perm : F.Perm (B :: F')
instance (priority := 2000) frontF_here {E sz : Nat} {Z : List Value} {vs : List (Value × Nat)} {F : List Atom} : FrontF (Fam E sz Z vs :: F) (Fam E sz Z vs) F := ⟨.refl _⟩
class FrontN (F : List Atom) (B : outParam Atom) (F' : outParam (List Atom)) : Prop where
  perm : F.Perm (B :: F')
instance (priority := 2000) frontN_here {N i : Nat} {A : Nat → Atom} {F : List Atom} : FrontN (BigBut N i A :: F) (BigBut N i A) F := ⟨.refl _⟩
instance frontN_there {A B : Atom} {F F' : List Atom} [h : FrontN F B F'] : FrontN (A :: F) B (A :: F') := ⟨(h.perm.cons A).trans (.swap _ _ _)⟩
theorem g_frontn {P : Program} {f : FuncId} {w0 : World} {K : Post} {n : Nat} {d : List Deferred} {k : List Item} {e : Env} {F : List Atom} {B F'} [h : FrontN F B F'] (hk : G P f w0 K n d k e (B :: F')) : G P f w0 K n d k e F := g_heap (fun w hw => hw.perm h.perm) hk
instance frontF_there {A B : Atom} {F F' : List Atom} [h : FrontF F B F'] : FrontF (A :: F) B (A :: F') := ⟨(h.perm.cons A).trans (.swap _ _ _)⟩
theorem l_frontf {P : Program} {f : FuncId} {w0 : World} {K : Post} {n : Nat} {d : List Deferred} {ops : Array Oper} {rest : List Oper} {k : List Item} {e : Env} {F : List Atom} {B F'} [h : FrontF F B F'] (hk : GL P f w0 K n d ops rest k e (B :: F')) : GL P f w0 K n d ops rest k e F := gl_heap (fun w hw => hw.perm h.perm) hk
theorem g_frontv_fam {P : Program} {f : FuncId} {w0 : World} {K : Post} {n : Nat} {d : List Deferred} {k : List Item} {e : Env} {F : List Atom} {B F'} [h : FrontF F B F'] (hk : G P f w0 K n d k e (B :: F')) : G P f w0 K n d k e F := g_heap (fun w hw => hw.perm h.perm) hk
set_option maxHeartbeats 4000000 in
theorem apart_ints (w0 : World) (F : List Atom) (bL oL N cL : Nat) (Ls : List LV) (hN : Ls.length = N) (hNb : N ≤ 1048576) (hr : RowAt w0 F bL oL (Ls.map lvV)) (hfit : ∀ k, k < N → (lat Ls k).n ≤ 1099511627776) (c0 : Nat → List Int) :
    CallK Try.prog 20 [.slice (some ⟨bL, oL, none⟩) N cL] w0 (BigF N (apA Ls c0) :: F) (Gives w0 fun v F2 => v = .bool true ∧ F2 = F) := by
  refine c_enter Try.func20 rfl rfl rfl ?_
  refine g_seq ?_
  refine g_region ?_
  refine l_assign rfl rfl ?_
  refine l_nil ?_
  refine g_seq ?_
  refine g_seq ?_
  refine g_region ?_
  refine l_assign rfl rfl ?_
  refine l_nil ?_
  refine g_block ?_
  refine g_loopk (X := Int × (Nat → List Int)) [(0, _), (2, _)] (.cons rfl (.cons rfl (.nil))) (fun z => 0 ≤ z.1 ∧ z.1 ≤ N ∧ ∀ k : Nat, (k : Int) < z.1 → z.2 k = List.replicate (lat Ls k).n (mk0 k)) (fun z => (N - z.1).toNat) (fun z => [(3, .int .i64 z.1)]) (fun z => BigF N (apA Ls z.2) :: F) ((0, c0)) (⟨by simp only; omega, by simp only; omega, fun k hk => by simp only at hk; omega⟩) (.cons rfl .nil) (fun w hw => SPI.holds hw) ?_
  rintro ⟨i, c⟩ ⟨i0, i1, hc⟩ ih
  dsimp only [List.cons_append, List.nil_append] at ih ⊢
  simp only at i0 i1 hc
  refine g_seq ?_
  refine g_seq ?_
  refine g_region ?_
  refine l_move rfl rfl ?_
  refine l_move rfl rfl ?_
  refine l_len rfl Try.underlying44 rfl ?_
  refine l_lss rfl rfl rfl ?_
  refine l_nil ?_
  refine g_cond rfl ?_ ?_
  · intro hbr
    have hbr := of_decide_eq_true hbr
    refine g_skip ?_
    refine g_seq ?_
    refine g_block ?_
    refine g_seq ?_
    refine g_region ?_
    refine l_assign rfl rfl ?_
    refine l_nil ?_
    refine g_block ?_
    obtain ⟨⟨a, n, c9⟩, hk⟩ : ∃ K, lat Ls i.toNat = K := ⟨_, rfl⟩
    have hfn := hfit i.toNat (by omega)
    rw [hk] at hfn
    simp only at hfn
    refine g_focus i.toNat (by omega) ?_
    rw [show apA Ls c i.toNat = Own 3 1 (.slice a n c9) n (ints .i64 (c i.toNat)) by simp [apA, hk, lvV]]
    refine g_fact (own_slice (mem_getO 0 rfl)) ?_
    rintro ⟨a', c', hac, ha⟩
    obtain ⟨rfl, rfl⟩ : a = a' ∧ c9 = c' := by simpa using hac
    clear hac
    refine g_fact (fun w hw => Own.len hw (mem_getO 0 rfl)) ?_
    intro hcl
    rw [ints_length, Nat.mul_one] at hcl
    refine g_loopk (X := Int × List Int) [(0, _), (2, _), (3, _), (13, _), (14, _), (15, _), (16, _)] (.cons rfl (.cons rfl (.cons rfl (.cons rfl (.cons rfl (.cons rfl (.cons rfl (.nil)))))))) (fun z => 0 ≤ z.1 ∧ z.1 ≤ n ∧ z.2.length = n ∧ ∀ q, q < z.1.toNat → z.2.getD q 0 = mk0 i) (fun z => (n - z.1).toNat) (fun z => [(4, .int .i64 z.1)]) (fun z => Own 3 1 (.slice a n c9) n (ints .i64 z.2) :: BigBut N i.toNat (apA Ls c) :: F) ((0, c i.toNat)) (⟨by simp only; omega, by simp only; omega, hcl, fun q hq => by simp only at hq; omega⟩) (.cons rfl .nil) (fun w hw => SPI.holds hw) ?_
    rintro ⟨j, W⟩ ⟨j0, j1, hWl, hq⟩ ihj
    dsimp only [List.cons_append, List.nil_append] at ihj ⊢
    simp only at j0 j1 hWl hq
    refine g_seq ?_
    refine g_seq ?_
    refine g_region ?_
    refine l_move rfl rfl ?_
    refine l_move rfl rfl ?_
    refine l_move rfl rfl ?_
    refine l_ixs rfl Try.underlying44 Try.sizeOf35 rfl rfl (by omega) (by omega) ?_
    refine l_loadc rfl Try.isAgg35 rfl (lv_cell hr hk (by omega)) ?_
    refine l_len rfl Try.underlying35 rfl ?_
    refine l_lss rfl rfl rfl ?_
    refine l_nil ?_
    refine g_cond rfl ?_ ?_
    · intro hbr
      have hbr := of_decide_eq_true hbr
      refine g_skip ?_
      refine g_seq ?_
      refine g_block ?_
      refine g_region ?_
      refine l_move rfl rfl ?_
      refine l_move rfl rfl ?_
      refine l_ixs rfl Try.underlying44 Try.sizeOf35 rfl rfl (by omega) (by omega) ?_
      refine l_loadc rfl Try.isAgg35 rfl (lv_cell hr hk (by omega)) ?_
      refine l_move rfl rfl ?_
      refine l_move rfl rfl ?_
      first | refine l_mul rfl rfl rfl (w_i64 (by omega) (by omega)) ?_ | refine l_mulw rfl rfl rfl ?_
      refine l_sub_ rfl rfl rfl (w_i64 (by omega) (by omega)) ?_
      rw [show (-7000000 : Int) - 2 * i = mk0 i by unfold mk0; omega]
      obtain ⟨g9, rfl⟩ := ha.resolve_left (by omega)
      refine l_ixs rfl Try.underlying35 Try.sizeOf3 rfl rfl (by omega) (by omega) ?_
      first | refine l_st Try.sizeOf3 rfl rfl rfl rfl ?_ | refine l_stw Try.sizeOf3 rfl rfl (by omega) ?_
      refine l_nil ?_
      refine g_inBlock ?_
      refine g_region ?_
      refine l_move rfl rfl ?_
      first | refine l_add rfl rfl rfl (w_i64 (by omega) (by omega)) ?_ | refine l_addw rfl rfl rfl ?_
      refine l_assign rfl rfl ?_
      refine l_nil ?_
      have hrn := rep_next hWl hq (show j.toNat < n by omega)
      rw [show j.toNat + 1 = (j + 1).toNat by omega] at hrn
      exact g_againi (ihj (j + 1, W.set j.toNat (mk0 i)) ⟨by simp only; omega, by simp only; omega, by simpa using hWl, hrn⟩ (by simp only; omega)) (.cons rfl (.cons rfl (.cons rfl (.cons rfl (.cons rfl (.cons rfl (.cons rfl (.cons rfl (.nil)))))))))
    intro hbr
    have hbr := of_decide_eq_false hbr
    refine g_exit rfl ?_
    obtain rfl : j = n := by omega
    rw [Int.toNat_natCast] at hq
    have hWr := rep_full hWl hq
    subst hWr
    refine g_unfocus (apA Ls (fun k => if k = i.toNat then List.replicate n (mk0 i) else c k)) (by simp [apA, hk, lvV]) (fun k _ hki => by simp [apA, hki]) ?_
    refine g_inBlock ?_
    refine g_region ?_
    refine l_move rfl rfl ?_
    first | refine l_add rfl rfl rfl (w_i64 (by omega) (by omega)) ?_ | refine l_addw rfl rfl rfl ?_
    refine l_assign rfl rfl ?_
    refine l_nil ?_
    refine g_againi (ih (i + 1, fun k => if k = i.toNat then List.replicate n (mk0 i) else c k) ⟨by simp only; omega, by simp only; omega, fun k hk2 => ?_⟩ (by simp only; omega)) (.cons rfl (.cons rfl (.cons rfl (.nil))))
    simp only at hk2 ⊢
    by_cases hki : k = i.toNat
    · subst hki
      rw [if_pos rfl, hk, Int.toNat_of_nonneg i0]
    · rw [if_neg hki]; exact hc k (by omega)
  intro hbr
  have hbr := of_decide_eq_false hbr
  refine g_exit rfl ?_
  obtain rfl : i = N := by omega
  refine g_bigcongr (apB Ls 0 [] []) (fun k hk => by simp [apA, apB, hc k (by omega)]) ?_
  refine g_own_nil 35 1 ?_
  refine g_own_nil 35 1 ?_
  refine g_seq ?_
  refine g_region ?_
  refine l_assign rfl rfl ?_
  refine l_assign rfl rfl ?_
  refine l_nil ?_
  refine g_seq ?_
  refine g_seq ?_
  refine g_region ?_
  refine l_assign rfl rfl ?_
  refine l_nil ?_
  refine g_block ?_
  refine g_loopk (X := Int × Value × Value × List Value × List Value) [(0, _), (2, _)] (.cons rfl (.cons rfl (.nil))) (fun z => 0 ≤ z.1 ∧ z.1 ≤ N ∧ z.2.2.2.1.length = z.1.toNat ∧ z.2.2.2.2.length = z.1.toNat) (fun z => (N - z.1).toNat) (fun z => [(5, z.2.1), (6, z.2.2.1), (7, .int .i64 z.1)]) (fun z => Own 35 1 z.2.1 z.1.toNat z.2.2.2.1 :: Own 35 1 z.2.2.1 z.1.toNat z.2.2.2.2 :: BigF N (apB Ls z.1.toNat z.2.2.2.1 z.2.2.2.2) :: F) ((0, .slice none 0 0, .slice none 0 0, [], [])) (⟨by simp only; omega, by simp only; omega, rfl, rfl⟩) (.cons rfl (.cons rfl (.cons rfl .nil))) (fun w hw => hw) ?_
  rintro ⟨i, ov, mv, X, Y⟩ ⟨i0, i1, hX, hY⟩ ih
  dsimp only [List.cons_append, List.nil_append] at ih ⊢
  simp only at i0 i1 hX hY
  refine g_seq ?_
  refine g_seq ?_
  refine g_region ?_
  refine l_move rfl rfl ?_
  refine l_move rfl rfl ?_
  refine l_len rfl Try.underlying44 rfl ?_
  refine l_lss rfl rfl rfl ?_
  refine l_nil ?_
  refine g_cond rfl ?_ ?_
  · intro hbr
    have hbr := of_decide_eq_true hbr
    refine g_skip ?_
    refine g_seq ?_
    refine g_block ?_
    refine g_seq ?_
    refine g_region ?_
    refine l_move rfl rfl ?_
    refine l_move rfl rfl ?_
    refine l_ixs rfl Try.underlying44 Try.sizeOf35 rfl rfl (by omega) (by omega) ?_
    obtain ⟨⟨a, n, c9⟩, hk⟩ : ∃ K, lat Ls i.toNat = K := ⟨_, rfl⟩
    have hfn := hfit i.toNat (by omega)
    rw [hk] at hfn
    simp only at hfn
    refine l_loadc rfl Try.isAgg35 rfl (lv_cell hr hk (by omega)) ?_
    refine l_assign rfl rfl ?_
    refine l_nil ?_
    refine g_seq ?_
    refine g_region ?_
    refine l_assign rfl rfl ?_
    refine l_nil ?_
    refine g_seq ?_
    refine g_seq ?_
    refine g_region ?_
    refine l_assign rfl rfl ?_
    refine l_nil ?_
    refine g_block ?_
    refine g_front 2 rfl ?_
    refine g_focus i.toNat (by omega) ?_
    rw [apB_now hk, Int.toNat_of_nonneg i0]
    refine g_fam (ints .i64 (List.replicate n (mk0 i) ++ List.replicate 72 (mk0 i - 1))) (fun q hq => by rw [rr_get (by omega), if_pos (by omega), r_get (by omega)]) (by rw [rr_len]; omega) ?_
    refine g_heap (fun w hw => Fam.mono (vs' := [(.slice a n c9, n + min (0 : Int).toNat 17), (.slice a n c9, n)]) hw (fun p hp => by simpa using hp)) ?_
    refine g_own_nil 3 1 ?_
    refine g_loopk (X := Int × Value × Value) [(0, _), (2, _), (5, _), (6, _), (7, _), (37, _), (38, _), (39, _), (40, _), (43, _), (44, _), (45, _), (46, _)] (.cons rfl (.cons rfl (.cons rfl (.cons rfl (.cons rfl (.cons rfl (.cons rfl (.cons rfl (.cons rfl (.cons rfl (.cons rfl (.cons rfl (.cons rfl (.nil)))))))))))))) (fun z => 0 ≤ z.1 ∧ z.1 ≤ 72) (fun z => (72 - z.1).toNat) (fun z => [(8, z.2.1), (9, z.2.2), (10, .int .i64 z.1)]) (fun z => Fam 3 1 (ints .i64 (List.replicate n (mk0 i) ++ List.replicate 72 (mk0 i - 1))) [(z.2.1, n + min z.1.toNat 17), (.slice a n c9, n)] :: Own 3 1 z.2.2 z.1.toNat (ints .i64 (List.replicate z.1.toNat (mk0 i - 1))) :: BigBut N i.toNat (apB Ls i.toNat X Y) :: Own 35 1 ov i.toNat X :: Own 35 1 mv i.toNat Y :: F) ((0, .slice a n c9, .slice none 0 0)) (⟨by simp only; omega, by simp only; omega⟩) (.cons rfl (.cons rfl (.cons rfl .nil))) (fun w hw => (SPI.holds hw : Holds w0 (Fam 3 1 (ints .i64 (List.replicate n (mk0 i) ++ List.replicate 72 (mk0 i - 1))) [(.slice a n c9, n + min (0 : Int).toNat 17), (.slice a n c9, n)] :: Own 3 1 (.slice none 0 0) 0 [] :: BigBut N i.toNat (apB Ls i.toNat X Y) :: Own 35 1 ov i.toNat X :: Own 35 1 mv i.toNat Y :: F) w)) ?_
    rintro ⟨j, g, mo⟩ ⟨j0, j1⟩ ihj
    dsimp only [List.cons_append, List.nil_append] at ihj ⊢
    simp only at j0 j1
    refine g_seq ?_
    refine g_seq ?_
    refine g_region ?_
    refine l_move rfl rfl ?_
    refine l_lss rfl rfl rfl ?_
    refine l_nil ?_
    refine g_cond rfl ?_ ?_
    · intro hbr
      have hbr := of_decide_eq_true hbr
      refine g_skip ?_
      refine g_seq ?_
      refine g_block ?_
      refine g_seq ?_
      refine g_seq ?_
      refine g_region ?_
      refine l_move rfl rfl ?_
      refine l_lss rfl rfl rfl ?_
      refine l_nil ?_
      refine g_cond rfl ?_ ?_
      · intro hbr
        have hbr := of_decide_eq_true hbr
        refine g_region ?_
        refine l_move rfl rfl ?_
        refine l_move rfl rfl ?_
        first | refine l_mul rfl rfl rfl (w_i64 (by omega) (by omega)) ?_ | refine l_mulw rfl rfl rfl ?_
        refine l_sub_ rfl rfl rfl (w_i64 (by omega) (by omega)) ?_
        rw [show (-7000001 : Int) - 2 * i = mk0 i - 1 by unfold mk0; omega]
        refine l_buildSlice rfl Try.underlying35 Try.sizeOf3 Try.zeroValue3 rfl rfl rfl rfl rfl rfl ?_; intro b57
        refine l_append_fam 1 (sz := 1) (by_ := 8) (m := n + min j.toNat 17) (m2 := 1) (news := [.int .i64 (mk0 i - 1)]) rfl Try.underlying35 Try.type3 rfl rfl rfl rfl rfl rfl rfl rfl (List.mem_cons_self ..) ⟨rfl, .inl ⟨_, _, _, rfl, .own (mem_getO 0 rfl)⟩⟩ (by omega) rfl (fun q hq => by
          have : q = 0 := by simp at hq; omega
          subst this
          rw [rr_get (by omega), if_neg (by omega)]; rfl) (by rw [rr_len]; omega) (by omega) (by simp only [maxLen]; omega) (fun _ => rfl) ?_; intro v58
        refine l_assign rfl rfl ?_
        refine l_nil ?_
        refine g_region ?_
        refine l_move rfl rfl ?_
        refine l_move rfl rfl ?_
        first | refine l_mul rfl rfl rfl (w_i64 (by omega) (by omega)) ?_ | refine l_mulw rfl rfl rfl ?_
        refine l_sub_ rfl rfl rfl (w_i64 (by omega) (by omega)) ?_
        rw [show (-7000001 : Int) - 2 * i = mk0 i - 1 by unfold mk0; omega]
        refine l_buildSlice rfl Try.underlying35 Try.sizeOf3 Try.zeroValue3 rfl rfl rfl rfl rfl rfl ?_; intro b63
        refine l_fronto b63 ?_
        refine l_frontv mo ?_
        refine l_appendw 0 (by_ := 8) (W := [mk0 i - 1]) (V := List.replicate j.toNat (mk0 i - 1)) (m3 := (j + 1).toNat) (V3 := List.replicate (j + 1).toNat (mk0 i - 1)) rfl Try.underlying35 Try.type3 rfl rfl rfl rfl rfl rfl rfl ⟨rfl, .inl ⟨_, _, _, rfl, .own (mem_getO 1 rfl)⟩⟩ (by omega) (by simp only [maxLen]; omega) (by omega) (by rw [show (j + 1).toNat = j.toNat + 1 by omega]; exact rep_snoc _ _) (fun _ => rfl) ?_; intro v64 hv64
        refine l_assign rfl rfl ?_
        refine l_nil ?_
        refine g_inBlock ?_
        refine g_region ?_
        refine l_move rfl rfl ?_
        first | refine l_add rfl rfl rfl (w_i64 (by omega) (by omega)) ?_ | refine l_addw rfl rfl rfl ?_
        refine l_assign rfl rfl ?_
        refine l_nil ?_
        (first
          | (have hmn : n + min j.toNat 17 + 1 = n + min (j + 1).toNat 17 := by omega
             refine g_frontv_fam ?_
             rw [hmn]
             refine g_famsub (vs' := [(v58, n + min (j + 1).toNat 17), (.slice a n c9, n)]) (fun p hp => by rcases List.mem_cons.1 hp with rfl | hp <;> simp_all) ?_
             exact g_againi (ihj (j + 1, v58, v64) ⟨by simp only; omega, by simp only; omega⟩ (by simp only; omega)) (.cons rfl (.cons rfl (.cons rfl (.cons rfl (.cons rfl (.cons rfl (.cons rfl (.cons rfl (.cons rfl (.cons rfl (.cons rfl (.cons rfl (.cons rfl (.cons rfl (.cons rfl (.cons rfl (.nil))))))))))))))))))
          | (have hmn : n + min j.toNat 17 = n + min (j + 1).toNat 17 := by omega
             rw [hmn]
             exact g_againi (ihj (j + 1, g, v64) ⟨by simp only; omega, by simp only; omega⟩ (by simp only; omega)) (.cons rfl (.cons rfl (.cons rfl (.cons rfl (.cons rfl (.cons rfl (.cons rfl (.cons rfl (.cons rfl (.cons rfl (.cons rfl (.cons rfl (.cons rfl (.cons rfl (.cons rfl (.cons rfl (.nil)))))))))))))))))))
      intro hbr
      have hbr := of_decide_eq_false hbr
      refine g_skip ?_
      refine g_region ?_
      refine l_move rfl rfl ?_
      refine l_move rfl rfl ?_
      first | refine l_mul rfl rfl rfl (w_i64 (by omega) (by omega)) ?_ | refine l_mulw rfl rfl rfl ?_
      refine l_sub_ rfl rfl rfl (w_i64 (by omega) (by omega)) ?_
      rw [show (-7000001 : Int) - 2 * i = mk0 i - 1 by unfold mk0; omega]
      refine l_buildSlice rfl Try.underlying35 Try.sizeOf3 Try.zeroValue3 rfl rfl rfl rfl rfl rfl ?_; intro b63
      refine l_fronto b63 ?_
      refine l_frontv mo ?_
      refine l_appendw 0 (by_ := 8) (W := [mk0 i - 1]) (V := List.replicate j.toNat (mk0 i - 1)) (m3 := (j + 1).toNat) (V3 := List.replicate (j + 1).toNat (mk0 i - 1)) rfl Try.underlying35 Try.type3 rfl rfl rfl rfl rfl rfl rfl ⟨rfl, .inl ⟨_, _, _, rfl, .own (mem_getO 1 rfl)⟩⟩ (by omega) (by simp only [maxLen]; omega) (by omega) (by rw [show (j + 1).toNat = j.toNat + 1 by omega]; exact rep_snoc _ _) (fun _ => rfl) ?_; intro v64 hv64
      refine l_assign rfl rfl ?_
      refine l_nil ?_
      refine g_inBlock ?_
      refine g_region ?_
      refine l_move rfl rfl ?_
      first | refine l_add rfl rfl rfl (w_i64 (by omega) (by omega)) ?_ | refine l_addw rfl rfl rfl ?_
      refine l_assign rfl rfl ?_
      refine l_nil ?_
      (first
        | (have hmn : n + min j.toNat 17 + 1 = n + min (j + 1).toNat 17 := by omega
           refine g_frontv_fam ?_
           rw [hmn]
           refine g_famsub (vs' := [(v58, n + min (j + 1).toNat 17), (.slice a n c9, n)]) (fun p hp => by rcases List.mem_cons.1 hp with rfl | hp <;> simp_all) ?_
           exact g_againi (ihj (j + 1, v58, v64) ⟨by simp only; omega, by simp only; omega⟩ (by simp only; omega)) (.cons rfl (.cons rfl (.cons rfl (.cons rfl (.cons rfl (.cons rfl (.cons rfl (.cons rfl (.cons rfl (.cons rfl (.cons rfl (.cons rfl (.cons rfl (.cons rfl (.cons rfl (.cons rfl (.nil))))))))))))))))))
        | (have hmn : n + min j.toNat 17 = n + min (j + 1).toNat 17 := by omega
           rw [hmn]
           exact g_againi (ihj (j + 1, g, v64) ⟨by simp only; omega, by simp only; omega⟩ (by simp only; omega)) (.cons rfl (.cons rfl (.cons rfl (.cons rfl (.cons rfl (.cons rfl (.cons rfl (.cons rfl (.cons rfl (.cons rfl (.cons rfl (.cons rfl (.cons rfl (.cons rfl (.cons rfl (.cons rfl (.nil)))))))))))))))))))
    intro hbr
    have hbr := of_decide_eq_false hbr
    refine g_exit rfl ?_
    obtain rfl : j = 72 := by omega
    refine g_fact (fam_slice (mem_getO 0 rfl) (List.mem_cons_self ..)) ?_
    rintro ⟨ag, cg, rfl, hag, hgl, hgm⟩
    refine g_fact (own_slice (mem_getO 1 rfl)) ?_
    rintro ⟨am, cm, rfl, ham⟩
    obtain ⟨gm, rfl⟩ := ham.resolve_left (by decide)
    rw [show min (72 : Int).toNat 17 = 17 by decide] at hag hgl hgm ⊢
    rw [show (72 : Int).toNat = 72 by decide]
    refine g_seq ?_
    refine g_region ?_
    refine l_move rfl rfl ?_
    refine l_move rfl rfl ?_
    refine l_buildSlice rfl Try.underlying44 Try.sizeOf35 Try.zeroValue35 rfl rfl rfl rfl rfl rfl ?_; intro b67
    refine l_fronto b67 ?_
    refine l_frontv ov ?_
    refine l_append 0 (sz := 1) (by_ := 24) (m2 := 1) (news := [.slice ag (n + 17) cg]) rfl Try.underlying44 Try.type35 rfl rfl rfl rfl rfl rfl rfl rfl ⟨rfl, .inl ⟨_, _, _, rfl, .own (mem_getO 1 rfl)⟩⟩ rfl (by omega) (by simp only [maxLen]; omega) (fun _ => rfl) ?_; intro v68 hv68
    refine l_assign rfl rfl ?_
    refine l_nil ?_
    refine g_region ?_
    refine l_move rfl rfl ?_
    refine l_move rfl rfl ?_
    refine l_move rfl rfl ?_
    refine l_ixs rfl Try.underlying44 Try.sizeOf35 rfl rfl (by omega) (by omega) ?_
    refine l_loadc rfl Try.isAgg35 rfl (lv_cell hr hk (by omega)) ?_
    refine l_move rfl rfl ?_
    refine l_frontf ?_
    refine l_append_fam 0 (sz := 1) (by_ := 8) (m := n) (m2 := 72) (news := ints .i64 (List.replicate 72 (mk0 i - 1))) rfl Try.underlying35 Try.type3 rfl rfl rfl rfl rfl rfl rfl rfl (List.mem_cons_of_mem _ (List.mem_cons_self ..)) ⟨rfl, .inl ⟨_, _, _, rfl, .own (OwnIn.mem (g := gm))⟩⟩ (by omega) (ints_scalar _ _) (fun q hq => by
      rw [ints_length, List.length_replicate] at hq
      rw [rr_get (by omega), if_neg (by omega), r_get hq]) (by rw [rr_len]; omega) (by omega) (by simp only [maxLen]; omega) (fun _ => rfl) ?_; intro v75
    refine l_fact (fam_slice (mem_getO 0 rfl) (List.mem_cons_self ..)) ?_
    rintro ⟨a5, c5, rfl, ha5, _, _⟩
    refine l_buildSlice rfl Try.underlying44 Try.sizeOf35 Try.zeroValue35 rfl rfl rfl rfl rfl rfl ?_; intro b76
    refine l_fronto b76 ?_
    refine l_frontv mv ?_
    refine l_append 0 (sz := 1) (by_ := 24) (m2 := 1) (news := [.slice a5 (n + 72) c5]) rfl Try.underlying44 Try.type35 rfl rfl rfl rfl rfl rfl rfl rfl ⟨rfl, .inl ⟨_, _, _, rfl, .own (mem_getO 1 rfl)⟩⟩ rfl (by omega) (by simp only [maxLen]; omega) (fun _ => rfl) ?_; intro v77 hv77
    refine l_assign rfl rfl ?_
    refine l_nil ?_
    refine g_inBlock ?_
    refine g_region ?_
    refine l_move rfl rfl ?_
    first | refine l_add rfl rfl rfl (w_i64 (by omega) (by omega)) ?_ | refine l_addw rfl rfl rfl ?_
    refine l_assign rfl rfl ?_
    refine l_nil ?_
    have hin : i.toNat + 1 = (i + 1).toNat := by omega
    refine g_frontn ?_
    refine g_frontv_fam ?_
    refine g_famsub (vs' := [(.slice a5 (n + 72) c5, n + 72), (.slice ag (n + 17) cg, n + 17), (.slice a n c9, n)]) (fun p hp => by simp only [List.mem_cons, List.not_mem_nil, or_false] at hp ⊢; rcases hp with rfl | rfl | rfl <;> simp) ?_
    refine g_unfocus (apB Ls (i + 1).toNat (X ++ [.slice ag (n + 17) cg]) (Y ++ [.slice a5 (n + 72) c5])) (by rw [← hin, apB_done hk hX hY, Int.toNat_of_nonneg i0]) (fun k _ hki => by rw [← hin]; exact apB_keep hX hY hki) ?_
    rw [hin]
    exact g_againi (ih (i + 1, v68, v77, X ++ [.slice ag (n + 17) cg], Y ++ [.slice a5 (n + 72) c5]) ⟨by simp only; omega, by simp only; omega, by simp [hX]; omega, by simp [hY]; omega⟩ (by simp only; omega)) (.cons rfl (.cons rfl (.cons rfl (.cons rfl (.cons rfl (.nil))))))
  intro hbr
  have hbr := of_decide_eq_false hbr
  refine g_exit rfl ?_
  obtain rfl : i = N := by omega
  rw [Int.toNat_natCast] at hX hY ⊢
  refine g_fact (own_slice (mem_getO 0 rfl)) ?_
  rintro ⟨ao, co, rfl, hao⟩
  refine g_fact (own_slice (mem_getO 1 rfl)) ?_
  rintro ⟨ay, cy, rfl, hay⟩
  refine g_seq ?_
  refine g_seq ?_
  refine g_region ?_
  refine l_assign rfl rfl ?_
  refine l_nil ?_
  refine g_block ?_
  refine g_loopc (X := Int) [(0, _), (5, _), (6, _)] (.cons rfl (.cons rfl (.cons rfl (.nil)))) (fun i => 0 ≤ i ∧ i ≤ N) (fun i => (N - i).toNat) (fun i => [(11, .int .i64 i)]) (0) (by omega) (.cons rfl .nil) ?_
  rintro i ⟨i0, i1⟩ iha
  dsimp only [List.cons_append, List.nil_append] at iha ⊢
  obtain ⟨⟨a, n, c9⟩, hk⟩ : ∃ K, lat Ls i.toNat = K := ⟨_, rfl⟩
  have hfn := hfit i.toNat
  rw [hk] at hfn
  simp only at hfn
  refine g_seq ?_
  refine g_seq ?_
  refine g_region ?_
  refine l_move rfl rfl ?_
  refine l_move rfl rfl ?_
  refine l_len rfl Try.underlying44 rfl ?_
  refine l_lss rfl rfl rfl ?_
  refine l_nil ?_
  refine g_cond rfl ?_ ?_
  · intro hbr
    have hbr := of_decide_eq_true hbr
    refine g_skip ?_
    refine g_seq ?_
    refine g_block ?_
    refine g_seq ?_
    refine g_region ?_
    refine l_front 2 rfl ?_
    refine l_focus i.toNat (by omega) ?_
    rw [apB_read hk (by omega), Int.toNat_of_nonneg i0]
    refine l_fact (fam_slice (mem_getO 0 rfl) (List.mem_cons_self ..)) ?_
    rintro ⟨a5, c5, hv5, ha5, _, _⟩
    refine l_fact (fam_slice (mem_getO 0 rfl) (List.mem_cons_of_mem _ (List.mem_cons_self ..))) ?_
    rintro ⟨ag, cg, hvg, hag, _, _⟩
    refine l_fact (fam_slice (mem_getO 0 rfl) (List.mem_cons_of_mem _ (List.mem_cons_of_mem _ (List.mem_cons_self ..)))) ?_
    rintro ⟨a', c', hac, ha, _, _⟩
    obtain ⟨rfl, rfl⟩ : a = a' ∧ c9 = c' := by simpa using hac
    clear hac
    rw [hv5, hvg]
    refine l_move rfl rfl ?_
    refine l_move rfl rfl ?_
    refine l_ixs rfl Try.underlying44 Try.sizeOf35 rfl rfl (by omega) (by omega) ?_
    refine l_loadc rfl Try.isAgg35 rfl (lv_cell hr hk (by omega)) ?_
    refine l_len rfl Try.underlying35 rfl ?_
    refine l_assign rfl rfl ?_
    refine l_nil ?_
    refine g_seq ?_
    refine g_region ?_
    refine l_move rfl rfl ?_
    refine l_move rfl rfl ?_
    refine l_ixs rfl Try.underlying44 Try.sizeOf35 rfl rfl (by omega) (by omega) ?_
    refine l_loadc rfl Try.isAgg35 rfl (lv_cell hr hk (by omega)) ?_
    refine l_move rfl rfl ?_
    refine l_move rfl rfl ?_
    refine l_frontf ?_
    refine l_call rfl Try.call39 rfl (allints_ok _ _ a n c9 n i _ (IR.fam (mem_getO 0 rfl) (List.mem_cons_of_mem _ (List.mem_cons_of_mem _ (List.mem_cons_self ..))) (by rw [← ints_length .i64, rr_len]; omega) (ha.imp id id)) (by omega) (by omega) (by omega) (fun q hq => by rw [getD_take (by omega), getD_repapp (by omega)]; by_cases hqn : q < n <;> simp [hqn])) ?_; rintro _ _ ⟨rfl, rfl⟩
    refine l_not rfl rfl ?_
    refine l_move rfl rfl ?_
    refine l_guard_yes rfl rfl ?_
    refine l_move rfl rfl ?_
    refine l_guard_yes rfl rfl ?_
    refine l_move rfl rfl ?_
    refine l_guard_yes rfl rfl ?_
    obtain ⟨go, rfl⟩ := hao.resolve_left (by omega)
    refine l_ixs rfl Try.underlying44 Try.sizeOf35 rfl rfl (by omega) (by omega) ?_
    refine l_guard_yes rfl rfl ?_
    refine l_loadc rfl Try.isAgg35 rfl (v := .slice ag (n + 17) cg) (own_cell (X := X) (getD_some hvg (by omega))) ?_
    refine l_guard_yes rfl rfl ?_
    refine l_move rfl rfl ?_
    refine l_guard_yes rfl rfl ?_
    refine l_move rfl rfl ?_
    refine l_guard_yes rfl rfl ?_
    refine l_frontf ?_
    refine l_call rfl Try.call39 rfl (allints_ok _ _ ag (n + 17) cg n i _ (IR.fam (mem_getO 0 rfl) (List.mem_cons_of_mem _ (List.mem_cons_self ..)) (by rw [← ints_length .i64, rr_len]; omega) (hag.imp id id)) (by omega) (by omega) (by omega) (fun q hq => by rw [getD_take (by omega), getD_repapp (by omega)]; by_cases hqn : q < n <;> simp [hqn])) ?_; rintro _ _ ⟨rfl, rfl⟩
    refine l_guard_yes rfl rfl ?_
    refine l_not rfl rfl ?_
    refine l_pick_f rfl rfl rfl ?_
    refine l_move rfl rfl ?_
    refine l_guard_yes rfl rfl ?_
    refine l_move rfl rfl ?_
    refine l_guard_yes rfl rfl ?_
    refine l_move rfl rfl ?_
    refine l_guard_yes rfl rfl ?_
    obtain ⟨gy, rfl⟩ := hay.resolve_left (by omega)
    refine l_ixs rfl Try.underlying44 Try.sizeOf35 rfl rfl (by omega) (by omega) ?_
    refine l_guard_yes rfl rfl ?_
    refine l_loadc rfl Try.isAgg35 rfl (v := .slice a5 (n + 72) c5) (own_cell (X := Y) (getD_some hv5 (by omega))) ?_
    refine l_guard_yes rfl rfl ?_
    refine l_move rfl rfl ?_
    refine l_guard_yes rfl rfl ?_
    refine l_move rfl rfl ?_
    refine l_guard_yes rfl rfl ?_
    refine l_frontf ?_
    refine l_call rfl Try.call39 rfl (allints_ok _ _ a5 (n + 72) c5 n i _ (IR.fam (mem_getO 0 rfl) (List.mem_cons_self ..) (by rw [← ints_length .i64, rr_len]; omega) (ha5.imp id id)) (by omega) (by omega) (by omega) (fun q hq => by rw [getD_take (by omega), getD_repapp (by omega)]; by_cases hqn : q < n <;> simp [hqn])) ?_; rintro _ _ ⟨rfl, rfl⟩
    refine l_guard_yes rfl rfl ?_
    refine l_not rfl rfl ?_
    refine l_pick_f rfl rfl rfl ?_
    refine l_nil ?_
    first | refine g_cond_f rfl ?_ | refine g_cond_f (congrArg (fun b => some (Value.bool b)) (decide_eq_false hbr)) ?_
    refine g_skip ?_
    refine g_inBlock ?_
    refine g_region ?_
    refine l_move rfl rfl ?_
    first | refine l_add rfl rfl rfl (w_i64 (by omega) (by omega)) ?_ | refine l_addw rfl rfl rfl ?_
    refine l_assign rfl rfl ?_
    refine l_nil ?_
    refine g_frontn ?_
    refine g_frontv_fam ?_
    rw [← hv5, ← hvg]
    refine g_unfocus (apB Ls N X Y) (by rw [apB_read hk (by omega), Int.toNat_of_nonneg i0]) (fun k _ _ => rfl) ?_
    exact g_againi (iha (i + 1) (by omega) (by omega)) (.cons rfl (.cons rfl (.cons rfl (.cons rfl (.nil)))))
  intro hbr
  have hbr := of_decide_eq_false hbr
  refine g_exit rfl ?_
  refine g_seq ?_
  refine g_region ?_
  refine l_assign rfl rfl ?_
  refine l_nil ?_
  refine g_ret Try.func20 rfl (.tmp rfl .nil) ?_
  exact Gives.mki ⟨rfl, rfl⟩
end Go.Proofs.Ytfccfjgnoeocnaa.Fw
