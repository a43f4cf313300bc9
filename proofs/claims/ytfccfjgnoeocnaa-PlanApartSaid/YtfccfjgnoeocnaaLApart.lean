import Derived.Test.YtfccfjgnoeocnaaGap
import Derived.Test.YtfccfjgnoeocnaaCore
import Derived.Test.YtfccfjgnoeocnaaLShares
import Derived.Test.YtfccfjgnoeocnaaFwFlo
import Derived.Test.YtfccfjgnoeocnaaFw21
namespace Go.Proofs.Ytfccfjgnoeocnaa.Fw
open Go Go.Proofs
set_option linter.unusedVariables false
set_option linter.unusedSimpArgs false
set_option maxRecDepth 10000

def Sorted2 (x y : Span) : Prop := x.1 < y.1 ∨ (x.1 = y.1 ∧ x.2.1 < y.2.1 ∧ x.2.2.2 ≤ y.2.2.1)
theorem spK_sorted {p : Int} {k : Nat} {L : List Win} (hm : ∀ i, i < L.length → okW (wat L i)) : ∀ i, i ≤ L.length → (spK p k L i).Pairwise Sorted2
  | 0, _ => by simp [spK]
  | i + 1, hi => by
    have ih := spK_sorted (p := p) (k := k) hm i (by omega)
    unfold spK
    split
    · refine List.pairwise_append.2 ⟨ih, by simp, fun x hx y hy => ?_⟩
      simp only [List.mem_singleton] at hy
      subst hy
      obtain ⟨i', h1, rfl, _⟩ := spK_mem i hx
      unfold Sorted2
      right
      refine ⟨?_, ?_, ?_⟩
      · rfl
      · simp only; omega
      · exact bg_mono hm (by omega) (by omega)
    · exact ih
theorem spC_sorted {p : Int} {Ks : List CoreR} : ∀ k, AllMay Ks k → (∀ j, j < k → (kat Ks j).n = (kat Ks j).L.length) → (spC p Ks k).Pairwise Sorted2
  | 0, _, _ => by simp [spC]
  | k + 1, hm, hn => by
    have ih := spC_sorted (p := p) k (fun j hj => hm j (by omega)) (fun j hj => hn j (by omega))
    refine List.pairwise_append.2 ⟨ih, spK_sorted (hm k (by omega)).2.2 _ (by rw [hn k (by omega)]; exact Nat.le_refl _), fun x hx y hy => ?_⟩
    obtain ⟨k', h1, i, _, rfl, _⟩ := spC_mem k hx
    obtain ⟨i', _, rfl, _⟩ := spK_mem _ hy
    exact .inl (by simp only; omega)
theorem sat_pair {l : List Span} {R : Span → Span → Prop} (h : l.Pairwise R) {i j : Nat} (hij : i < j) (hj : j < l.length) : R (sat l i) (sat l j) := by
  have := List.pairwise_iff_getElem.1 h i j (by omega) hj hij
  have e1 : sat l i = l[i] := by simp [sat, show i < l.length by omega]
  have e2 : sat l j = l[j] := by simp [sat, hj]
  rw [e1, e2]; exact this
/-- A window that is told is the partition's. -/
theorem sp_el {p : Int} {Ks : List CoreR} {cn : Nat} {l : List Span} (hl : spC p Ks cn = l) {j : Nat} (hj : j < l.length) : (wat (kat Ks (sat l j).1.toNat).L (sat l j).2.1.toNat).1 = p ∧ frm l j = bg (kat Ks (sat l j).1.toNat).L (sat l j).2.1.toNat ∧ tov l j = bg (kat Ks (sat l j).1.toNat).L ((sat l j).2.1.toNat + 1) := by
  obtain ⟨k', h1, i, h2, h3, h4⟩ := spC_mem (x := sat l j) cn (by rw [hl]; exact sat_mem hj)
  unfold frm tov
  rw [h3]
  refine ⟨?_, ?_, ?_⟩
  · simp only [Int.toNat_natCast]; exact h4
  · simp only [Int.toNat_natCast]
  · simp only [Int.toNat_natCast]
theorem us_core {w0 : World} {F : List Atom} {ca : Option Addr} {cn : Nat} {p : Int} {Ks : List CoreR} {l : List Span} (hC : CR w0 F ca cn Ks) (hm : AllMay Ks cn) (hl : spC p Ks cn = l) (hs : ∀ j, j < l.length → (sat l j).1 = (sat l 0).1) : ∀ j, j < l.length → usL Ks l (j + 1) ≤ tov l j := by
  intro j
  induction j with
  | zero =>
    intro hj
    obtain ⟨y0, y1, y2, y3⟩ := sp_ok hl hj
    obtain ⟨e1, e2, e3⟩ := sp_el hl hj
    have hok := (hm (sat l 0).1.toNat (by omega)).2.2 (sat l 0).2.1.toNat (by rw [← hC.ns _ (by omega)]; exact y3)
    have hb := bg_bound (hm (sat l 0).1.toNat (by omega)).2.2 (sat l 0).2.1.toNat (by rw [← hC.ns _ (by omega)]; omega)
    unfold okW at hok
    rw [e3, bg_step]
    simp only [usL]
    omega
  | succ j ih =>
    intro hj
    have h1 := ih (by omega)
    obtain ⟨y0, y1, y2, y3⟩ := sp_ok hl hj
    obtain ⟨e1, e2, e3⟩ := sp_el hl hj
    have hok := (hm (sat l (j + 1)).1.toNat (by omega)).2.2 (sat l (j + 1)).2.1.toNat (by rw [← hC.ns _ (by omega)]; exact y3)
    unfold okW at hok
    have hp := sat_pair (spC_sorted (p := p) cn hm hC.ns) (i := j) (j := j + 1) (by omega) (by rw [hl]; exact hj)
    rw [hl] at hp
    have a1 := hs j (by omega)
    have a2 := hs (j + 1) hj
    have h2 : tov l j ≤ frm l (j + 1) := by
      rcases hp with hp | hp
      · omega
      · exact hp.2.2
    rw [e3, bg_step]
    rw [e2] at h2
    simp only [usL] at h1 ⊢
    omega
theorem same_all {p : Int} {Ks : List CoreR} {cn : Nat} {l : List Span} (hm : AllMay Ks cn) (hn : ∀ j, j < cn → (kat Ks j).n = (kat Ks j).L.length) (hl : spC p Ks cn = l) (h : (sat l 0).1 = (sat l (l.length - 1)).1) : ∀ j, j < l.length → (sat l j).1 = (sat l 0).1 := by
  intro j hj
  have hsd := spC_sorted (p := p) cn hm hn
  rw [hl] at hsd
  have a : (sat l 0).1 ≤ (sat l j).1 := by
    rcases Nat.eq_zero_or_pos j with rfl | h0
    · exact Int.le_refl _
    · rcases sat_pair hsd h0 hj with h1 | h1
      · omega
      · omega
  have b : (sat l j).1 ≤ (sat l (l.length - 1)).1 := by
    by_cases hjl : j = l.length - 1
    · rw [← hjl]; exact Int.le_refl _
    · rcases sat_pair hsd (show j < l.length - 1 by omega) (by omega) with h1 | h1
      · omega
      · omega
  omega
theorem sp_none {p : Int} {Ks : List CoreR} : ∀ {k : Nat}, (spC p Ks k).length = 0 ↔ ∀ j, j < k → ¬ HasP p (kat Ks j).L (kat Ks j).n := by
  have hK : ∀ (k : Nat) (L : List Win) (n : Nat), (spK p k L n).length = 0 ↔ ¬ HasP p L n := by
    intro k L n
    induction n with
    | zero => simp [spK, HasP]
    | succ n ih =>
      unfold spK
      split
      · rename_i h
        simp only [List.length_append, List.length_singleton]
        constructor
        · omega
        · intro h2; exact absurd ⟨n, by omega, h⟩ h2
      · rename_i h
        rw [ih]
        unfold HasP
        constructor
        · rintro h2 ⟨i, h3, h4⟩
          by_cases hi : i = n
          · subst hi; exact h h4
          · exact h2 ⟨i, by omega, h4⟩
        · rintro h2 ⟨i, h3, h4⟩
          exact h2 ⟨i, by omega, h4⟩
  intro k
  induction k with
  | zero => simp [spC]
  | succ k ih =>
    simp only [spC, List.length_append]
    constructor
    · intro h j hj
      by_cases hjk : j < k
      · exact ih.1 (by omega) j hjk
      · have : j = k := by omega
        subst this
        exact (hK j (kat Ks j).L (kat Ks j).n).1 (by omega)
    · intro h
      have h1 := ih.2 (fun j hj => h j (by omega))
      have h2 := (hK k (kat Ks k).L (kat Ks k).n).2 (h k (by omega))
      omega
theorem core_neg {Ks : List CoreR} {cn pn : Nat} {p x e : Int} (h : CoreSays Ks cn pn p x e) (hp : 0 ≤ p ∧ p < pn) : e = 0 ∧ (x < 0 ↔ (spC p Ks cn).length = 0) := by
  obtain ⟨h1, h2⟩ := h.2 hp
  refine ⟨h1, ?_⟩
  rw [sp_none]
  rcases h2 with ⟨k, a1, a2, a3, a4⟩ | ⟨a1, a2⟩
  · constructor
    · omega
    · intro h3; exact absurd a2 (h3 k a1)
  · constructor
    · intro _; exact a1
    · omega
section
variable {P : Program} {f : FuncId} {w0 : World} {K : Post} {n : Nat} {d : List Deferred} {ops : Array Oper} {rest : List Oper} {k : List Item} {e : Env} {F : List Atom}
variable {ty : TypeId} {pos : String} {aft : Array Edge}
theorem l_neqbf {t x y a b T T2} (ht : Nat.ble (t + 1) n = true) (hT : P.underlying T = some .bool) (hx : evO e x = some (.bool a)) (hy : evO e y = some (.bool b)) (h : (a != b) = false) (hk : GL P f w0 K n d ops rest k ((t, .bool false) :: e) F) :
    GL P f w0 K n d ops (.mk (some t) (.binOp .neq T x y T2) ty pos aft none :: rest) k e F := l_neqb ht hT hx hy (by
  rw [show (!(a == b)) = false by cases a <;> cases b <;> simp_all]; exact hk)
end
set_option maxHeartbeats 4000000 in
theorem apart_law (w0 : World) (F : List Atom) (fr mj kr rm : Int) (ca pa ha : Option Addr) (cn cc pn pc hn hc : Nat) (Ks : List CoreR) (hCR : CR w0 F ca cn Ks) (hcn : cn ≤ 9223372036854775807) (hpn : pn ≤ 9223372036854775807) (hmj : I64 mj) (p : Int) (p0 : -9223372036854775808 ≤ p) (p1 : p ≤ 9223372036854775807) (rows : List (List Value)) (hPR : PR w0 F pa pn rows) (hfit : Fit cn pn hn Ks rows) (r : Nat) (hr : FloatKind.f64.format.order r r = some .eq) (hq : Full Ks cn mj → floatBits .quo .f64 (floatOfInt .f64 (usL Ks (spC p Ks cn) (spC p Ks cn).length)) (floatOfInt .f64 mj) = some r) :
    CallK Try.prog 8 [.agg [Value.int .i64 fr, .int .i64 mj, .int .i64 kr, .int .i64 rm, .slice ca cn cc, .slice pa pn pc, .slice ha hn hc].toArray, .int .i64 p] w0 (F) (Gives w0 fun v F2 => v = .bool true ∧ F2 = F) := by
  have hCl := hCR.1
  refine c_enter Try.func8 rfl rfl rfl ?_
  refine g_seq ?_
  refine g_region ?_
  refine l_boxs rfl rfl ?_; intro b2
  refine l_assign rfl rfl ?_
  refine l_nil ?_
  refine g_seq ?_
  refine g_seq ?_
  refine g_region ?_
  refine l_lds rfl Try.isAgg27 Try.sizeOf27 rfl rfl ?_
  refine l_call rfl Try.call12 rfl (vast_fit _ _ fr mj kr rm ca pa ha cn cc pn pc hn hc Ks hCR.ex hcn hpn hmj rows hPR.ex hfit) ?_; rintro _ _ ⟨x9, rfl, rfl, hx9⟩
  refine l_nil ?_
  refine g_cond rfl ?_ ?_
  · intro hbr
    have hb19 := hbr
    refine g_seq ?_
    refine g_region ?_
    refine l_assign rfl rfl ?_
    refine l_nil ?_
    refine g_ret Try.func8 rfl (.tmp rfl .nil) ?_
    exact Gives.mki ⟨rfl, rfl⟩
  intro hbr
  have hb19 := hbr
  refine g_skip ?_
  refine g_seq ?_
  refine g_region ?_
  have hcn2 := hx9 hbr
  refine l_lds rfl Try.isAgg27 Try.sizeOf27 rfl rfl ?_
  refine l_move rfl rfl ?_
  refine l_call rfl Try.call22 rfl (spans_any _ _ fr mj kr rm ca pa ha cn cc pn pc hn hc Ks hCR.ex hcn hpn hmj p p0 p1 hcn2) ?_; rintro _ _ ⟨u, e, l, rfl, rfl, hgo, hno⟩
  refine l_fact (own_slice (mem_getO 0 rfl)) ?_
  rintro ⟨au, cu, rfl, hau⟩
  refine l_move rfl rfl ?_
  refine l_extract rfl rfl rfl ?_
  refine l_extract rfl rfl rfl ?_
  refine l_assign rfl rfl ?_
  refine l_assign rfl rfl ?_
  refine l_nil ?_
  refine g_seq ?_
  refine g_seq ?_
  refine g_region ?_
  skip
  refine l_move rfl rfl ?_
  refine l_neq rfl rfl rfl ?_
  refine l_nil ?_
  refine g_cond rfl ?_ ?_
  · intro hbr
    have hbr := of_decide_eq_true hbr
    refine g_seq ?_
    refine g_region ?_
    refine l_call rfl Try.call11 rfl (awake_ok _ _) ?_; rintro _ _ ⟨rfl, rfl⟩
    refine l_assign rfl rfl ?_
    refine l_nil ?_
    refine g_ret Try.func8 rfl (.tmp rfl .nil) ?_
    exact Gives.mki ⟨rfl, rfl⟩
  intro hbr
  have hbr := of_decide_eq_false hbr
  refine g_skip ?_
  refine g_seq ?_
  refine g_region ?_
  obtain ⟨hgi, hga, hgl⟩ := hgo (Classical.not_not.1 hbr)
  have hlenl : l.length ≤ 16 * cn := by rw [← hgl]; exact spC_len hCR cn (Nat.le_refl _) hga
  refine l_assign rfl rfl ?_
  refine l_assign rfl rfl ?_
  refine l_nil ?_
  refine g_seq ?_
  refine g_seq ?_
  refine g_region ?_
  refine l_assign rfl rfl ?_
  refine l_nil ?_
  refine g_block ?_
  refine g_loopc (X := Int) [(1, _), (2, _), (4, _), (5, _)] (.cons rfl (.cons rfl (.cons rfl (.cons rfl (.nil))))) (fun k => 0 ≤ k ∧ k ≤ cn) (fun k => (cn - k).toNat) (fun k => [(7, .int .i64 (spC p Ks k.toNat).length), (8, .int .i64 (usT Ks (spC p Ks k.toNat))), (9, .int .i64 k)]) (0) (by omega) (.cons rfl (.cons rfl (.cons rfl .nil))) ?_
  rintro k ⟨k0, k1⟩ ih
  dsimp only [List.cons_append, List.nil_append] at ih ⊢
  obtain ⟨⟨a, n, c, L⟩, hk⟩ : ∃ K, kat Ks k.toNat = K := ⟨_, rfl⟩
  refine g_seq ?_
  refine g_seq ?_
  refine g_region ?_
  refine l_move rfl rfl ?_
  refine l_fieldAddr rfl fa_27_4 rfl ?_
  refine l_ld rfl Try.isAgg23 rfl rfl ?_
  refine l_len rfl Try.underlying23 rfl ?_
  refine l_lss rfl rfl rfl ?_
  refine l_nil ?_
  refine g_cond rfl ?_ ?_
  · intro hbr
    have hbr := of_decide_eq_true hbr
    refine g_skip ?_
    refine g_seq ?_
    refine g_block ?_
    refine g_seq ?_
    refine g_region ?_
    refine l_assign rfl rfl ?_
    refine l_nil ?_
    refine g_block ?_
    obtain ⟨hW, hn9⟩ := hCR.ok hk (by omega)
    have hm : May L := by have := hga k.toNat (by omega); rwa [hk] at this
    have hL := hW.1
    have hI := hW.2.1
    unfold I64 at hI
    obtain ⟨m1, m2, _⟩ := id hm
    obtain ⟨b8, o8, rfl, hr8⟩ := hCR.some (i := k.toNat) (by omega)
    rw [← spI_zero p Ks k.toNat]
    refine g_loopc (X := Int) [(1, _), (2, _), (4, _), (5, _), (9, _), (29, _), (30, _), (31, _), (32, _), (33, _)] (.cons rfl (.cons rfl (.cons rfl (.cons rfl (.cons rfl (.cons rfl (.cons rfl (.cons rfl (.cons rfl (.cons rfl (.nil))))))))))) (fun i => 0 ≤ i ∧ i ≤ n) (fun i => (n - i).toNat) (fun i => [(7, .int .i64 (spI p Ks k.toNat i.toNat).length), (8, .int .i64 (usT Ks (spI p Ks k.toNat i.toNat))), (10, .int .i64 i)]) (0) (by omega) (.cons rfl (.cons rfl (.cons rfl .nil))) ?_
    rintro i ⟨i0, i1⟩ ihi
    dsimp only [List.cons_append, List.nil_append] at ihi ⊢
    have hub := (usT_bound (p := p) (fun j (hj : j < k.toNat) => hga j (by omega)) (fun j hj => hCR.ns j (by omega))).2.2 i.toNat (by rw [hk]; exact hm) (by rw [hk]; simp only; omega)
    have hmi := fun h => hm.2.2 i.toNat h
    unfold okW at hmi
    have hlen : (spI p Ks k.toNat i.toNat).length ≤ 16 * k.toNat + i.toNat := by
      have h1 := spC_len (p := p) hCR k.toNat (by omega) (fun j (hj : j < k.toNat) => hga j (by omega))
      have h2 := spK_len p k.toNat (kat Ks k.toNat).L i.toNat
      simp only [spI, List.length_append]
      omega
    refine g_seq ?_
    refine g_seq ?_
    refine g_region ?_
    refine l_move rfl rfl ?_
    refine l_fieldAddr rfl fa_27_4 rfl ?_
    refine l_ld rfl Try.isAgg23 rfl rfl ?_
    refine l_move rfl rfl ?_
    refine l_ixs rfl Try.underlying23 Try.sizeOf38 rfl rfl (by omega) (by omega) ?_
    refine l_loadc rfl Try.isAgg38 rfl (core_cell hr8.ex hk (by omega)) ?_
    refine l_len rfl Try.underlying38 rfl ?_
    refine l_lss rfl rfl rfl ?_
    refine l_nil ?_
    refine g_cond rfl ?_ ?_
    · intro hbr
      have hbr := of_decide_eq_true hbr
      refine g_skip ?_
      refine g_seq ?_
      refine g_block ?_
      refine g_seq ?_
      refine g_region ?_
      refine l_fieldAddr rfl fa_27_4 rfl ?_
      refine l_ld rfl Try.isAgg23 rfl rfl ?_
      refine l_move rfl rfl ?_
      refine l_ixs rfl Try.underlying23 Try.sizeOf38 rfl rfl (by omega) (by omega) ?_
      refine l_loadc rfl Try.isAgg38 rfl (core_cell hr8.ex hk (by omega)) ?_
      refine l_move rfl rfl ?_
      have hIi := hI i.toNat (by omega)
      obtain ⟨b9, o9, rfl, hr9⟩ := hW.some (i := i.toNat) (by omega)
      refine l_ixs rfl Try.underlying38 Try.sizeOf40 rfl rfl (by omega) (by omega) ?_
      refine l_fieldAddr rfl fa_40_0 rfl ?_
      refine l_loadc rfl Try.isAgg3 rfl ((row_elem hr9.ex (win_len L) (win_at (i := i.toNat) (by omega))).cell (j := 0) (v := .int .i64 (wat L i.toNat).1) rfl) ?_
      refine l_move rfl rfl ?_
      refine l_eql rfl rfl rfl ?_
      refine l_nil ?_
      refine g_cond rfl ?_ ?_
      · intro hbr
        have hbr := of_decide_eq_true hbr
        refine g_seq ?_
        refine g_region ?_
        refine l_move rfl rfl ?_
        first | refine l_add rfl rfl rfl (w_i64 (by omega) (by omega)) ?_ | refine l_addw rfl rfl rfl ?_
        refine l_assign rfl rfl ?_
        refine l_nil ?_
        refine g_region ?_
        refine l_move rfl rfl ?_
        refine l_fieldAddr rfl fa_27_4 rfl ?_
        refine l_ld rfl Try.isAgg23 rfl rfl ?_
        refine l_move rfl rfl ?_
        refine l_ixs rfl Try.underlying23 Try.sizeOf38 rfl rfl (by omega) (by omega) ?_
        refine l_loadc rfl Try.isAgg38 rfl (core_cell hr8.ex hk (by omega)) ?_
        refine l_move rfl rfl ?_
        refine l_ixs rfl Try.underlying38 Try.sizeOf40 rfl rfl (by omega) (by omega) ?_
        refine l_fieldAddr rfl fa_40_1 rfl ?_
        refine l_loadc rfl Try.isAgg3 rfl ((row_elem hr9.ex (win_len L) (win_at (i := i.toNat) (by omega))).cell (j := 1) (v := .int .i64 (wat L i.toNat).2.1) rfl) ?_
        first | refine l_add rfl rfl rfl (w_i64 (by omega) (by omega)) ?_ | refine l_addw rfl rfl rfl ?_
        refine l_assign rfl rfl ?_
        refine l_nil ?_
        refine g_inBlock ?_
        refine g_region ?_
        refine l_move rfl rfl ?_
        first | refine l_add rfl rfl rfl (w_i64 (by omega) (by omega)) ?_ | refine l_addw rfl rfl rfl ?_
        refine l_assign rfl rfl ?_
        refine l_nil ?_
        (first | (rw [spI_no hk hbr, show i.toNat + 1 = (i + 1).toNat by omega]; exact g_againi (ihi (i + 1) (by omega) (by omega)) (.cons rfl (.cons rfl (.cons rfl (.cons rfl (.cons rfl (.cons rfl (.cons rfl (.cons rfl (.cons rfl (.cons rfl (.cons rfl (.cons rfl (.cons rfl (.nil))))))))))))))) | (have hy := spI_yes hk hbr; have hu := usT_snoc (Ks := Ks) (l := spI p Ks k.toNat i.toNat) (k := k.toNat) (i := i.toNat) (x := bg L i.toNat) (y := bg L (i.toNat + 1)); have hlq : ((spI p Ks k.toNat i.toNat).length : Int) + 1 = ((spI p Ks k.toNat i.toNat ++ [((k.toNat : Int), (i.toNat : Int), bg L i.toNat, bg L (i.toNat + 1))]).length : Nat) := (by simp); rw [hy, hk] at hu; rw [hy] at hlq; rw [← hu, hlq, show i.toNat + 1 = (i + 1).toNat by omega]; exact g_againi (ihi (i + 1) (by omega) (by omega)) (.cons rfl (.cons rfl (.cons rfl (.cons rfl (.cons rfl (.cons rfl (.cons rfl (.cons rfl (.cons rfl (.cons rfl (.cons rfl (.cons rfl (.cons rfl (.nil))))))))))))))))
      intro hbr
      have hbr := of_decide_eq_false hbr
      refine g_skip ?_
      refine g_inBlock ?_
      refine g_region ?_
      refine l_move rfl rfl ?_
      first | refine l_add rfl rfl rfl (w_i64 (by omega) (by omega)) ?_ | refine l_addw rfl rfl rfl ?_
      refine l_assign rfl rfl ?_
      refine l_nil ?_
      (first | (rw [spI_no hk hbr, show i.toNat + 1 = (i + 1).toNat by omega]; exact g_againi (ihi (i + 1) (by omega) (by omega)) (.cons rfl (.cons rfl (.cons rfl (.cons rfl (.cons rfl (.cons rfl (.cons rfl (.cons rfl (.cons rfl (.cons rfl (.cons rfl (.cons rfl (.cons rfl (.nil))))))))))))))) | (have hy := spI_yes hk hbr; have hu := usT_snoc (Ks := Ks) (l := spI p Ks k.toNat i.toNat) (k := k.toNat) (i := i.toNat) (x := bg L i.toNat) (y := bg L (i.toNat + 1)); have hlq : ((spI p Ks k.toNat i.toNat).length : Int) + 1 = ((spI p Ks k.toNat i.toNat ++ [((k.toNat : Int), (i.toNat : Int), bg L i.toNat, bg L (i.toNat + 1))]).length : Nat) := (by simp); rw [hy, hk] at hu; rw [hy] at hlq; rw [← hu, hlq, show i.toNat + 1 = (i + 1).toNat by omega]; exact g_againi (ihi (i + 1) (by omega) (by omega)) (.cons rfl (.cons rfl (.cons rfl (.cons rfl (.cons rfl (.cons rfl (.cons rfl (.cons rfl (.cons rfl (.cons rfl (.cons rfl (.cons rfl (.cons rfl (.nil))))))))))))))))
    intro hbr
    have hbr := of_decide_eq_false hbr
    refine g_exit rfl ?_
    obtain rfl : i = n := by omega
    rw [Int.toNat_natCast, spI_end hk]
    refine g_inBlock ?_
    refine g_region ?_
    refine l_move rfl rfl ?_
    first | refine l_add rfl rfl rfl (w_i64 (by omega) (by omega)) ?_ | refine l_addw rfl rfl rfl ?_
    refine l_assign rfl rfl ?_
    refine l_nil ?_
    rw [show k.toNat + 1 = (k + 1).toNat by omega]
    exact g_againi (ih (k + 1) (by omega) (by omega)) (.cons rfl (.cons rfl (.cons rfl (.cons rfl (.cons rfl (.cons rfl (.cons rfl (.nil))))))))
  intro hbr
  have hbr := of_decide_eq_false hbr
  refine g_exit rfl ?_
  obtain rfl : k = cn := by omega
  rw [Int.toNat_natCast, hgl]
  refine g_seq ?_
  refine g_seq ?_
  refine g_region ?_
  refine l_move rfl rfl ?_
  refine l_move rfl rfl ?_
  refine l_len rfl Try.underlying45 rfl ?_
  refine l_neq rfl rfl rfl ?_
  refine l_nil ?_
  refine g_cond rfl ?_ ?_
  · intro hbr
    have hbr := of_decide_eq_true hbr
    (exfalso; omega)
  intro hbr
  have hbr := of_decide_eq_false hbr
  refine g_skip ?_
  refine g_seq ?_
  refine g_seq ?_
  refine g_region ?_
  refine l_assign rfl rfl ?_
  refine l_nil ?_
  refine g_block ?_
  refine g_loopc (X := Int) [(1, _), (2, _), (5, _), (7, _), (8, _)] (.cons rfl (.cons rfl (.cons rfl (.cons rfl (.cons rfl (.nil)))))) (fun j => 0 ≤ j ∧ j ≤ l.length) (fun j => (l.length - j).toNat) (fun j => [(11, .int .i64 j)]) (0) (by omega) (.cons rfl .nil) ?_
  rintro j ⟨j0, j1⟩ ihj
  dsimp only [List.cons_append, List.nil_append] at ihj ⊢
  refine g_seq ?_
  refine g_seq ?_
  refine g_region ?_
  refine l_move rfl rfl ?_
  refine l_move rfl rfl ?_
  refine l_len rfl Try.underlying45 rfl ?_
  refine l_lss rfl rfl rfl ?_
  refine l_nil ?_
  refine g_cond rfl ?_ ?_
  · intro hbr
    have hbr := of_decide_eq_true hbr
    refine g_skip ?_
    refine g_seq ?_
    refine g_block ?_
    refine g_seq ?_
    refine g_region ?_
    refine l_move rfl rfl ?_
    refine l_move rfl rfl ?_
    obtain ⟨y0, y1, y2, y3⟩ := sp_ok hgl (j := j.toNat) (by omega)
    obtain ⟨e1, e2, e3⟩ := sp_el hgl (j := j.toNat) (by omega)
    have e4 := @bg_step (kat Ks (sat l j.toNat).1.toNat).L (sat l j.toNat).2.1.toNat
    rw [← e2, ← e3] at e4
    have hpr : 0 < j.toNat → Sorted2 (sat l (j.toNat - 1)) (sat l j.toNat) := fun h => by
      have := sat_pair (spC_sorted (p := p) cn hga hCR.ns) (i := j.toNat - 1) (j := j.toNat) (by omega) (by rw [hgl]; omega)
      rwa [hgl] at this
    unfold Sorted2 at hpr
    obtain ⟨⟨a, n, c, L⟩, hk⟩ : ∃ K, kat Ks (sat l j.toNat).1.toNat = K := ⟨_, rfl⟩
    rw [hk] at y3 e1 e4
    simp only at y3 e1 e4
    obtain ⟨hW, hn9⟩ := hCR.ok hk (by omega)
    have hm : May L := by have := hga (sat l j.toNat).1.toNat (by omega); rwa [hk] at this
    have hL := hW.1
    have hI := hW.2.1
    unfold I64 at hI
    have hm4 := hm.2.2 (sat l j.toNat).2.1.toNat (by omega)
    unfold okW at hm4
    obtain ⟨g5, rfl⟩ := hau.resolve_left (by omega)
    obtain ⟨b8, o8, rfl, hr8⟩ := hCR.some (i := (sat l j.toNat).1.toNat) (by omega)
    obtain ⟨b9, o9, rfl, hr9⟩ := hW.some (i := (sat l j.toNat).2.1.toNat) (by omega)
    have hb0 : 0 ≤ bg (kat Ks (sat l j.toNat).1.toNat).L (sat l j.toNat).2.1.toNat := by rw [hk]; exact (bg_bound hm.2.2 _ (by omega)).1
    have hb1 : bg (kat Ks (sat l j.toNat).1.toNat).L (sat l j.toNat).2.1.toNat ≤ 32768 * 16 := by rw [hk]; simp only; have := (bg_bound hm.2.2 (sat l j.toNat).2.1.toNat (by omega)).2; have := hm.2.1; omega
    rw [← e2] at hb0 hb1
    simp only [frm, tov] at e4 hb0 hb1
    refine l_ixs rfl Try.underlying45 Try.sizeOf52 rfl rfl (by omega) (by omega) ?_
    refine l_loadr (l := spanRow (sat l j.toNat)) rfl Try.isAgg52 Try.sizeOf52 rfl rfl (sp_row (by omega)) ?_
    refine l_allocs rfl Try.zeroValue52 ?_; intro b12
    refine l_sts Try.sizeOf52 rfl rfl rfl rfl rfl ?_
    refine l_nil ?_
    refine g_seq ?_
    refine g_seq ?_
    refine gp_start mo (by kernel_rfl) (by kernel_rfl) ?_
    refine gp_quiet 0 rfl rfl rfl rfl rfl rfl (q_fieldAddr fa_52_0 rfl) ?_
    first | refine gp_quiet 1 rfl rfl rfl rfl rfl rfl (q_ld Try.isAgg3 rfl rfl) ?_ | refine gp_quiet 1 rfl rfl rfl rfl rfl rfl (q_ldw Try.isAgg3 rfl (by omega)) ?_
    refine gp_quiet 2 rfl rfl rfl rfl rfl rfl (q_lss rfl rfl) ?_
    refine gp_quiet 3 rfl rfl rfl rfl rfl rfl (q_move rfl) ?_
    refine gp_split 87 rfl ?_ ?_
    · intro hbr
      have hbr := of_decide_eq_true hbr
      (exfalso; omega)
    intro hbr
    have hg87 := hbr
    have hbr := of_decide_eq_false hbr
    refine gp_quietg 4 rfl rfl rfl rfl rfl rfl (.yes rfl rfl (q_fieldAddr fa_52_0 rfl)) ?_
    first | refine gp_quietg 5 rfl rfl rfl rfl rfl rfl (.yes rfl rfl (q_ld Try.isAgg3 rfl rfl)) ?_ | refine gp_quietg 5 rfl rfl rfl rfl rfl rfl (.yes rfl rfl (q_ldw Try.isAgg3 rfl (by omega))) ?_
    refine gp_quietg 6 rfl rfl rfl rfl rfl rfl (.yes rfl rfl (q_fieldAddr fa_27_4 rfl)) ?_
    refine gp_quietg 7 rfl rfl rfl rfl rfl rfl (.yes rfl rfl (q_ld Try.isAgg23 rfl rfl)) ?_
    refine gp_quietg 8 rfl rfl rfl rfl rfl rfl (.yes rfl rfl (q_len Try.underlying23 rfl)) ?_
    refine gp_quietg 9 rfl rfl rfl rfl rfl rfl (.yes rfl rfl (q_geq rfl rfl)) ?_
    refine gp_quiet 10 rfl rfl rfl rfl rfl rfl (q_pick_f rfl rfl) ?_
    refine gp_quiet 11 rfl rfl rfl rfl rfl rfl (q_move rfl) ?_
    refine gp_split 95 rfl ?_ ?_
    · intro hbr
      have hbr := of_decide_eq_true hbr
      (exfalso; omega)
    intro hbr
    have hg95 := hbr
    have hbr := of_decide_eq_false hbr
    refine gp_quietg 12 rfl rfl rfl rfl rfl rfl (.yes rfl rfl (q_fieldAddr fa_52_1 rfl)) ?_
    first | refine gp_quietg 13 rfl rfl rfl rfl rfl rfl (.yes rfl rfl (q_ld Try.isAgg3 rfl rfl)) ?_ | refine gp_quietg 13 rfl rfl rfl rfl rfl rfl (.yes rfl rfl (q_ldw Try.isAgg3 rfl (by omega))) ?_
    refine gp_quietg 14 rfl rfl rfl rfl rfl rfl (.yes rfl rfl (q_lss rfl rfl)) ?_
    refine gp_quiet 15 rfl rfl rfl rfl rfl rfl (q_pick_f rfl rfl) ?_
    refine gp_quiet 16 rfl rfl rfl rfl rfl rfl (q_move rfl) ?_
    refine gp_split 100 rfl ?_ ?_
    · intro hbr
      have hbr := of_decide_eq_true hbr
      (exfalso; omega)
    intro hbr
    have hg100 := hbr
    have hbr := of_decide_eq_false hbr
    refine gp_quietg 17 rfl rfl rfl rfl rfl rfl (.yes rfl rfl (q_fieldAddr fa_52_1 rfl)) ?_
    first | refine gp_quietg 18 rfl rfl rfl rfl rfl rfl (.yes rfl rfl (q_ld Try.isAgg3 rfl rfl)) ?_ | refine gp_quietg 18 rfl rfl rfl rfl rfl rfl (.yes rfl rfl (q_ldw Try.isAgg3 rfl (by omega))) ?_
    refine gp_quietg 19 rfl rfl rfl rfl rfl rfl (.yes rfl rfl (q_fieldAddr fa_27_4 rfl)) ?_
    refine gp_quietg 20 rfl rfl rfl rfl rfl rfl (.yes rfl rfl (q_ld Try.isAgg23 rfl rfl)) ?_
    refine gp_quietg 21 rfl rfl rfl rfl rfl rfl (.yes rfl rfl (q_fieldAddr fa_52_0 rfl)) ?_
    first | refine gp_quietg 22 rfl rfl rfl rfl rfl rfl (.yes rfl rfl (q_ld Try.isAgg3 rfl rfl)) ?_ | refine gp_quietg 22 rfl rfl rfl rfl rfl rfl (.yes rfl rfl (q_ldw Try.isAgg3 rfl (by omega))) ?_
    refine gp_quietg 23 rfl rfl rfl rfl rfl rfl (.yes rfl rfl (q_ixs Try.underlying23 Try.sizeOf38 rfl rfl (by omega) (by omega))) ?_
    refine gp_quietg 24 rfl rfl rfl rfl rfl rfl (.yes rfl rfl (q_loadc Try.isAgg38 rfl (core_cell hr8.ex hk (by omega)))) ?_
    refine gp_quietg 25 rfl rfl rfl rfl rfl rfl (.yes rfl rfl (q_len Try.underlying38 rfl)) ?_
    refine gp_quietg 26 rfl rfl rfl rfl rfl rfl (.yes rfl rfl (q_geq rfl rfl)) ?_
    refine gp_quiet 27 rfl rfl rfl rfl rfl rfl (q_pick_f rfl rfl) ?_
    refine gp_end rfl rfl ?_
    refine g_cond rfl ?_ ?_
    · intro hbr
      have hbr := of_decide_eq_true hbr
      (exfalso; omega)
    intro hbr
    have hbr := of_decide_eq_false hbr
    refine g_skip ?_
    refine g_seq ?_
    refine gp_start mo (by kernel_rfl) (by kernel_rfl) ?_
    refine gp_quiet 0 rfl rfl rfl rfl rfl rfl (q_fieldAddr fa_27_4 rfl) ?_
    refine gp_quiet 1 rfl rfl rfl rfl rfl rfl (q_ld Try.isAgg23 rfl rfl) ?_
    refine gp_quiet 2 rfl rfl rfl rfl rfl rfl (q_fieldAddr fa_52_0 rfl) ?_
    first | refine gp_quiet 3 rfl rfl rfl rfl rfl rfl (q_ld Try.isAgg3 rfl rfl) ?_ | refine gp_quiet 3 rfl rfl rfl rfl rfl rfl (q_ldw Try.isAgg3 rfl (by omega)) ?_
    refine gp_quiet 4 rfl rfl rfl rfl rfl rfl (q_ixs Try.underlying23 Try.sizeOf38 rfl rfl (by omega) (by omega)) ?_
    refine gp_quiet 5 rfl rfl rfl rfl rfl rfl (q_loadc Try.isAgg38 rfl (core_cell hr8.ex hk (by omega))) ?_
    refine gp_quiet 6 rfl rfl rfl rfl rfl rfl (q_fieldAddr fa_52_1 rfl) ?_
    first | refine gp_quiet 7 rfl rfl rfl rfl rfl rfl (q_ld Try.isAgg3 rfl rfl) ?_ | refine gp_quiet 7 rfl rfl rfl rfl rfl rfl (q_ldw Try.isAgg3 rfl (by omega)) ?_
    refine gp_quiet 8 rfl rfl rfl rfl rfl rfl (q_ixs Try.underlying38 Try.sizeOf40 rfl rfl (by omega) (by omega)) ?_
    refine gp_quiet 9 rfl rfl rfl rfl rfl rfl (q_loadr (l := winRow (wat L (sat l j.toNat).2.1.toNat)) Try.isAgg40 Try.sizeOf40 rfl rfl (row_elem hr9.ex (win_len L) (win_at (i := (sat l j.toNat).2.1.toNat) (by omega)))) ?_
    refine gp_eff 10 rfl rfl rfl rfl rfl rfl (does_allocs Try.zeroValue40) ?_
    rintro _ _ ⟨b13, rfl, rfl⟩
    refine ⟨?_, ?_⟩
    · refine .cons rfl rfl rfl rfl rfl (q_loadr (l := winRow (wat L (sat l j.toNat).2.1.toNat)) Try.isAgg40 Try.sizeOf40 rfl rfl (row_elem hr9.ex (win_len L) (win_at (i := (sat l j.toNat).2.1.toNat) (by omega)))) ?_
      refine .cons rfl rfl rfl rfl rfl (q_ixs Try.underlying38 Try.sizeOf40 rfl rfl (by omega) (by omega)) ?_
      first | refine .cons rfl rfl rfl rfl rfl (q_ld Try.isAgg3 rfl rfl) ?_ | refine .cons rfl rfl rfl rfl rfl (q_ldw Try.isAgg3 rfl (by omega)) ?_
      refine .cons rfl rfl rfl rfl rfl (q_fieldAddr fa_52_1 rfl) ?_
      refine .cons rfl rfl rfl rfl rfl (q_loadc Try.isAgg38 rfl (core_cell hr8.ex hk (by omega))) ?_
      refine .cons rfl rfl rfl rfl rfl (q_ixs Try.underlying23 Try.sizeOf38 rfl rfl (by omega) (by omega)) ?_
      first | refine .cons rfl rfl rfl rfl rfl (q_ld Try.isAgg3 rfl rfl) ?_ | refine .cons rfl rfl rfl rfl rfl (q_ldw Try.isAgg3 rfl (by omega)) ?_
      refine .cons rfl rfl rfl rfl rfl (q_fieldAddr fa_52_0 rfl) ?_
      refine .cons rfl rfl rfl rfl rfl (q_ld Try.isAgg23 rfl rfl) ?_
      refine .cons rfl rfl rfl rfl rfl (q_fieldAddr fa_27_4 rfl) ?_
      exact .nil
    refine gp_eff 11 rfl rfl rfl rfl rfl rfl (does_sts Try.sizeOf40 rfl rfl rfl rfl rfl) ?_
    rintro _ _ ⟨rfl, rfl⟩
    refine ⟨?_, ?_⟩
    · refine .cons rfl rfl rfl rfl rfl (q_loadr (l := winRow (wat L (sat l j.toNat).2.1.toNat)) Try.isAgg40 Try.sizeOf40 rfl rfl (row_elem hr9.ex (win_len L) (win_at (i := (sat l j.toNat).2.1.toNat) (by omega)))) ?_
      refine .cons rfl rfl rfl rfl rfl (q_ixs Try.underlying38 Try.sizeOf40 rfl rfl (by omega) (by omega)) ?_
      first | refine .cons rfl rfl rfl rfl rfl (q_ld Try.isAgg3 rfl rfl) ?_ | refine .cons rfl rfl rfl rfl rfl (q_ldw Try.isAgg3 rfl (by omega)) ?_
      refine .cons rfl rfl rfl rfl rfl (q_fieldAddr fa_52_1 rfl) ?_
      refine .cons rfl rfl rfl rfl rfl (q_loadc Try.isAgg38 rfl (core_cell hr8.ex hk (by omega))) ?_
      refine .cons rfl rfl rfl rfl rfl (q_ixs Try.underlying23 Try.sizeOf38 rfl rfl (by omega) (by omega)) ?_
      first | refine .cons rfl rfl rfl rfl rfl (q_ld Try.isAgg3 rfl rfl) ?_ | refine .cons rfl rfl rfl rfl rfl (q_ldw Try.isAgg3 rfl (by omega)) ?_
      refine .cons rfl rfl rfl rfl rfl (q_fieldAddr fa_52_0 rfl) ?_
      refine .cons rfl rfl rfl rfl rfl (q_ld Try.isAgg23 rfl rfl) ?_
      refine .cons rfl rfl rfl rfl rfl (q_fieldAddr fa_27_4 rfl) ?_
      exact .nil
    refine gp_end rfl rfl ?_
    refine g_seq ?_
    refine g_seq ?_
    refine g_region ?_
    refine l_fieldAddr rfl fa_40_0 rfl ?_
    first | refine l_ld rfl Try.isAgg3 rfl rfl ?_ | refine l_ldw rfl Try.isAgg3 rfl (by omega) ?_
    refine l_move rfl rfl ?_
    refine l_neq rfl rfl rfl ?_
    refine l_move rfl rfl ?_
    refine l_split 126 rfl ?_ ?_
    · intro hbr
      have hbr := of_decide_eq_true hbr
      (exfalso; omega)
    intro hbr
    have hbr := of_decide_eq_false hbr
    refine l_guard_yes rfl rfl ?_
    refine l_fieldAddr rfl fa_52_3 rfl ?_
    refine l_guard_yes rfl rfl ?_
    first | refine l_ld rfl Try.isAgg3 rfl rfl ?_ | refine l_ldw rfl Try.isAgg3 rfl (by omega) ?_
    refine l_guard_yes rfl rfl ?_
    refine l_fieldAddr rfl fa_52_2 rfl ?_
    refine l_guard_yes rfl rfl ?_
    first | refine l_ld rfl Try.isAgg3 rfl rfl ?_ | refine l_ldw rfl Try.isAgg3 rfl (by omega) ?_
    refine l_guard_yes rfl rfl ?_
    first | refine l_sub_ rfl rfl rfl (w_i64 (by omega) (by omega)) ?_ | refine l_subw rfl rfl rfl ?_
    refine l_guard_yes rfl rfl ?_
    refine l_fieldAddr rfl fa_40_1 rfl ?_
    refine l_guard_yes rfl rfl ?_
    first | refine l_ld rfl Try.isAgg3 rfl rfl ?_ | refine l_ldw rfl Try.isAgg3 rfl (by omega) ?_
    refine l_guard_yes rfl rfl ?_
    refine l_fieldAddr rfl fa_40_2 rfl ?_
    refine l_guard_yes rfl rfl ?_
    first | refine l_ld rfl Try.isAgg3 rfl rfl ?_ | refine l_ldw rfl Try.isAgg3 rfl (by omega) ?_
    refine l_guard_yes rfl rfl ?_
    first | refine l_add rfl rfl rfl (w_i64 (by omega) (by omega)) ?_ | refine l_addw rfl rfl rfl ?_
    refine l_guard_yes rfl rfl ?_
    refine l_neq rfl rfl rfl ?_
    refine l_pick_f rfl rfl rfl ?_
    refine l_nil ?_
    refine g_cond rfl ?_ ?_
    · intro hbr
      have hbr := of_decide_eq_true hbr
      (exfalso; omega)
    intro hbr
    have hbr := of_decide_eq_false hbr
    refine g_skip ?_
    refine g_seq ?_
    refine gp_start mo (by kernel_rfl) (by kernel_rfl) ?_
    refine gp_quiet 0 rfl rfl rfl rfl rfl rfl (q_move rfl) ?_
    refine gp_quiet 1 rfl rfl rfl rfl rfl rfl (q_gtr rfl rfl) ?_
    refine gp_quiet 2 rfl rfl rfl rfl rfl rfl (q_move rfl) ?_
    refine gp_split 141 rfl ?_ ?_
    · intro hbr
      have hg141 := hbr
      have hbr := of_decide_eq_true hbr
      refine gp_quietg 3 rfl rfl rfl rfl rfl rfl (.yes rfl rfl (q_move rfl)) ?_
      refine gp_quietg 4 rfl rfl rfl rfl rfl rfl (.yes rfl rfl (q_move rfl)) ?_
      first | refine gp_quietg 5 rfl rfl rfl rfl rfl rfl (.yes rfl rfl (q_sub_ rfl rfl (w_i64 (by omega) (by omega)))) ?_ | refine gp_quietg 5 rfl rfl rfl rfl rfl rfl (.yes rfl rfl (q_subw rfl rfl)) ?_
      refine gp_quietg 6 rfl rfl rfl rfl rfl rfl (.yes rfl rfl (q_ixs Try.underlying45 Try.sizeOf52 rfl rfl (by omega) (by omega))) ?_
      refine gp_quietg 7 rfl rfl rfl rfl rfl rfl (.yes rfl rfl (q_fieldAddr fa_52_0 rfl)) ?_
      refine gp_quietg 8 rfl rfl rfl rfl rfl rfl (.yes rfl rfl (q_loadc Try.isAgg3 rfl (v := .int .i64 ((sat l (j.toNat - 1)).1)) (by rw [show (j - 1).toNat = j.toNat - 1 by omega]; exact sp_cell (l := l) (by omega) 0 rfl))) ?_
      refine gp_quietg 9 rfl rfl rfl rfl rfl rfl (.yes rfl rfl (q_fieldAddr fa_52_0 rfl)) ?_
      first | refine gp_quietg 10 rfl rfl rfl rfl rfl rfl (.yes rfl rfl (q_ld Try.isAgg3 rfl rfl)) ?_ | refine gp_quietg 10 rfl rfl rfl rfl rfl rfl (.yes rfl rfl (q_ldw Try.isAgg3 rfl (by omega))) ?_
      refine gp_quietg 11 rfl rfl rfl rfl rfl rfl (.yes rfl rfl (q_gtr rfl rfl)) ?_
      refine gp_quietg 12 rfl rfl rfl rfl rfl rfl (.yes rfl rfl (q_move rfl)) ?_
      refine gp_split 151 rfl ?_ ?_
      · intro hbr
        have hbr := of_decide_eq_true hbr
        (exfalso; omega)
      intro hbr
      have hg151 := hbr
      have hbr := of_decide_eq_false hbr
      refine gp_quietg 13 rfl rfl rfl rfl rfl rfl (.yes rfl rfl (q_move rfl)) ?_
      refine gp_quietg 14 rfl rfl rfl rfl rfl rfl (.yes rfl rfl (q_move rfl)) ?_
      first | refine gp_quietg 15 rfl rfl rfl rfl rfl rfl (.yes rfl rfl (q_sub_ rfl rfl (w_i64 (by omega) (by omega)))) ?_ | refine gp_quietg 15 rfl rfl rfl rfl rfl rfl (.yes rfl rfl (q_subw rfl rfl)) ?_
      refine gp_quietg 16 rfl rfl rfl rfl rfl rfl (.yes rfl rfl (q_ixs Try.underlying45 Try.sizeOf52 rfl rfl (by omega) (by omega))) ?_
      refine gp_quietg 17 rfl rfl rfl rfl rfl rfl (.yes rfl rfl (q_fieldAddr fa_52_0 rfl)) ?_
      refine gp_quietg 18 rfl rfl rfl rfl rfl rfl (.yes rfl rfl (q_loadc Try.isAgg3 rfl (v := .int .i64 ((sat l (j.toNat - 1)).1)) (by rw [show (j - 1).toNat = j.toNat - 1 by omega]; exact sp_cell (l := l) (by omega) 0 rfl))) ?_
      refine gp_quietg 19 rfl rfl rfl rfl rfl rfl (.yes rfl rfl (q_fieldAddr fa_52_0 rfl)) ?_
      first | refine gp_quietg 20 rfl rfl rfl rfl rfl rfl (.yes rfl rfl (q_ld Try.isAgg3 rfl rfl)) ?_ | refine gp_quietg 20 rfl rfl rfl rfl rfl rfl (.yes rfl rfl (q_ldw Try.isAgg3 rfl (by omega))) ?_
      refine gp_quietg 21 rfl rfl rfl rfl rfl rfl (.yes rfl rfl (q_eql rfl rfl)) ?_
      refine gp_quietg 22 rfl rfl rfl rfl rfl rfl (.yes rfl rfl (q_move rfl)) ?_
      refine gp_split 161 rfl ?_ ?_
      · intro hbr
        have hg161 := hbr
        have hbr := of_decide_eq_true hbr
        refine gp_quietg 23 rfl rfl rfl rfl rfl rfl (.yes rfl rfl (q_move rfl)) ?_
        refine gp_quietg 24 rfl rfl rfl rfl rfl rfl (.yes rfl rfl (q_move rfl)) ?_
        first | refine gp_quietg 25 rfl rfl rfl rfl rfl rfl (.yes rfl rfl (q_sub_ rfl rfl (w_i64 (by omega) (by omega)))) ?_ | refine gp_quietg 25 rfl rfl rfl rfl rfl rfl (.yes rfl rfl (q_subw rfl rfl)) ?_
        refine gp_quietg 26 rfl rfl rfl rfl rfl rfl (.yes rfl rfl (q_ixs Try.underlying45 Try.sizeOf52 rfl rfl (by omega) (by omega))) ?_
        refine gp_quietg 27 rfl rfl rfl rfl rfl rfl (.yes rfl rfl (q_fieldAddr fa_52_3 rfl)) ?_
        refine gp_quietg 28 rfl rfl rfl rfl rfl rfl (.yes rfl rfl (q_loadc Try.isAgg3 rfl (v := .int .i64 ((sat l (j.toNat - 1)).2.2.2)) (by rw [show (j - 1).toNat = j.toNat - 1 by omega]; exact sp_cell (l := l) (by omega) 3 rfl))) ?_
        refine gp_quietg 29 rfl rfl rfl rfl rfl rfl (.yes rfl rfl (q_fieldAddr fa_52_2 rfl)) ?_
        first | refine gp_quietg 30 rfl rfl rfl rfl rfl rfl (.yes rfl rfl (q_ld Try.isAgg3 rfl rfl)) ?_ | refine gp_quietg 30 rfl rfl rfl rfl rfl rfl (.yes rfl rfl (q_ldw Try.isAgg3 rfl (by omega))) ?_
        refine gp_quietg 31 rfl rfl rfl rfl rfl rfl (.yes rfl rfl (q_gtr rfl rfl)) ?_
        refine gp_quietg 32 rfl rfl rfl rfl rfl rfl (.yes rfl rfl (q_move rfl)) ?_
        refine gp_split 171 rfl ?_ ?_
        · intro hbr
          have hbr := of_decide_eq_true hbr
          (exfalso; omega)
        intro hbr
        have hg171 := hbr
        have hbr := of_decide_eq_false hbr
        refine gp_quietg 33 rfl rfl rfl rfl rfl rfl (.yes rfl rfl (q_move rfl)) ?_
        refine gp_quietg 34 rfl rfl rfl rfl rfl rfl (.yes rfl rfl (q_move rfl)) ?_
        first | refine gp_quietg 35 rfl rfl rfl rfl rfl rfl (.yes rfl rfl (q_sub_ rfl rfl (w_i64 (by omega) (by omega)))) ?_ | refine gp_quietg 35 rfl rfl rfl rfl rfl rfl (.yes rfl rfl (q_subw rfl rfl)) ?_
        refine gp_quietg 36 rfl rfl rfl rfl rfl rfl (.yes rfl rfl (q_ixs Try.underlying45 Try.sizeOf52 rfl rfl (by omega) (by omega))) ?_
        refine gp_quietg 37 rfl rfl rfl rfl rfl rfl (.yes rfl rfl (q_fieldAddr fa_52_1 rfl)) ?_
        refine gp_quietg 38 rfl rfl rfl rfl rfl rfl (.yes rfl rfl (q_loadc Try.isAgg3 rfl (v := .int .i64 ((sat l (j.toNat - 1)).2.1)) (by rw [show (j - 1).toNat = j.toNat - 1 by omega]; exact sp_cell (l := l) (by omega) 1 rfl))) ?_
        refine gp_quietg 39 rfl rfl rfl rfl rfl rfl (.yes rfl rfl (q_fieldAddr fa_52_1 rfl)) ?_
        first | refine gp_quietg 40 rfl rfl rfl rfl rfl rfl (.yes rfl rfl (q_ld Try.isAgg3 rfl rfl)) ?_ | refine gp_quietg 40 rfl rfl rfl rfl rfl rfl (.yes rfl rfl (q_ldw Try.isAgg3 rfl (by omega))) ?_
        refine gp_quietg 41 rfl rfl rfl rfl rfl rfl (.yes rfl rfl (q_geq rfl rfl)) ?_
        refine gp_quietg 42 rfl rfl rfl rfl rfl rfl (.yes rfl rfl (q_pick_f rfl rfl)) ?_
        refine gp_quietg 43 rfl rfl rfl rfl rfl rfl (.yes rfl rfl (q_pick_t rfl rfl)) ?_
        refine gp_quietg 44 rfl rfl rfl rfl rfl rfl (.yes rfl rfl (q_pick_f rfl rfl)) ?_
        refine gp_quiet 45 rfl rfl rfl rfl rfl rfl (q_pick_t rfl rfl) ?_
        refine gp_end rfl rfl ?_
        refine g_cond rfl ?_ ?_
        · intro hbr
          have hbr := of_decide_eq_true hbr
          (exfalso; omega)
        intro hbr
        have hbr := of_decide_eq_false hbr
        refine g_skip ?_
        refine g_inBlock ?_
        refine g_region ?_
        refine l_move rfl rfl ?_
        first | refine l_add rfl rfl rfl (w_i64 (by omega) (by omega)) ?_ | refine l_addw rfl rfl rfl ?_
        refine l_assign rfl rfl ?_
        refine l_nil ?_
        exact g_againi (ihj (j + 1) (by omega) (by omega)) (.cons rfl (.cons rfl (.cons rfl (.cons rfl (.cons rfl (.cons rfl (.nil)))))))
      intro hbr
      have hg161 := hbr
      have hbr := of_decide_eq_false hbr
      refine gp_quietg 23 rfl rfl rfl rfl rfl rfl (.no rfl rfl) ?_
      refine gp_quietg 24 rfl rfl rfl rfl rfl rfl (.no rfl rfl) ?_
      refine gp_quietg 25 rfl rfl rfl rfl rfl rfl (.no rfl rfl) ?_
      refine gp_quietg 26 rfl rfl rfl rfl rfl rfl (.no rfl rfl) ?_
      refine gp_quietg 27 rfl rfl rfl rfl rfl rfl (.no rfl rfl) ?_
      refine gp_quietg 28 rfl rfl rfl rfl rfl rfl (.no rfl rfl) ?_
      refine gp_quietg 29 rfl rfl rfl rfl rfl rfl (.no rfl rfl) ?_
      refine gp_quietg 30 rfl rfl rfl rfl rfl rfl (.no rfl rfl) ?_
      refine gp_quietg 31 rfl rfl rfl rfl rfl rfl (.no rfl rfl) ?_
      refine gp_quietg 32 rfl rfl rfl rfl rfl rfl (.no rfl rfl) ?_
      refine gp_quietg 33 rfl rfl rfl rfl rfl rfl (.nou rfl rfl) ?_
      refine gp_quietg 34 rfl rfl rfl rfl rfl rfl (.nou rfl rfl) ?_
      refine gp_quietg 35 rfl rfl rfl rfl rfl rfl (.nou rfl rfl) ?_
      refine gp_quietg 36 rfl rfl rfl rfl rfl rfl (.nou rfl rfl) ?_
      refine gp_quietg 37 rfl rfl rfl rfl rfl rfl (.nou rfl rfl) ?_
      refine gp_quietg 38 rfl rfl rfl rfl rfl rfl (.nou rfl rfl) ?_
      refine gp_quietg 39 rfl rfl rfl rfl rfl rfl (.nou rfl rfl) ?_
      refine gp_quietg 40 rfl rfl rfl rfl rfl rfl (.nou rfl rfl) ?_
      refine gp_quietg 41 rfl rfl rfl rfl rfl rfl (.nou rfl rfl) ?_
      refine gp_quietg 42 rfl rfl rfl rfl rfl rfl (.no rfl rfl) ?_
      refine gp_quietg 43 rfl rfl rfl rfl rfl rfl (.yes rfl rfl (q_pick_f rfl rfl)) ?_
      refine gp_quietg 44 rfl rfl rfl rfl rfl rfl (.yes rfl rfl (q_pick_f rfl rfl)) ?_
      refine gp_quiet 45 rfl rfl rfl rfl rfl rfl (q_pick_t rfl rfl) ?_
      refine gp_end rfl rfl ?_
      refine g_cond_f rfl ?_
      refine g_skip ?_
      refine g_inBlock ?_
      refine g_region ?_
      refine l_move rfl rfl ?_
      first | refine l_add rfl rfl rfl (w_i64 (by omega) (by omega)) ?_ | refine l_addw rfl rfl rfl ?_
      refine l_assign rfl rfl ?_
      refine l_nil ?_
      exact g_againi (ihj (j + 1) (by omega) (by omega)) (.cons rfl (.cons rfl (.cons rfl (.cons rfl (.cons rfl (.cons rfl (.nil)))))))
    intro hbr
    have hg141 := hbr
    have hbr := of_decide_eq_false hbr
    refine gp_quietg 3 rfl rfl rfl rfl rfl rfl (.no rfl rfl) ?_
    refine gp_quietg 4 rfl rfl rfl rfl rfl rfl (.no rfl rfl) ?_
    refine gp_quietg 5 rfl rfl rfl rfl rfl rfl (.no rfl rfl) ?_
    refine gp_quietg 6 rfl rfl rfl rfl rfl rfl (.no rfl rfl) ?_
    refine gp_quietg 7 rfl rfl rfl rfl rfl rfl (.no rfl rfl) ?_
    refine gp_quietg 8 rfl rfl rfl rfl rfl rfl (.no rfl rfl) ?_
    refine gp_quietg 9 rfl rfl rfl rfl rfl rfl (.no rfl rfl) ?_
    refine gp_quietg 10 rfl rfl rfl rfl rfl rfl (.no rfl rfl) ?_
    refine gp_quietg 11 rfl rfl rfl rfl rfl rfl (.no rfl rfl) ?_
    refine gp_quietg 12 rfl rfl rfl rfl rfl rfl (.no rfl rfl) ?_
    refine gp_quietg 13 rfl rfl rfl rfl rfl rfl (.nou rfl rfl) ?_
    refine gp_quietg 14 rfl rfl rfl rfl rfl rfl (.nou rfl rfl) ?_
    refine gp_quietg 15 rfl rfl rfl rfl rfl rfl (.nou rfl rfl) ?_
    refine gp_quietg 16 rfl rfl rfl rfl rfl rfl (.nou rfl rfl) ?_
    refine gp_quietg 17 rfl rfl rfl rfl rfl rfl (.nou rfl rfl) ?_
    refine gp_quietg 18 rfl rfl rfl rfl rfl rfl (.nou rfl rfl) ?_
    refine gp_quietg 19 rfl rfl rfl rfl rfl rfl (.nou rfl rfl) ?_
    refine gp_quietg 20 rfl rfl rfl rfl rfl rfl (.nou rfl rfl) ?_
    refine gp_quietg 21 rfl rfl rfl rfl rfl rfl (.nou rfl rfl) ?_
    refine gp_quietg 22 rfl rfl rfl rfl rfl rfl (.nou rfl rfl) ?_
    refine gp_quietg 23 rfl rfl rfl rfl rfl rfl (.nou rfl rfl) ?_
    refine gp_quietg 24 rfl rfl rfl rfl rfl rfl (.nou rfl rfl) ?_
    refine gp_quietg 25 rfl rfl rfl rfl rfl rfl (.nou rfl rfl) ?_
    refine gp_quietg 26 rfl rfl rfl rfl rfl rfl (.nou rfl rfl) ?_
    refine gp_quietg 27 rfl rfl rfl rfl rfl rfl (.nou rfl rfl) ?_
    refine gp_quietg 28 rfl rfl rfl rfl rfl rfl (.nou rfl rfl) ?_
    refine gp_quietg 29 rfl rfl rfl rfl rfl rfl (.nou rfl rfl) ?_
    refine gp_quietg 30 rfl rfl rfl rfl rfl rfl (.nou rfl rfl) ?_
    refine gp_quietg 31 rfl rfl rfl rfl rfl rfl (.nou rfl rfl) ?_
    refine gp_quietg 32 rfl rfl rfl rfl rfl rfl (.nou rfl rfl) ?_
    refine gp_quietg 33 rfl rfl rfl rfl rfl rfl (.nou rfl rfl) ?_
    refine gp_quietg 34 rfl rfl rfl rfl rfl rfl (.nou rfl rfl) ?_
    refine gp_quietg 35 rfl rfl rfl rfl rfl rfl (.nou rfl rfl) ?_
    refine gp_quietg 36 rfl rfl rfl rfl rfl rfl (.nou rfl rfl) ?_
    refine gp_quietg 37 rfl rfl rfl rfl rfl rfl (.nou rfl rfl) ?_
    refine gp_quietg 38 rfl rfl rfl rfl rfl rfl (.nou rfl rfl) ?_
    refine gp_quietg 39 rfl rfl rfl rfl rfl rfl (.nou rfl rfl) ?_
    refine gp_quietg 40 rfl rfl rfl rfl rfl rfl (.nou rfl rfl) ?_
    refine gp_quietg 41 rfl rfl rfl rfl rfl rfl (.nou rfl rfl) ?_
    refine gp_quietg 42 rfl rfl rfl rfl rfl rfl (.nou rfl rfl) ?_
    refine gp_quietg 43 rfl rfl rfl rfl rfl rfl (.nou rfl rfl) ?_
    refine gp_quietg 44 rfl rfl rfl rfl rfl rfl (.no rfl rfl) ?_
    refine gp_quiet 45 rfl rfl rfl rfl rfl rfl (q_pick_f rfl rfl) ?_
    refine gp_end rfl rfl ?_
    refine g_cond_f rfl ?_
    refine g_skip ?_
    refine g_inBlock ?_
    refine g_region ?_
    refine l_move rfl rfl ?_
    first | refine l_add rfl rfl rfl (w_i64 (by omega) (by omega)) ?_ | refine l_addw rfl rfl rfl ?_
    refine l_assign rfl rfl ?_
    refine l_nil ?_
    exact g_againi (ihj (j + 1) (by omega) (by omega)) (.cons rfl (.cons rfl (.cons rfl (.cons rfl (.cons rfl (.cons rfl (.nil)))))))
  intro hbr
  have hbr := of_decide_eq_false hbr
  refine g_exit rfl ?_
  refine g_seq ?_
  refine g_region ?_
  refine l_lds rfl Try.isAgg27 Try.sizeOf27 rfl rfl ?_
  refine l_move rfl rfl ?_
  refine l_call rfl Try.call27 rfl (share_any _ _ fr mj kr rm ca pa ha cn cc pn pc hn hc Ks hCR.ex hcn hpn hmj p p0 p1 hcn2 r hq) ?_; rintro _ _ ⟨x1, e1, rfl, rfl, hs1, hs2⟩
  refine l_move rfl rfl ?_
  refine l_extract rfl rfl rfl ?_
  refine l_extract rfl rfl rfl ?_
  refine l_assign rfl rfl ?_
  refine l_assign rfl rfl ?_
  refine l_nil ?_
  refine g_seq ?_
  refine g_seq ?_
  refine g_region ?_
  refine l_move rfl rfl ?_
  refine l_neq rfl rfl rfl ?_
  refine l_nil ?_
  refine g_cond rfl ?_ ?_
  · intro hbr
    have hbr := of_decide_eq_true hbr
    refine g_seq ?_
    refine g_region ?_
    refine l_call rfl Try.call11 rfl (awake_ok _ _) ?_; rintro _ _ ⟨rfl, rfl⟩
    refine l_assign rfl rfl ?_
    refine l_nil ?_
    refine g_ret Try.func8 rfl (.tmp rfl .nil) ?_
    exact Gives.mki ⟨rfl, rfl⟩
  intro hbr
  have hbr := of_decide_eq_false hbr
  refine g_skip ?_
  refine g_seq ?_
  refine g_region ?_
  refine l_lds rfl Try.isAgg27 Try.sizeOf27 rfl rfl ?_
  refine l_move rfl rfl ?_
  refine l_call rfl Try.call25 rfl (core_any _ _ fr mj kr rm ca pa ha cn cc pn pc hn hc Ks hCR.ex hcn hpn hmj p p0 p1) ?_; rintro _ _ ⟨x2, e2, rfl, rfl, hs3⟩
  obtain ⟨rfl, hcz⟩ := core_neg hs3 hgi
  obtain ⟨_, hfu, rfl⟩ := hs1 (Classical.not_not.1 hbr)
  replace hq := hq hfu
  have hfb := full_bd hfu
  rw [hgl] at hcz
  have hczd : (decide (x2 < 0) != decide ((l.length : Int) = 0)) = false := by
    by_cases h : x2 < 0
    · have := hcz.1 h; simp [h, this]
    · have : ¬ l.length = 0 := fun h2 => h (hcz.2 h2)
      simp [h, this]
  refine l_move rfl rfl ?_
  refine l_extract rfl rfl rfl ?_
  refine l_extract rfl rfl rfl ?_
  refine l_assign rfl rfl ?_
  refine l_assign rfl rfl ?_
  refine l_nil ?_
  refine g_seq ?_
  refine g_seq ?_
  refine g_region ?_
  refine l_move rfl rfl ?_
  refine l_neq rfl rfl rfl ?_
  refine l_move rfl rfl ?_
  refine l_split 202 rfl ?_ ?_
  · intro hbr
    have hbr := of_decide_eq_true hbr
    (exfalso; omega)
  intro hbr
  have hbr := of_decide_eq_false hbr
  refine l_guard_yes rfl rfl ?_
  refine l_move rfl rfl ?_
  refine l_guard_yes rfl rfl ?_
  refine l_lss rfl rfl rfl ?_
  refine l_guard_yes rfl rfl ?_
  refine l_move rfl rfl ?_
  refine l_guard_yes rfl rfl ?_
  refine l_eql rfl rfl rfl ?_
  refine l_guard_yes rfl rfl ?_
  refine l_neqbf rfl Try.underlying4 rfl rfl hczd ?_
  refine l_pick_f rfl rfl rfl ?_
  refine l_nil ?_
  refine g_cond_f rfl ?_
  refine g_skip ?_
  refine g_seq ?_
  refine g_seq ?_
  refine gp_start mo (by kernel_rfl) (by kernel_rfl) ?_
  refine gp_quiet 0 rfl rfl rfl rfl rfl rfl (q_move rfl) ?_
  refine gp_quiet 1 rfl rfl rfl rfl rfl rfl (q_gtr rfl rfl) ?_
  refine gp_quiet 2 rfl rfl rfl rfl rfl rfl (q_move rfl) ?_
  refine gp_split 211 rfl ?_ ?_
  · intro hbr
    have hg211 := hbr
    have hbr := of_decide_eq_true hbr
    refine gp_quietg 3 rfl rfl rfl rfl rfl rfl (.yes rfl rfl (q_move rfl)) ?_
    obtain ⟨g5, rfl⟩ := hau.resolve_left (by omega)
    refine gp_quietg 4 rfl rfl rfl rfl rfl rfl (.yes rfl rfl (q_ixs Try.underlying45 Try.sizeOf52 rfl rfl (by omega) (by omega))) ?_
    refine gp_quietg 5 rfl rfl rfl rfl rfl rfl (.yes rfl rfl (q_fieldAddr fa_52_0 rfl)) ?_
    refine gp_quietg 6 rfl rfl rfl rfl rfl rfl (.yes rfl rfl (q_loadc Try.isAgg3 rfl (v := .int .i64 (sat l 0).1) (sp_cell (l := l) (j := 0) (by omega) 0 rfl))) ?_
    refine gp_quietg 7 rfl rfl rfl rfl rfl rfl (.yes rfl rfl (q_move rfl)) ?_
    refine gp_quietg 8 rfl rfl rfl rfl rfl rfl (.yes rfl rfl (q_move rfl)) ?_
    first | refine gp_quietg 9 rfl rfl rfl rfl rfl rfl (.yes rfl rfl (q_sub_ rfl rfl (w_i64 (by omega) (by omega)))) ?_ | refine gp_quietg 9 rfl rfl rfl rfl rfl rfl (.yes rfl rfl (q_subw rfl rfl)) ?_
    refine gp_quietg 10 rfl rfl rfl rfl rfl rfl (.yes rfl rfl (q_ixs Try.underlying45 Try.sizeOf52 rfl rfl (by omega) (by omega))) ?_
    refine gp_quietg 11 rfl rfl rfl rfl rfl rfl (.yes rfl rfl (q_fieldAddr fa_52_0 rfl)) ?_
    refine gp_quietg 12 rfl rfl rfl rfl rfl rfl (.yes rfl rfl (q_loadc Try.isAgg3 rfl (v := .int .i64 (sat l (l.length - 1)).1) (by rw [show ((l.length : Int) - 1).toNat = l.length - 1 by omega]; exact sp_cell (l := l) (by omega) 0 rfl))) ?_
    refine gp_quietg 13 rfl rfl rfl rfl rfl rfl (.yes rfl rfl (q_eql rfl rfl)) ?_
    refine gp_quiet 14 rfl rfl rfl rfl rfl rfl (q_pick_t rfl rfl) ?_
    refine gp_quiet 15 rfl rfl rfl rfl rfl rfl (q_move rfl) ?_
    refine gp_split 224 rfl ?_ ?_
    · intro hbr
      have hg224 := hbr
      have hbr := of_decide_eq_true hbr
      refine gp_quietg 16 rfl rfl rfl rfl rfl rfl (.yes rfl rfl (q_move rfl)) ?_
      have hsame := same_all hga hCR.ns hgl hbr
      have hus := us_core hCR hga hgl hsame (l.length - 1) (by omega)
      rw [show l.length - 1 + 1 = l.length by omega] at hus
      have hto := (sp_bd hCR hgl hfu (j := l.length - 1) (by omega)).2.2
      have hub := us_bound hCR hga hgl l.length (Nat.le_refl _)
      refine gp_quietg 17 rfl rfl rfl rfl rfl rfl (.yes rfl rfl (q_fgtrf rfl rfl (Flo.quo_one (a := usL Ks l l.length) (b := mj) (by omega) (by omega) (by omega) (by omega) (by rw [hgl] at hq; exact hq)))) ?_
      refine gp_quiet 18 rfl rfl rfl rfl rfl rfl (q_pick_t rfl rfl) ?_
      refine gp_end rfl rfl ?_
      refine g_cond_f rfl ?_
      refine g_skip ?_
      refine g_seq ?_
      refine g_region ?_
      refine l_move rfl rfl ?_
      refine l_move rfl rfl ?_
      refine l_itof rfl Try.underlying3 Try.underlying53 rfl ?_
      refine l_fieldAddr rfl fa_27_1 rfl ?_
      first | refine l_ld rfl Try.isAgg3 rfl rfl ?_ | refine l_ldw rfl Try.isAgg3 rfl (by omega) ?_
      refine l_itof rfl Try.underlying3 Try.underlying53 rfl ?_
      rw [hgl] at hq
      refine l_fquo rfl rfl rfl hq ?_
      refine l_feqlt rfl rfl rfl (by rw [hr]; rfl) ?_
      refine l_move rfl rfl ?_
      refine l_guard_yes rfl rfl ?_
      refine l_call rfl Try.call11 rfl (awake_ok _ _) ?_; rintro _ _ ⟨rfl, rfl⟩
      refine l_pick_t rfl rfl rfl ?_
      refine l_assign rfl rfl ?_
      refine l_nil ?_
      refine g_ret Try.func8 rfl (.tmp rfl .nil) ?_
      exact Gives.mki ⟨rfl, rfl⟩
    intro hbr
    have hg224 := hbr
    have hbr := of_decide_eq_false hbr
    refine gp_quietg 16 rfl rfl rfl rfl rfl rfl (.no rfl rfl) ?_
    refine gp_quietg 17 rfl rfl rfl rfl rfl rfl (.no rfl rfl) ?_
    refine gp_quiet 18 rfl rfl rfl rfl rfl rfl (q_pick_f rfl rfl) ?_
    refine gp_end rfl rfl ?_
    refine g_cond_f rfl ?_
    refine g_skip ?_
    refine g_seq ?_
    refine g_region ?_
    refine l_move rfl rfl ?_
    refine l_move rfl rfl ?_
    refine l_itof rfl Try.underlying3 Try.underlying53 rfl ?_
    refine l_fieldAddr rfl fa_27_1 rfl ?_
    first | refine l_ld rfl Try.isAgg3 rfl rfl ?_ | refine l_ldw rfl Try.isAgg3 rfl (by omega) ?_
    refine l_itof rfl Try.underlying3 Try.underlying53 rfl ?_
    rw [hgl] at hq
    refine l_fquo rfl rfl rfl hq ?_
    refine l_feqlt rfl rfl rfl (by rw [hr]; rfl) ?_
    refine l_move rfl rfl ?_
    refine l_guard_yes rfl rfl ?_
    refine l_call rfl Try.call11 rfl (awake_ok _ _) ?_; rintro _ _ ⟨rfl, rfl⟩
    refine l_pick_t rfl rfl rfl ?_
    refine l_assign rfl rfl ?_
    refine l_nil ?_
    refine g_ret Try.func8 rfl (.tmp rfl .nil) ?_
    exact Gives.mki ⟨rfl, rfl⟩
  intro hbr
  have hg211 := hbr
  have hbr := of_decide_eq_false hbr
  refine gp_quietg 3 rfl rfl rfl rfl rfl rfl (.no rfl rfl) ?_
  refine gp_quietg 4 rfl rfl rfl rfl rfl rfl (.no rfl rfl) ?_
  refine gp_quietg 5 rfl rfl rfl rfl rfl rfl (.no rfl rfl) ?_
  refine gp_quietg 6 rfl rfl rfl rfl rfl rfl (.no rfl rfl) ?_
  refine gp_quietg 7 rfl rfl rfl rfl rfl rfl (.no rfl rfl) ?_
  refine gp_quietg 8 rfl rfl rfl rfl rfl rfl (.no rfl rfl) ?_
  refine gp_quietg 9 rfl rfl rfl rfl rfl rfl (.no rfl rfl) ?_
  refine gp_quietg 10 rfl rfl rfl rfl rfl rfl (.no rfl rfl) ?_
  refine gp_quietg 11 rfl rfl rfl rfl rfl rfl (.no rfl rfl) ?_
  refine gp_quietg 12 rfl rfl rfl rfl rfl rfl (.no rfl rfl) ?_
  refine gp_quietg 13 rfl rfl rfl rfl rfl rfl (.no rfl rfl) ?_
  refine gp_quiet 14 rfl rfl rfl rfl rfl rfl (q_pick_f rfl rfl) ?_
  refine gp_quiet 15 rfl rfl rfl rfl rfl rfl (q_move rfl) ?_
  refine gp_quietg 16 rfl rfl rfl rfl rfl rfl (.no rfl rfl) ?_
  refine gp_quietg 17 rfl rfl rfl rfl rfl rfl (.no rfl rfl) ?_
  refine gp_quiet 18 rfl rfl rfl rfl rfl rfl (q_pick_f rfl rfl) ?_
  refine gp_end rfl rfl ?_
  refine g_cond_f rfl ?_
  refine g_skip ?_
  refine g_seq ?_
  refine g_region ?_
  refine l_move rfl rfl ?_
  refine l_move rfl rfl ?_
  refine l_itof rfl Try.underlying3 Try.underlying53 rfl ?_
  refine l_fieldAddr rfl fa_27_1 rfl ?_
  first | refine l_ld rfl Try.isAgg3 rfl rfl ?_ | refine l_ldw rfl Try.isAgg3 rfl (by omega) ?_
  refine l_itof rfl Try.underlying3 Try.underlying53 rfl ?_
  rw [hgl] at hq
  refine l_fquo rfl rfl rfl hq ?_
  refine l_feqlt rfl rfl rfl (by rw [hr]; rfl) ?_
  refine l_move rfl rfl ?_
  refine l_guard_yes rfl rfl ?_
  refine l_call rfl Try.call11 rfl (awake_ok _ _) ?_; rintro _ _ ⟨rfl, rfl⟩
  refine l_pick_t rfl rfl rfl ?_
  refine l_assign rfl rfl ?_
  refine l_nil ?_
  refine g_ret Try.func8 rfl (.tmp rfl .nil) ?_
  exact Gives.mki ⟨rfl, rfl⟩
theorem apart_big (w0 : World) (F : List Atom) (fr mj kr rm : Int) (ca pa ha : Option Addr) (cn cc pn pc hn hc : Nat) (Ks : List CoreR) (hCR : CR w0 F ca cn Ks) (hcn : cn ≤ 9223372036854775807) (hpn : pn ≤ 9223372036854775807) (hmj : I64 mj) (p : Int) (p0 : -9223372036854775808 ≤ p) (p1 : p ≤ 9223372036854775807) (rows : List (List Value)) (hPR : PR w0 F pa pn rows) (hfit : Fit cn pn hn Ks rows) (hb : 2147483647 < cn) :
    CallK Try.prog 8 [.agg [Value.int .i64 fr, .int .i64 mj, .int .i64 kr, .int .i64 rm, .slice ca cn cc, .slice pa pn pc, .slice ha hn hc].toArray, .int .i64 p] w0 (F) (Gives w0 fun v F2 => v = .bool true ∧ F2 = F) := by
  have hCl := hCR.1
  refine c_enter Try.func8 rfl rfl rfl ?_
  refine g_seq ?_
  refine g_region ?_
  refine l_boxs rfl rfl ?_; intro b2
  refine l_assign rfl rfl ?_
  refine l_nil ?_
  refine g_seq ?_
  refine g_seq ?_
  refine g_region ?_
  refine l_lds rfl Try.isAgg27 Try.sizeOf27 rfl rfl ?_
  refine l_call rfl Try.call12 rfl (vast_fit _ _ fr mj kr rm ca pa ha cn cc pn pc hn hc Ks hCR.ex hcn hpn hmj rows hPR.ex hfit) ?_; rintro _ _ ⟨x9, rfl, rfl, hx9⟩
  obtain rfl : x9 = true := by
    cases x9 with
    | true => rfl
    | false => exact absurd (hx9 rfl) (by omega)
  refine l_nil ?_
  refine g_cond_t rfl ?_
  refine g_seq ?_
  refine g_region ?_
  refine l_assign rfl rfl ?_
  refine l_nil ?_
  refine g_ret Try.func8 rfl (.tmp rfl .nil) ?_
  exact Gives.mki ⟨rfl, rfl⟩
theorem apart_all (W : World) (l : List Value) (hv : Viz Try.prog W 27 l) (p : Int) (q : -9223372036854775808 ≤ p ∧ p ≤ 9223372036854775807) : CallK Try.prog 8 [.agg l.toArray, .int .i64 p] W [Old W] (Gives W fun v F2 => v = .bool true ∧ F2 = [Old W]) := by
  obtain ⟨fr, mj, kr, rm, ca, cn, cc, pa, pn, pc, ha, hn, hc, Ks, rows, rfl, hmj, hCR, hPR, hfit⟩ := viz_cfg hv
  have h1 := hfit.1
  have h2 := hfit.2.1
  by_cases hb : cn ≤ 2147483647
  · obtain ⟨r, hq, hr⟩ := share_r (mj := mj) (p := p) hCR hb
    exact apart_law W [Old W] fr mj kr rm ca pa ha cn cc pn pc hn hc Ks hCR (by omega) (by omega) hmj p q.1 q.2 rows hPR hfit r hr hq
  · exact apart_big W [Old W] fr mj kr rm ca pa ha cn cc pn pc hn hc Ks hCR (by omega) (by omega) hmj p q.1 q.2 rows hPR hfit (by omega)
end Go.Proofs.Ytfccfjgnoeocnaa.Fw
