import Derived.Test.YtfccfjgnoeocnaaKA
import Derived.Test.YtfccfjgnoeocnaaLShares
import Derived.Test.YtfccfjgnoeocnaaCore
import Derived.Test.YtfccfjgnoeocnaaRStarts
import Derived.Test.YtfccfjgnoeocnaaSame
import Derived.Test.YtfccfjgnoeocnaaRAt
import Derived.Test.YtfccfjgnoeocnaaRRounds2
import Derived.Test.YtfccfjgnoeocnaaViz
import Derived.Test.YtfccfjgnoeocnaaAwake
namespace Go.Proofs.Ytfccfjgnoeocnaa.Fw
open Go Go.Proofs
set_option linter.unusedVariables false
set_option linter.unusedSimpArgs false
set_option maxRecDepth 10000
theorem sqn_30 (x0 : Int) (x1 : Int) (x2 : Int) (x3 : Int) (y0 : Int) (y1 : Int) (y2 : Int) (y3 : Int) (w : World) : (binOp .neq 30 (.agg #[.int .i64 x0, .int .i64 x1, .int .i64 x2, .int .i64 x3]) (.agg #[.int .i64 y0, .int .i64 y1, .int .i64 y2, .int .i64 y3])).run Try.prog w = .ok (.bool (!(decide (x0 = y0) && decide (x1 = y1) && decide (x2 = y2) && decide (x3 = y3)))) w := by
  rw [run_neq_struct, sq_30]; rfl
def mkKs (n : Nat) (K : Nat → LX Win) : List CoreR := (List.range n).map fun i => ⟨(K i).a, (K i).n, (K i).c, (K i).L⟩
theorem kat_mk {n i : Nat} {K : Nat → LX Win} (h : i < n) : kat (mkKs n K) i = ⟨(K i).a, (K i).n, (K i).c, (K i).L⟩ := by simp [kat, mkKs, h]
def I64W (L : List Win) : Prop := ∀ x ∈ L, I64 x.1 ∧ I64 x.2.1 ∧ I64 x.2.2
theorem CR_of {w0 : World} {F : List Atom} {ca : Option Addr} {cn : Nat} {K : Nat → LX Win} (h : LLR winRow w0 F ca cn K) (hI : ∀ i, i < cn → I64W (K i).L) (hn : ∀ i, i < cn → (K i).n ≤ 2147483647) : CR w0 F ca cn (mkKs cn K) := by
  refine ⟨by simp [mkKs], fun i hi => ?_, ?_⟩
  · rw [kat_mk hi]
    have hL := (h.1 i hi).1
    refine ⟨⟨hL, fun j hj => ?_, (h.1 i hi).2⟩, by have := hn i hi; simp only; omega⟩
    have hm : wat (K i).L j ∈ (K i).L := by
      have hlt : j < (K i).L.length := by rw [hL]; exact hj
      simp [wat, hlt]
    exact hI i hi _ hm
  · rcases h.2 with h0 | ⟨b, o, h1, h2⟩
    · exact .inl h0
    · refine .inr ⟨b, o, h1, fun w hw j u hj => ?_⟩
      have hlt : j < cn := by
        have := (List.getElem?_eq_some_iff.1 hj).1
        simpa [mkKs] using this
      have : u = lxV (K j) := by
        simp only [mkKs, List.map_map, List.getElem?_map, List.getElem?_range hlt, Option.map_some, Function.comp] at hj
        exact (Option.some.inj hj).symm
      rw [this]
      have := h2 j hlt w hw
      rwa [Nat.mul_one] at this
def KE (Ks Ks2 : List CoreR) (n : Nat) : Prop := ∀ i, i < n → (kat Ks i).n = (kat Ks2 i).n ∧ (kat Ks i).L = (kat Ks2 i).L
theorem ke_of {n : Nat} {K K2 : Nat → LX Win} (h : SK n K K2) : KE (mkKs n K) (mkKs n K2) n := fun i hi => by
  rw [kat_mk hi, kat_mk hi]; exact h i hi
section
variable {Ks Ks2 : List CoreR} {cn : Nat}
theorem KE.le {k : Nat} (h : KE Ks Ks2 cn) (hk : k ≤ cn) : KE Ks Ks2 k := fun i hi => h i (by omega)
theorem spC_ke {p : Int} : ∀ {k : Nat}, KE Ks Ks2 k → spC p Ks2 k = spC p Ks k
  | 0, _ => rfl
  | k + 1, h => by
    simp only [spC]
    rw [spC_ke (h.le (by omega)), (h k (by omega)).1, (h k (by omega)).2]
theorem allMay_ke {k : Nat} (h : KE Ks Ks2 k) : AllMay Ks2 k ↔ AllMay Ks k := by
  unfold AllMay
  constructor
  · intro h1 j hj; rw [(h j hj).2]; exact h1 j hj
  · intro h1 j hj; rw [← (h j hj).2]; exact h1 j hj
theorem full_ke {mj : Int} (h : KE Ks Ks2 cn) : Full Ks2 cn mj ↔ Full Ks cn mj := by
  unfold Full
  rw [allMay_ke h]
  have : Fills Ks2 cn mj ↔ Fills Ks cn mj := by
    unfold Fills
    constructor
    · intro h1 j hj; rw [(h j hj).1, (h j hj).2]; exact h1 j hj
    · intro h1 j hj; rw [← (h j hj).1, ← (h j hj).2]; exact h1 j hj
  rw [this]
theorem usL_ke {p : Int} (h : KE Ks Ks2 cn) : ∀ j, j ≤ (spC p Ks cn).length → usL Ks2 (spC p Ks cn) j = usL Ks (spC p Ks cn) j
  | 0, _ => rfl
  | j + 1, hj => by
    obtain ⟨k, h1, i, h2, h3, h4⟩ := spC_mem (x := sat (spC p Ks cn) j) cn (sat_mem (by omega))
    have e : (sat (spC p Ks cn) j).1.toNat = k := by rw [h3]; simp
    simp only [usL]
    rw [usL_ke h j (by omega), e, (h k h1).2]
theorem stA_ke {core : Int} (h : KE Ks Ks2 cn) : stA Ks2 cn core = stA Ks cn core := by
  by_cases ho : 0 ≤ core ∧ core < cn
  · have hs := h core.toNat (by omega)
    obtain ⟨⟨a, n, c, L⟩, hk⟩ : ∃ K, kat Ks core.toNat = K := ⟨_, rfl⟩
    obtain ⟨⟨a2, n2, c2, L2⟩, hk2⟩ : ∃ K, kat Ks2 core.toNat = K := ⟨_, rfl⟩
    rw [hk, hk2] at hs
    obtain ⟨rfl, rfl⟩ : n = n2 ∧ L = L2 := hs
    by_cases hm : May L
    · rw [stA_ok ho hk hm, stA_ok ho hk2 hm]
    · rw [stA_bad ho hk hm, stA_bad ho hk2 hm]
  · rw [stA_out (by omega), stA_out (by omega)]
theorem spA_ke {pn : Nat} {p : Int} (h : KE Ks Ks2 cn) : spA Ks2 cn pn p = spA Ks cn pn p := by
  unfold spA
  by_cases ho : 0 ≤ p ∧ p < pn
  · rw [if_pos ho, if_pos ho]
    by_cases hm : AllMay Ks cn
    · rw [if_pos hm, if_pos ((allMay_ke h).2 hm), spC_ke h]
    · rw [if_neg hm, if_neg fun h2 => hm ((allMay_ke h).1 h2)]
  · rw [if_neg ho, if_neg ho]
theorem share_ke {pn : Nat} {mj p : Int} {r x : Nat} {e : Int} (h : KE Ks Ks2 cn) (hs : ShareSays Ks2 cn pn mj p r x e) : ShareSays Ks cn pn mj p r x e := by
  unfold ShareSays at hs ⊢
  rwa [full_ke h] at hs
theorem gap_ke {pn : Nat} {mj p x e : Int} (h : KE Ks Ks2 cn) (hs : GapSays Ks2 cn pn mj p x e) : GapSays Ks cn pn mj p x e := by
  unfold GapSays at hs ⊢
  rwa [full_ke h, spC_ke h] at hs
theorem has_ke {p : Int} {k : Nat} (h : KE Ks Ks2 cn) (hk : k < cn) : HasP p (kat Ks2 k).L (kat Ks2 k).n ↔ HasP p (kat Ks k).L (kat Ks k).n := by
  rw [(h k hk).1, (h k hk).2]
theorem core_ke {pn : Nat} {p x e : Int} (h : KE Ks Ks2 cn) (hs : CoreSays Ks2 cn pn p x e) : CoreSays Ks cn pn p x e := by
  unfold CoreSays at hs ⊢
  refine ⟨hs.1, fun hp => ⟨(hs.2 hp).1, ?_⟩⟩
  rcases (hs.2 hp).2 with ⟨k, a1, a2, a3, a4⟩ | ⟨a1, a2⟩
  · exact .inl ⟨k, a1, (has_ke h a1).1 a2, fun j hj h2 => a3 j hj ((has_ke h (by omega)).2 h2), a4⟩
  · exact .inr ⟨fun j hj h2 => a1 j hj ((has_ke h hj).2 h2), a2⟩
theorem mx_ke (h : KE Ks Ks2 cn) : ∀ k, k ≤ cn → mx cn Ks2 k = mx cn Ks k
  | 0, _ => rfl
  | k + 1, hk => by
    simp only [mx]
    rw [mx_ke h k (by omega), (h k (by omega)).1, (h k (by omega)).2]
theorem rounds_ke {x y : Int} (h : KE Ks Ks2 cn) (x1 : (1 ≤ cn ∧ cn ≤ 4 ∧ AllMay Ks cn) → x = 4 + mx cn Ks cn) (x2 : ¬ (1 ≤ cn ∧ cn ≤ 4 ∧ AllMay Ks cn) → x = 0) (y1 : (1 ≤ cn ∧ cn ≤ 4 ∧ AllMay Ks2 cn) → y = 4 + mx cn Ks2 cn) (y2 : ¬ (1 ≤ cn ∧ cn ≤ 4 ∧ AllMay Ks2 cn) → y = 0) : x = y := by
  rw [allMay_ke h, mx_ke h cn (Nat.le_refl _)] at y1
  rw [allMay_ke h] at y2
  exact (Classical.em (1 ≤ cn ∧ cn ≤ 4 ∧ AllMay Ks cn)).elim (fun h => (x1 h).trans (y1 h).symm) (fun h => (x2 h).trans (y2 h).symm)
end
/-- The place of a time: the same for both. -/
theorem at_same (w0 : World) (fr mj kr rr : Int) (ca pa ha ca2 pa2 ha2 : Option Addr) (cn cc pn pc hn hc cc2 pc2 hc2 : Nat) (Ks Ks2 : List CoreR) (kE : KE Ks Ks2 cn) (hcn : cn ≤ 9223372036854775807) (hpn : pn ≤ 9223372036854775807) (hmj : I64 mj) (core : Int) (q0 : -9223372036854775808 ≤ core) (q1 : core ≤ 9223372036854775807) (time : Int) (t0 : -9223372036854775808 ≤ time) (t1 : time ≤ 9223372036854775807) : ∃ z0 z1 z2 z3 e : Int,
    (∀ F, CR w0 F ca cn Ks → CallK Try.prog 13 [.agg [Value.int .i64 fr, .int .i64 mj, .int .i64 kr, .int .i64 rr, .slice ca cn cc, .slice pa pn pc, .slice ha hn hc].toArray, .int .i64 core, .int .i64 time] w0 F (Gives w0 fun v F2 => v = .tuple #[.agg #[.int .i64 z0, .int .i64 z1, .int .i64 z2, .int .i64 z3], .int .i64 e] ∧ F2 = F)) ∧
    (∀ F, CR w0 F ca2 cn Ks2 → CallK Try.prog 14 [.agg [Value.int .i64 fr, .int .i64 mj, .int .i64 kr, .int .i64 rr, .slice ca2 cn cc2, .slice pa2 pn pc2, .slice ha2 hn hc2].toArray, .int .i64 core, .int .i64 time] w0 F (Gives w0 fun v F2 => v = .tuple #[.agg #[.int .i64 z0, .int .i64 z1, .int .i64 z2, .int .i64 z3], .int .i64 e] ∧ F2 = F)) := by
  by_cases ho : 0 ≤ core ∧ core < cn
  · obtain ⟨⟨a, n, c, L⟩, hk⟩ : ∃ K, kat Ks core.toNat = K := ⟨_, rfl⟩
    obtain ⟨⟨a2, n2, d2, L2⟩, hk2⟩ : ∃ K, kat Ks2 core.toNat = K := ⟨_, rfl⟩
    have hs := kE core.toNat (by omega)
    rw [hk, hk2] at hs
    obtain ⟨rfl, rfl⟩ : n = n2 ∧ L = L2 := hs
    by_cases hm : May L
    · by_cases hj : ∃ j, j < n ∧ bg L j ≤ time ∧ time < bg L (j + 1)
      · obtain ⟨j, h1, h2, h3⟩ := hj
        exact ⟨_, _, _, _, _, fun F hC => at_found w0 F fr mj kr rr ca pa ha cn cc pn pc hn hc Ks hC hcn hpn hmj core q0 q1 time t0 t1 ho a n c L hk hm j h1 h2 h3, fun F hC => rat_found w0 F fr mj kr rr ca2 pa2 ha2 cn cc2 pn pc2 hn hc2 Ks2 hC hcn hpn hmj core q0 q1 time t0 t1 ho a2 n d2 L hk2 hm j h1 h2 h3⟩
      · have hno : ∀ j, j < n → ¬ (bg L j ≤ time ∧ time < bg L (j + 1)) := fun j h1 h2 => hj ⟨j, h1, h2⟩
        exact ⟨_, _, _, _, _, fun F hC => at_none w0 F fr mj kr rr ca pa ha cn cc pn pc hn hc Ks hC hcn hpn hmj core q0 q1 time t0 t1 ho a n c L hk hm hno, fun F hC => rat_none w0 F fr mj kr rr ca2 pa2 ha2 cn cc2 pn pc2 hn hc2 Ks2 hC hcn hpn hmj core q0 q1 time t0 t1 ho a2 n d2 L hk2 hm hno⟩
    · exact ⟨_, _, _, _, _, fun F hC => at_bad w0 F fr mj kr rr ca pa ha cn cc pn pc hn hc Ks hC hcn hpn hmj core q0 q1 time t0 t1 ho a n c L hk hm, fun F hC => rat_bad w0 F fr mj kr rr ca2 pa2 ha2 cn cc2 pn pc2 hn hc2 Ks2 hC hcn hpn hmj core q0 q1 time t0 t1 ho a2 n d2 L hk2 hm⟩
  · exact ⟨_, _, _, _, _, fun F hC => at_out w0 F fr mj kr rr ca pa ha cn cc pn pc hn hc Ks hC hcn hpn hmj core q0 q1 time t0 t1 (by omega), fun F hC => rat_out w0 F fr mj kr rr ca2 pa2 ha2 cn cc2 pn pc2 hn hc2 Ks2 hC hcn hpn hmj core q0 q1 time t0 t1 (by omega)⟩

set_option maxHeartbeats 4000000 in
theorem asked_ok (w0 : World) (F : List Atom) (fr mj kr rr : Int) (ca pa ha ca2 pa2 ha2 : Option Addr) (cn cc pn pc hn hc cc2 pc2 hc2 : Nat) (Ks Ks2 : List CoreR) (hCR : CR w0 F ca cn Ks) (hCR2 : CR w0 F ca2 cn Ks2) (kE : KE Ks Ks2 cn) (hcn : cn ≤ 2147483647) (hpn : pn ≤ 9223372036854775807) (hmj : I64 mj) (core : Int) (q0 : -9223372036854775808 ≤ core) (q1 : core ≤ 9223372036854775807) (p : Int) (p0 : -9223372036854775808 ≤ p) (p1 : p ≤ 9223372036854775807) :
    CallK Try.prog 32 [.agg [Value.int .i64 fr, .int .i64 mj, .int .i64 kr, .int .i64 rr, .slice ca cn cc, .slice pa pn pc, .slice ha hn hc].toArray, .agg [Value.int .i64 fr, .int .i64 mj, .int .i64 kr, .int .i64 rr, .slice ca2 cn cc2, .slice pa2 pn pc2, .slice ha2 hn hc2].toArray, .int .i64 core, .int .i64 p] w0 (F) (Gives w0 fun v F2 => v = .bool true ∧ F2 = F) := by
  obtain ⟨z0, z1, z2, z3, ze, hAt, hRat⟩ := at_same w0 fr mj kr rr ca pa ha ca2 pa2 ha2 cn cc pn pc hn hc cc2 pc2 hc2 Ks Ks2 kE (by omega) hpn hmj core q0 q1 100 (by decide) (by decide)
  obtain ⟨r, hq, hr⟩ := share_r (mj := mj) (p := p) hCR hcn
  have hq2 : Full Ks2 cn mj → floatBits .quo .f64 (floatOfInt .f64 (usL Ks2 (spC p Ks2 cn) (spC p Ks2 cn).length)) (floatOfInt .f64 mj) = some r := by
    rw [full_ke kE, spC_ke kE, usL_ke kE _ (Nat.le_refl _)]
    exact hq
  have hsl := stA_len (core := core) hCR
  have hpl := spA_len (pn := pn) (p := p) hCR
  refine c_enter Try.func32 rfl rfl rfl ?_
  refine g_seq ?_
  refine g_region ?_
  refine l_boxs rfl rfl ?_; intro b4
  refine l_boxs rfl rfl ?_; intro b5
  refine l_assign rfl rfl ?_
  refine l_nil ?_
  refine g_seq ?_
  refine g_region ?_
  refine l_lds rfl Try.isAgg27 Try.sizeOf27 rfl rfl ?_
  refine l_move rfl rfl ?_
  refine l_call rfl Try.call13 rfl (hAt _ hCR.ex) ?_; rintro _ _ ⟨rfl, rfl⟩
  refine l_move rfl rfl ?_
  refine l_extract rfl rfl rfl ?_
  refine l_extract rfl rfl rfl ?_
  refine l_allocs rfl Try.zeroValue30 ?_; intro b9
  refine l_sts Try.sizeOf30 rfl rfl rfl rfl rfl ?_
  refine l_assign rfl rfl ?_
  refine l_nil ?_
  refine g_seq ?_
  refine g_region ?_
  refine l_lds rfl Try.isAgg27 Try.sizeOf27 rfl rfl ?_
  refine l_move rfl rfl ?_
  refine l_call rfl Try.call14 rfl (hRat _ hCR2.ex) ?_; rintro _ _ ⟨rfl, rfl⟩
  refine l_move rfl rfl ?_
  refine l_extract rfl rfl rfl ?_
  refine l_extract rfl rfl rfl ?_
  refine l_allocs rfl Try.zeroValue30 ?_; intro b11
  refine l_sts Try.sizeOf30 rfl rfl rfl rfl rfl ?_
  refine l_assign rfl rfl ?_
  refine l_nil ?_
  refine g_seq ?_
  refine g_seq ?_
  refine g_region ?_
  refine l_lds rfl Try.isAgg30 Try.sizeOf30 rfl rfl ?_
  refine l_lds rfl Try.isAgg30 Try.sizeOf30 rfl rfl ?_
  refine l_bin rfl rfl rfl (fun w => run_eqGuard_agg w _ _ _ _ _ _ Try.eqGuardType30) (fun w => sqn_30 _ _ _ _ _ _ _ _ w) ?_
  refine l_move rfl rfl ?_
  refine l_split 36 rfl ?_ ?_
  · intro hbr
    first | (exfalso; simp at hbr; done) | (exfalso; simp at hbr; omega) | (exfalso; first | omega | (simp at hbr; done))
  intro hbr
  have hb36 := hbr
  refine l_guard_yes rfl rfl ?_
  refine l_move rfl rfl ?_
  refine l_guard_yes rfl rfl ?_
  refine l_move rfl rfl ?_
  refine l_guard_yes rfl rfl ?_
  refine l_neq rfl rfl rfl ?_
  refine l_pick_f rfl rfl rfl ?_
  refine l_nil ?_
  refine g_cond rfl ?_ ?_
  · intro hbr
    have hbr := of_decide_eq_true hbr
    (exfalso; first | omega | (simp at hbr; done))
  intro hbr
  have hbr := of_decide_eq_false hbr
  refine g_skip ?_
  refine g_seq ?_
  refine g_region ?_
  refine l_lds rfl Try.isAgg27 Try.sizeOf27 rfl rfl ?_
  refine l_move rfl rfl ?_
  refine l_call rfl Try.call15 rfl (starts_fn _ _ fr mj kr rr ca pa ha cn cc pn pc hn hc Ks hCR.ex (by omega) hpn hmj core q0 q1) ?_
  rintro _ _ ⟨u1, rfl, rfl⟩
  refine l_fact (own_slice (mem_getO 0 rfl)) ?_
  rintro ⟨a11, c11, rfl, ha11⟩
  refine l_move rfl rfl ?_
  refine l_extract rfl rfl rfl ?_
  refine l_extract rfl rfl rfl ?_
  refine l_assign rfl rfl ?_
  refine l_assign rfl rfl ?_
  refine l_nil ?_
  refine g_seq ?_
  refine g_region ?_
  refine l_lds rfl Try.isAgg27 Try.sizeOf27 rfl rfl ?_
  refine l_move rfl rfl ?_
  refine l_call rfl Try.call18 rfl (rstarts_fn _ _ fr mj kr rr ca2 pa2 ha2 cn cc2 pn pc2 hn hc2 Ks2 hCR2.ex (by omega) hpn hmj core q0 q1) ?_
  rw [stA_ke kE]
  rintro _ _ ⟨u2, rfl, rfl⟩
  refine l_fact (own_slice (mem_getO 0 rfl)) ?_
  rintro ⟨a12, c12, rfl, ha12⟩
  refine l_move rfl rfl ?_
  refine l_extract rfl rfl rfl ?_
  refine l_extract rfl rfl rfl ?_
  refine l_assign rfl rfl ?_
  refine l_assign rfl rfl ?_
  refine l_nil ?_
  refine g_seq ?_
  refine g_seq ?_
  refine g_region ?_
  refine l_move rfl rfl ?_
  refine l_move rfl rfl ?_
  refine l_call rfl Try.call19 rfl (same_ints _ _ a11 a12 _ c11 c12 _ (IR.own rfl (mem_getO 1 rfl) ha11) (IR.own rfl (mem_getO 0 rfl) ha12) (by omega)) ?_; rintro _ _ ⟨rfl, rfl⟩
  refine l_not rfl rfl ?_
  refine l_move rfl rfl ?_
  refine l_guard_yes rfl rfl ?_
  refine l_move rfl rfl ?_
  refine l_guard_yes rfl rfl ?_
  refine l_move rfl rfl ?_
  refine l_guard_yes rfl rfl ?_
  refine l_neq rfl rfl rfl ?_
  refine l_pick_f rfl rfl rfl ?_
  refine l_nil ?_
  refine g_cond rfl ?_ ?_
  · intro hbr
    have hbr := of_decide_eq_true hbr
    (exfalso; first | omega | (simp at hbr; done))
  intro hbr
  have hbr := of_decide_eq_false hbr
  refine g_skip ?_
  refine g_seq ?_
  refine g_region ?_
  refine l_lds rfl Try.isAgg27 Try.sizeOf27 rfl rfl ?_
  refine l_move rfl rfl ?_
  refine l_call rfl Try.call22 rfl (spans_fn _ _ fr mj kr rr ca pa ha cn cc pn pc hn hc Ks hCR.ex (by omega) hpn hmj p p0 p1 hcn) ?_
  rintro _ _ ⟨u3, rfl, rfl⟩
  refine l_fact (own_slice (mem_getO 0 rfl)) ?_
  rintro ⟨a13, c13, rfl, ha13⟩
  refine l_move rfl rfl ?_
  refine l_extract rfl rfl rfl ?_
  refine l_extract rfl rfl rfl ?_
  refine l_assign rfl rfl ?_
  refine l_assign rfl rfl ?_
  refine l_nil ?_
  refine g_seq ?_
  refine g_region ?_
  refine l_lds rfl Try.isAgg27 Try.sizeOf27 rfl rfl ?_
  refine l_move rfl rfl ?_
  refine l_call rfl Try.call21 rfl (rspans_fn _ _ fr mj kr rr ca2 pa2 ha2 cn cc2 pn pc2 hn hc2 Ks2 hCR2.ex (by omega) hpn hmj p p0 p1 hcn) ?_
  rw [spA_ke kE]
  rintro _ _ ⟨u4, rfl, rfl⟩
  refine l_fact (own_slice (mem_getO 0 rfl)) ?_
  rintro ⟨a14, c14, rfl, ha14⟩
  refine l_move rfl rfl ?_
  refine l_extract rfl rfl rfl ?_
  refine l_extract rfl rfl rfl ?_
  refine l_assign rfl rfl ?_
  refine l_assign rfl rfl ?_
  refine l_nil ?_
  refine g_seq ?_
  refine g_seq ?_
  refine g_region ?_
  refine l_move rfl rfl ?_
  refine l_move rfl rfl ?_
  refine l_call rfl Try.call23 rfl (same_spans _ _ a13 a14 _ c13 c14 _ (SR.own rfl (mem_getO 1 rfl) ha13) (SR.own rfl (mem_getO 0 rfl) ha14) (by omega)) ?_; rintro _ _ ⟨rfl, rfl⟩
  refine l_not rfl rfl ?_
  refine l_move rfl rfl ?_
  refine l_guard_yes rfl rfl ?_
  refine l_move rfl rfl ?_
  refine l_guard_yes rfl rfl ?_
  refine l_move rfl rfl ?_
  refine l_guard_yes rfl rfl ?_
  refine l_neq rfl rfl rfl ?_
  refine l_pick_f rfl rfl rfl ?_
  refine l_nil ?_
  refine g_cond rfl ?_ ?_
  · intro hbr
    have hbr := of_decide_eq_true hbr
    (exfalso; first | omega | (simp at hbr; done))
  intro hbr
  have hbr := of_decide_eq_false hbr
  refine g_skip ?_
  refine g_seq ?_
  refine g_region ?_
  refine l_lds rfl Try.isAgg27 Try.sizeOf27 rfl rfl ?_
  refine l_move rfl rfl ?_
  refine l_call rfl Try.call27 rfl (share_any _ _ fr mj kr rr ca pa ha cn cc pn pc hn hc Ks hCR.ex (by omega) hpn hmj p p0 p1 hcn r hq) ?_; rintro _ _ ⟨x1, e1, rfl, rfl, hs1, hs2⟩
  refine l_move rfl rfl ?_
  refine l_extract rfl rfl rfl ?_
  refine l_extract rfl rfl rfl ?_
  refine l_assign rfl rfl ?_
  refine l_assign rfl rfl ?_
  refine l_nil ?_
  refine g_seq ?_
  refine g_region ?_
  refine l_lds rfl Try.isAgg27 Try.sizeOf27 rfl rfl ?_
  refine l_move rfl rfl ?_
  refine l_call rfl Try.call28 rfl (rshare_any _ _ fr mj kr rr ca2 pa2 ha2 cn cc2 pn pc2 hn hc2 Ks2 hCR2.ex (by omega) hpn hmj p p0 p1 hcn r hq2) ?_; rintro _ _ ⟨x2, e2, rfl, rfl, hs3⟩
  replace hs3 := share_ke kE hs3
  have hord := share_ord hr hs3
  obtain ⟨rfl, rfl⟩ := share_one ⟨hs1, hs2⟩ hs3
  refine l_move rfl rfl ?_
  refine l_extract rfl rfl rfl ?_
  refine l_extract rfl rfl rfl ?_
  refine l_assign rfl rfl ?_
  refine l_assign rfl rfl ?_
  refine l_nil ?_
  refine g_seq ?_
  refine g_seq ?_
  refine g_region ?_
  refine l_move rfl rfl ?_
  refine l_move rfl rfl ?_
  refine l_fneqf rfl rfl rfl hord ?_
  refine l_move rfl rfl ?_
  refine l_guard_yes rfl rfl ?_
  refine l_move rfl rfl ?_
  refine l_guard_yes rfl rfl ?_
  refine l_move rfl rfl ?_
  refine l_guard_yes rfl rfl ?_
  refine l_neq rfl rfl rfl ?_
  refine l_pick_f rfl rfl rfl ?_
  refine l_nil ?_
  refine g_cond rfl ?_ ?_
  · intro hbr
    have hbr := of_decide_eq_true hbr
    (exfalso; first | omega | (simp at hbr; done))
  intro hbr
  have hbr := of_decide_eq_false hbr
  refine g_skip ?_
  refine g_seq ?_
  refine g_region ?_
  refine l_lds rfl Try.isAgg27 Try.sizeOf27 rfl rfl ?_
  refine l_move rfl rfl ?_
  refine l_call rfl Try.call29 rfl (gap_any _ _ fr mj kr rr ca pa ha cn cc pn pc hn hc Ks hCR.ex (by omega) hpn hmj p p0 p1 hcn) ?_; rintro _ _ ⟨y1, f1, rfl, rfl, hg1⟩
  refine l_move rfl rfl ?_
  refine l_extract rfl rfl rfl ?_
  refine l_extract rfl rfl rfl ?_
  refine l_assign rfl rfl ?_
  refine l_assign rfl rfl ?_
  refine l_nil ?_
  refine g_seq ?_
  refine g_region ?_
  refine l_lds rfl Try.isAgg27 Try.sizeOf27 rfl rfl ?_
  refine l_move rfl rfl ?_
  refine l_call rfl Try.call30 rfl (rgap_any _ _ fr mj kr rr ca2 pa2 ha2 cn cc2 pn pc2 hn hc2 Ks2 hCR2.ex (by omega) hpn hmj p p0 p1 hcn) ?_; rintro _ _ ⟨y2, f2, rfl, rfl, hg2⟩
  obtain ⟨rfl, rfl⟩ := gap_one hg1 (gap_ke kE hg2)
  refine l_move rfl rfl ?_
  refine l_extract rfl rfl rfl ?_
  refine l_extract rfl rfl rfl ?_
  refine l_assign rfl rfl ?_
  refine l_assign rfl rfl ?_
  refine l_nil ?_
  refine g_seq ?_
  refine g_seq ?_
  refine g_region ?_
  refine l_move rfl rfl ?_
  refine l_move rfl rfl ?_
  refine l_neq rfl rfl rfl ?_
  refine l_move rfl rfl ?_
  refine l_split 118 rfl ?_ ?_
  · intro hbr
    have hbr := of_decide_eq_true hbr
    (exfalso; first | omega | (simp at hbr; done))
  intro hbr
  have hbr := of_decide_eq_false hbr
  refine l_guard_yes rfl rfl ?_
  refine l_move rfl rfl ?_
  refine l_guard_yes rfl rfl ?_
  refine l_move rfl rfl ?_
  refine l_guard_yes rfl rfl ?_
  refine l_neq rfl rfl rfl ?_
  refine l_pick_f rfl rfl rfl ?_
  refine l_nil ?_
  refine g_cond rfl ?_ ?_
  · intro hbr
    have hbr := of_decide_eq_true hbr
    (exfalso; first | omega | (simp at hbr; done))
  intro hbr
  have hbr := of_decide_eq_false hbr
  refine g_skip ?_
  refine g_seq ?_
  refine g_region ?_
  refine l_lds rfl Try.isAgg27 Try.sizeOf27 rfl rfl ?_
  refine l_move rfl rfl ?_
  refine l_call rfl Try.call25 rfl (core_any _ _ fr mj kr rr ca pa ha cn cc pn pc hn hc Ks hCR.ex (by omega) hpn hmj p p0 p1 ) ?_; rintro _ _ ⟨x3, e3, rfl, rfl, ho1⟩
  refine l_move rfl rfl ?_
  refine l_extract rfl rfl rfl ?_
  refine l_extract rfl rfl rfl ?_
  refine l_assign rfl rfl ?_
  refine l_assign rfl rfl ?_
  refine l_nil ?_
  refine g_seq ?_
  refine g_region ?_
  refine l_lds rfl Try.isAgg27 Try.sizeOf27 rfl rfl ?_
  refine l_move rfl rfl ?_
  refine l_call rfl Try.call26 rfl (rcore_any _ _ fr mj kr rr ca2 pa2 ha2 cn cc2 pn pc2 hn hc2 Ks2 hCR2.ex (by omega) hpn hmj p p0 p1 ) ?_; rintro _ _ ⟨x4, e4, rfl, rfl, ho2⟩
  obtain ⟨rfl, rfl⟩ := core_one ho1 (core_ke kE ho2)
  refine l_move rfl rfl ?_
  refine l_extract rfl rfl rfl ?_
  refine l_extract rfl rfl rfl ?_
  refine l_assign rfl rfl ?_
  refine l_assign rfl rfl ?_
  refine l_nil ?_
  refine g_seq ?_
  refine gp_start mo (by kernel_rfl) (by kernel_rfl) ?_
  refine gp_quiet 0 rfl rfl rfl rfl rfl rfl (q_move rfl) ?_
  refine gp_quiet 1 rfl rfl rfl rfl rfl rfl (q_move rfl) ?_
  refine gp_quiet 2 rfl rfl rfl rfl rfl rfl (q_eql rfl rfl) ?_
  refine gp_quiet 3 rfl rfl rfl rfl rfl rfl (q_move rfl) ?_
  refine gp_split 138 rfl ?_ ?_
  · intro hbr
    have hg138 := hbr
    have hbr := of_decide_eq_true hbr
    refine gp_quietg 4 rfl rfl rfl rfl rfl rfl (.yes rfl rfl (q_move rfl)) ?_
    refine gp_quietg 5 rfl rfl rfl rfl rfl rfl (.yes rfl rfl (q_move rfl)) ?_
    refine gp_quietg 6 rfl rfl rfl rfl rfl rfl (.yes rfl rfl (q_eql rfl rfl)) ?_
    refine gp_quiet 7 rfl rfl rfl rfl rfl rfl (q_pick_t rfl rfl) ?_
    refine gp_quiet 8 rfl rfl rfl rfl rfl rfl (q_move rfl) ?_
    refine gp_split 143 rfl ?_ ?_
    · intro hbr
      have hg143 := hbr
      have hbr := of_decide_eq_true hbr
      refine gp_quietg 9 rfl rfl rfl rfl rfl rfl (.yes rfl rfl (q_lds Try.isAgg27 Try.sizeOf27 rfl rfl)) ?_
      refine gp_quietg 11 rfl rfl rfl rfl rfl rfl (.yes rfl rfl (q_lds Try.isAgg27 Try.sizeOf27 rfl rfl)) ?_
      refine gp_effg 10 rfl rfl rfl rfl rfl rfl (.yes rfl rfl rfl) (Does.guard (does_call Try.call16 rfl (rounds_any _ _ fr mj kr rr ca pa ha cn cc pn pc hn hc Ks hCR.ex (by omega) hpn hmj))) ?_
      rintro _ _ ⟨x5, rfl, rfl, r1, r2⟩
      refine ⟨?_, ?_⟩
      · refine .consG rfl rfl rfl rfl rfl (.yes rfl rfl (q_lds Try.isAgg27 Try.sizeOf27 rfl rfl)) ?_
        refine .consG rfl rfl rfl rfl rfl (.yes rfl rfl (q_lds Try.isAgg27 Try.sizeOf27 rfl rfl)) ?_
        refine .cons rfl rfl rfl rfl rfl (QV.as (q_move rfl) (congrArg Value.bool hg143)) ?_
        refine .cons rfl rfl rfl rfl rfl (q_pick_t rfl rfl) ?_
        refine .consG rfl rfl rfl rfl rfl (.yes rfl rfl (q_eql rfl rfl)) ?_
        refine .consG rfl rfl rfl rfl rfl (.yes rfl rfl (q_move rfl)) ?_
        refine .consG rfl rfl rfl rfl rfl (.yes rfl rfl (q_move rfl)) ?_
        refine .cons rfl rfl rfl rfl rfl (QV.as (q_move rfl) (congrArg Value.bool hg138)) ?_
        refine .cons rfl rfl rfl rfl rfl (q_eql rfl rfl) ?_
        refine .cons rfl rfl rfl rfl rfl (q_move rfl) ?_
        refine .cons rfl rfl rfl rfl rfl (q_move rfl) ?_
        exact .nil
      refine gp_effg 12 rfl rfl rfl rfl rfl rfl (.yes rfl rfl rfl) (Does.guard (does_call Try.call17 rfl (rrounds_any _ _ fr mj kr rr ca2 pa2 ha2 cn cc2 pn pc2 hn hc2 Ks2 hCR2.ex (by omega) hpn hmj))) ?_
      rintro _ _ ⟨x6, rfl, rfl, r3, r4⟩
      obtain rfl := rounds_ke kE r1 r2 r3 r4
      refine ⟨?_, ?_⟩
      · refine .consG rfl rfl rfl rfl rfl (.yes rfl rfl (q_lds Try.isAgg27 Try.sizeOf27 rfl rfl)) ?_
        refine .consG rfl rfl rfl rfl rfl (.yes rfl rfl (q_lds Try.isAgg27 Try.sizeOf27 rfl rfl)) ?_
        refine .cons rfl rfl rfl rfl rfl (QV.as (q_move rfl) (congrArg Value.bool hg143)) ?_
        refine .cons rfl rfl rfl rfl rfl (q_pick_t rfl rfl) ?_
        refine .consG rfl rfl rfl rfl rfl (.yes rfl rfl (q_eql rfl rfl)) ?_
        refine .consG rfl rfl rfl rfl rfl (.yes rfl rfl (q_move rfl)) ?_
        refine .consG rfl rfl rfl rfl rfl (.yes rfl rfl (q_move rfl)) ?_
        refine .cons rfl rfl rfl rfl rfl (QV.as (q_move rfl) (congrArg Value.bool hg138)) ?_
        refine .cons rfl rfl rfl rfl rfl (q_eql rfl rfl) ?_
        refine .cons rfl rfl rfl rfl rfl (q_move rfl) ?_
        refine .cons rfl rfl rfl rfl rfl (q_move rfl) ?_
        exact .nil
      refine gp_quietg 13 rfl rfl rfl rfl rfl rfl (.yes rfl rfl (q_eql rfl rfl)) ?_
      refine gp_quiet 14 rfl rfl rfl rfl rfl rfl (q_pick_t rfl rfl) ?_
      refine gp_quiet 15 rfl rfl rfl rfl rfl rfl (q_assign rfl) ?_
      refine gp_end rfl rfl ?_
      refine g_ret Try.func32 rfl (.tmp rfl .nil) ?_
      (first | exact Gives.mki ⟨congrArg Value.bool (decide_eq_true rfl), rfl⟩ | exact Gives.mki ⟨rfl, rfl⟩)
    · intro hbr
      have hbr := of_decide_eq_false hbr
      (exfalso; first | omega | (simp at hbr; done))
  · intro hbr
    have hbr := of_decide_eq_false hbr
    (exfalso; first | omega | (simp at hbr; done))
def VX (N : Nat → Nat) (n : Nat) (m : Int) : Prop := 2147483647 < m ∨ ∀ j, j < n → (N j : Int) ≤ m
theorem VX.mono {N : Nat → Nat} {n : Nat} {m m2 : Int} (h : VX N n m) (hm : m ≤ m2) : VX N n m2 := h.imp (fun h => by omega) fun h j hj => Int.le_trans (h j hj) hm
theorem VX.next {N : Nat → Nat} {i : Nat} {m m2 : Int} (h : VX N i m) (hm : m ≤ m2) (h2 : (N i : Int) ≤ m2) : VX N (i + 1) m2 := h.imp (fun h => by omega) fun h j hj => by
  by_cases e : j = i
  · subst e; exact h2
  · exact Int.le_trans (h j (by omega)) hm
theorem VX.zero (N : Nat → Nat) (m : Int) : VX N 0 m := .inr fun j hj => absurd hj (Nat.not_lt_zero _)
theorem VX.big {N : Nat → Nat} {n : Nat} {m : Int} (h : 2147483647 < m) : VX N n m := .inl h
theorem VX.out {N : Nat → Nat} {n : Nat} {m : Int} (h : VX N n m) (hm : ¬ 2147483647 < m) : ∀ j, j < n → N j ≤ 2147483647 := fun j hj => by
  rcases h with h | h
  · exact absurd h hm
  · have := h j hj; omega
theorem vast_x (w0 : World) (F : List Atom) (fr mj kr rr : Int) (ca pa ha : Option Addr) (cn cc pn pc hn hc : Nat) (K : Nat → LX Win) (P : Nat → PartR) (hK : LLR winRow w0 F ca cn K) (hP : PXR w0 F pa pn P) (hcn : cn ≤ 140737488351232) (hpn : pn ≤ 140737488351232) (hhn : hn ≤ 140737488351232) (hkn : ∀ i, i < cn → (K i).n ≤ 140737488351232) (hpk : ∀ i, i < pn → (P i).rn ≤ 140737488351232 ∧ (P i).qn ≤ 140737488351232) :
    CallK Try.prog 12 [.agg [Value.int .i64 fr, .int .i64 mj, .int .i64 kr, .int .i64 rr, .slice ca cn cc, .slice pa pn pc, .slice ha hn hc].toArray] w0 (F) (Gives w0 fun v F2 => ∃ x, v = .bool x ∧ F2 = F ∧ (x = false → cn ≤ 2147483647 ∧ pn ≤ 2147483647 ∧ hn ≤ 2147483647 ∧ (∀ i, i < cn → (K i).n ≤ 2147483647) ∧ ∀ i, i < pn → (P i).rn ≤ 2147483647 ∧ (P i).qn ≤ 2147483647)) := by
  refine c_enter Try.func12 rfl rfl rfl ?_
  refine g_seq ?_
  refine g_region ?_
  refine l_boxs rfl rfl ?_; intro b1
  refine l_assign rfl rfl ?_
  refine l_nil ?_
  refine g_seq ?_
  refine g_region ?_
  refine l_fieldAddr rfl fa_27_4 rfl ?_
  refine l_ld rfl Try.isAgg23 rfl rfl ?_
  refine l_len rfl Try.underlying23 rfl ?_
  refine l_fieldAddr rfl fa_27_5 rfl ?_
  refine l_ld rfl Try.isAgg24 rfl rfl ?_
  refine l_len rfl Try.underlying24 rfl ?_
  first | refine l_add rfl rfl rfl (w_i64 (by omega) (by omega)) ?_ | refine l_addw rfl rfl rfl ?_
  refine l_fieldAddr rfl fa_27_6 rfl ?_
  refine l_ld rfl Try.isAgg25 rfl rfl ?_
  refine l_len rfl Try.underlying25 rfl ?_
  first | refine l_add rfl rfl rfl (w_i64 (by omega) (by omega)) ?_ | refine l_addw rfl rfl rfl ?_
  refine l_assign rfl rfl ?_
  refine l_nil ?_
  refine g_seq ?_
  refine g_seq ?_
  refine g_region ?_
  refine l_assign rfl rfl ?_
  refine l_nil ?_
  refine g_block ?_
  refine g_loopc (X := Int × Int) [(1, _), (2, _)] (.cons rfl (.cons rfl (.nil))) (fun z => 0 ≤ z.1 ∧ z.1 ≤ cn ∧ (cn : Int) + pn + hn ≤ z.2 ∧ z.2 ≤ 500000000000000 ∧ VX (fun j => (K j).n) z.1.toNat z.2) (fun z => (cn - z.1).toNat) (fun z => [(3, .int .i64 z.2), (4, .int .i64 z.1)]) ((0, _)) (⟨by simp only; omega, by simp only; omega, by simp only; omega, by simp only; omega, VX.zero _ _⟩) (.cons rfl (.cons rfl .nil)) ?_
  rintro ⟨i, m⟩ ⟨i0, i1, m0, m1, hv⟩ ih
  dsimp only [List.cons_append, List.nil_append] at ih ⊢
  simp only at i0 i1 m0 m1 hv
  refine g_seq ?_
  refine g_seq ?_
  refine g_region ?_
  refine l_move rfl rfl ?_
  refine l_fieldAddr rfl fa_27_4 rfl ?_
  refine l_ld rfl Try.isAgg23 rfl rfl ?_
  refine l_len rfl Try.underlying23 rfl ?_
  refine l_lss rfl rfl rfl ?_
  refine l_move rfl rfl ?_
  refine l_split 22 rfl ?_ ?_
  · intro hbr
    have hbr := of_decide_eq_true hbr
    refine l_guard_yes rfl rfl ?_
    refine l_move rfl rfl ?_
    refine l_guard_yes rfl rfl ?_
    refine l_leq rfl rfl rfl ?_
    refine l_pick_t rfl rfl rfl ?_
    refine l_nil ?_
    refine g_cond rfl ?_ ?_
    · intro hbr
      have hbr := of_decide_eq_true hbr
      refine g_skip ?_
      refine g_seq ?_
      refine g_block ?_
      refine g_region ?_
      refine l_move rfl rfl ?_
      refine l_fieldAddr rfl fa_27_4 rfl ?_
      refine l_ld rfl Try.isAgg23 rfl rfl ?_
      refine l_move rfl rfl ?_
      obtain ⟨⟨a, n, c, L⟩, hk⟩ : ∃ X, K i.toNat = X := ⟨_, rfl⟩
      have hn9 := hkn i.toNat (by omega)
      rw [hk] at hn9
      replace hn9 : n ≤ 140737488351232 := hn9
      have hkk : (K i.toNat).n = n := congrArg LX.n hk
      obtain ⟨b8, o8, rfl, hr8⟩ := hK.some (i := i.toNat) (by omega)
      refine l_ixs rfl Try.underlying23 Try.sizeOf38 rfl rfl (by omega) (by omega) ?_
      refine l_loadc rfl Try.isAgg38 rfl (lx_cell hr8 hk (by omega)) ?_
      refine l_len rfl Try.underlying38 rfl ?_
      first | refine l_add rfl rfl rfl (w_i64 (by omega) (by omega)) ?_ | refine l_addw rfl rfl rfl ?_
      refine l_assign rfl rfl ?_
      refine l_nil ?_
      refine g_inBlock ?_
      refine g_region ?_
      refine l_move rfl rfl ?_
      first | refine l_add rfl rfl rfl (w_i64 (by omega) (by omega)) ?_ | refine l_addw rfl rfl rfl ?_
      refine l_assign rfl rfl ?_
      refine l_nil ?_
      have hv2 := hv.next (m2 := m + n) (by omega) (by simp only [hkk]; omega)
      rw [show i.toNat + 1 = (i + 1).toNat by omega] at hv2
      exact g_againi (ih (i + 1, m + n) ⟨by simp only; omega, by simp only; omega, by simp only; omega, by simp only; omega, hv2⟩ (by simp only; omega)) (.cons rfl (.cons rfl (.cons rfl (.cons rfl (.nil)))))
    intro hbr
    have hbr := of_decide_eq_false hbr
    refine g_exit rfl ?_
    refine g_seq ?_
    refine g_seq ?_
    refine g_region ?_
    refine l_assign rfl rfl ?_
    refine l_nil ?_
    refine g_block ?_
    have hv9 : VX (fun j => (K j).n) cn m := by
      by_cases h : 2147483647 < m
      · exact VX.big h
      · have : i.toNat = cn := by omega
        rwa [this] at hv
    refine g_loopc (X := Int × Int) [(1, _), (2, _)] (.cons rfl (.cons rfl (.nil))) (fun z => 0 ≤ z.1 ∧ z.1 ≤ pn ∧ (cn : Int) + pn + hn ≤ z.2 ∧ z.2 ≤ 500000000000000 ∧ VX (fun j => (K j).n) cn z.2 ∧ VX (fun j => (P j).rn) z.1.toNat z.2 ∧ VX (fun j => (P j).qn) z.1.toNat z.2) (fun z => (pn - z.1).toNat) (fun z => [(3, .int .i64 z.2), (5, .int .i64 z.1)]) ((0, m)) (⟨by simp only; omega, by simp only; omega, by simp only; omega, by simp only; omega, hv9, VX.zero _ _, VX.zero _ _⟩) (.cons rfl (.cons rfl .nil)) ?_
    rintro ⟨j, m⟩ ⟨j0, j1, m0, m1, hw, hwr, hwq⟩ ihj
    dsimp only [List.cons_append, List.nil_append] at ihj ⊢
    simp only at j0 j1 m0 m1 hw hwr hwq
    refine g_seq ?_
    refine g_seq ?_
    refine g_region ?_
    refine l_move rfl rfl ?_
    refine l_fieldAddr rfl fa_27_5 rfl ?_
    refine l_ld rfl Try.isAgg24 rfl rfl ?_
    refine l_len rfl Try.underlying24 rfl ?_
    refine l_lss rfl rfl rfl ?_
    refine l_move rfl rfl ?_
    refine l_split 41 rfl ?_ ?_
    · intro hbr
      have hbr := of_decide_eq_true hbr
      refine l_guard_yes rfl rfl ?_
      refine l_move rfl rfl ?_
      refine l_guard_yes rfl rfl ?_
      refine l_leq rfl rfl rfl ?_
      refine l_pick_t rfl rfl rfl ?_
      refine l_nil ?_
      refine g_cond rfl ?_ ?_
      · intro hbr
        have hbr := of_decide_eq_true hbr
        refine g_skip ?_
        refine g_seq ?_
        refine g_block ?_
        refine gp_start mo (by kernel_rfl) (by kernel_rfl) ?_
        refine gp_quiet 0 rfl rfl rfl rfl rfl rfl (q_move rfl) ?_
        refine gp_quiet 1 rfl rfl rfl rfl rfl rfl (q_fieldAddr fa_27_5 rfl) ?_
        refine gp_quiet 2 rfl rfl rfl rfl rfl rfl (q_ld Try.isAgg24 rfl rfl) ?_
        refine gp_quiet 3 rfl rfl rfl rfl rfl rfl (q_move rfl) ?_
        obtain ⟨⟨nm, e1, e2, e3, e4, e5, ra, rn, rc, R, qa, qn, qc, Q⟩, hp⟩ : ∃ X, P j.toNat = X := ⟨_, rfl⟩
        have hn8 := hpk j.toNat (by omega)
        rw [hp] at hn8
        obtain ⟨hn8, hn7⟩ : rn ≤ 140737488351232 ∧ qn ≤ 140737488351232 := hn8
        have hrr : (P j.toNat).rn = rn := congrArg PartR.rn hp
        have hqq : (P j.toNat).qn = qn := congrArg PartR.qn hp
        obtain ⟨b8, o8, rfl, hr8⟩ := hP.some (i := j.toNat) (by omega)
        refine gp_quiet 4 rfl rfl rfl rfl rfl rfl (q_ixs Try.underlying24 Try.sizeOf69 rfl rfl (by omega) (by omega)) ?_
        refine gp_quiet 5 rfl rfl rfl rfl rfl rfl (q_fieldAddr fa_69_6 rfl) ?_
        refine gp_quiet 6 rfl rfl rfl rfl rfl rfl (q_loadc Try.isAgg66 rfl ((px_row hr8 hp (by omega)).cell (j := 6) (v := .slice ra rn rc) rfl)) ?_
        refine gp_quiet 7 rfl rfl rfl rfl rfl rfl (q_len Try.underlying66 rfl) ?_
        first | refine gp_quiet 8 rfl rfl rfl rfl rfl rfl (q_add rfl rfl (w_i64 (by omega) (by omega))) ?_ | refine gp_quiet 8 rfl rfl rfl rfl rfl rfl (q_addw rfl rfl) ?_
        refine gp_quiet 9 rfl rfl rfl rfl rfl rfl (q_fieldAddr fa_27_5 rfl) ?_
        refine gp_quiet 10 rfl rfl rfl rfl rfl rfl (q_ld Try.isAgg24 rfl rfl) ?_
        refine gp_quiet 11 rfl rfl rfl rfl rfl rfl (q_move rfl) ?_
        refine gp_quiet 12 rfl rfl rfl rfl rfl rfl (q_ixs Try.underlying24 Try.sizeOf69 rfl rfl (by omega) (by omega)) ?_
        refine gp_quiet 13 rfl rfl rfl rfl rfl rfl (q_fieldAddr fa_69_7 rfl) ?_
        refine gp_quiet 14 rfl rfl rfl rfl rfl rfl (q_loadc Try.isAgg67 rfl ((px_row hr8 hp (by omega)).cell (j := 7) (v := .slice qa qn qc) rfl)) ?_
        refine gp_quiet 15 rfl rfl rfl rfl rfl rfl (q_len Try.underlying67 rfl) ?_
        first | refine gp_quiet 16 rfl rfl rfl rfl rfl rfl (q_add rfl rfl (w_i64 (by omega) (by omega))) ?_ | refine gp_quiet 16 rfl rfl rfl rfl rfl rfl (q_addw rfl rfl) ?_
        refine gp_after 17 rfl rfl rfl rfl rfl rfl rfl rfl (q_assign rfl) ?_
        refine gp_end rfl rfl ?_
        refine g_inBlock ?_
        refine g_region ?_
        refine l_move rfl rfl ?_
        first | refine l_add rfl rfl rfl (w_i64 (by omega) (by omega)) ?_ | refine l_addw rfl rfl rfl ?_
        refine l_assign rfl rfl ?_
        refine l_nil ?_
        have hv1 := hw.mono (m2 := m + rn + qn) (by omega)
        have hv2 := hwr.next (m2 := m + rn + qn) (by omega) (by simp only [hrr]; omega)
        have hv3 := hwq.next (m2 := m + rn + qn) (by omega) (by simp only [hqq]; omega)
        rw [show j.toNat + 1 = (j + 1).toNat by omega] at hv2 hv3
        exact g_againi (ihj (j + 1, m + rn + qn) ⟨by simp only; omega, by simp only; omega, by simp only; omega, by simp only; omega, hv1, hv2, hv3⟩ (by simp only; omega)) (.cons rfl (.cons rfl (.cons rfl (.cons rfl (.nil)))))
      intro hbr
      have hbr := of_decide_eq_false hbr
      refine g_exit rfl ?_
      refine g_seq ?_
      refine g_region ?_
      refine l_move rfl rfl ?_
      refine l_gtr rfl rfl rfl ?_
      refine l_assign rfl rfl ?_
      refine l_nil ?_
      have hfin : ¬ 2147483647 < m → (∀ i, i < cn → (K i).n ≤ 2147483647) ∧ ∀ i, i < pn → (P i).rn ≤ 2147483647 ∧ (P i).qn ≤ 2147483647 := fun h => by
        have hj : j.toNat = pn := by omega
        rw [hj] at hwr hwq
        exact ⟨hw.out h, fun i hi => ⟨hwr.out h i hi, hwq.out h i hi⟩⟩
      refine g_ret Try.func12 rfl (.tmp rfl .nil) ?_
      exact Gives.mki ⟨_, rfl, rfl, fun h => by have h := of_decide_eq_false h; exact ⟨by omega, by omega, by omega, hfin h⟩⟩
    intro hbr
    have hbr := of_decide_eq_false hbr
    refine l_guard_no rfl rfl rfl ?_
    refine l_guard_no rfl rfl rfl ?_
    refine l_pick_f rfl rfl rfl ?_
    refine l_nil ?_
    first | refine g_cond_f rfl ?_ | refine g_cond_f (congrArg (fun b => some (Value.bool b)) (decide_eq_false hbr)) ?_
    refine g_exit rfl ?_
    refine g_seq ?_
    refine g_region ?_
    refine l_move rfl rfl ?_
    refine l_gtr rfl rfl rfl ?_
    refine l_assign rfl rfl ?_
    refine l_nil ?_
    have hfin : ¬ 2147483647 < m → (∀ i, i < cn → (K i).n ≤ 2147483647) ∧ ∀ i, i < pn → (P i).rn ≤ 2147483647 ∧ (P i).qn ≤ 2147483647 := fun h => by
      have hj : j.toNat = pn := by omega
      rw [hj] at hwr hwq
      exact ⟨hw.out h, fun i hi => ⟨hwr.out h i hi, hwq.out h i hi⟩⟩
    refine g_ret Try.func12 rfl (.tmp rfl .nil) ?_
    exact Gives.mki ⟨_, rfl, rfl, fun h => by have h := of_decide_eq_false h; exact ⟨by omega, by omega, by omega, hfin h⟩⟩
  intro hbr
  have hbr := of_decide_eq_false hbr
  refine l_guard_no rfl rfl rfl ?_
  refine l_guard_no rfl rfl rfl ?_
  refine l_pick_f rfl rfl rfl ?_
  refine l_nil ?_
  first | refine g_cond_f rfl ?_ | refine g_cond_f (congrArg (fun b => some (Value.bool b)) (decide_eq_false hbr)) ?_
  refine g_exit rfl ?_
  refine g_seq ?_
  refine g_seq ?_
  refine g_region ?_
  refine l_assign rfl rfl ?_
  refine l_nil ?_
  refine g_block ?_
  have hv9 : VX (fun j => (K j).n) cn m := by
    by_cases h : 2147483647 < m
    · exact VX.big h
    · have : i.toNat = cn := by omega
      rwa [this] at hv
  refine g_loopc (X := Int × Int) [(1, _), (2, _)] (.cons rfl (.cons rfl (.nil))) (fun z => 0 ≤ z.1 ∧ z.1 ≤ pn ∧ (cn : Int) + pn + hn ≤ z.2 ∧ z.2 ≤ 500000000000000 ∧ VX (fun j => (K j).n) cn z.2 ∧ VX (fun j => (P j).rn) z.1.toNat z.2 ∧ VX (fun j => (P j).qn) z.1.toNat z.2) (fun z => (pn - z.1).toNat) (fun z => [(3, .int .i64 z.2), (5, .int .i64 z.1)]) ((0, m)) (⟨by simp only; omega, by simp only; omega, by simp only; omega, by simp only; omega, hv9, VX.zero _ _, VX.zero _ _⟩) (.cons rfl (.cons rfl .nil)) ?_
  rintro ⟨j, m⟩ ⟨j0, j1, m0, m1, hw, hwr, hwq⟩ ihj
  dsimp only [List.cons_append, List.nil_append] at ihj ⊢
  simp only at j0 j1 m0 m1 hw hwr hwq
  refine g_seq ?_
  refine g_seq ?_
  refine g_region ?_
  refine l_move rfl rfl ?_
  refine l_fieldAddr rfl fa_27_5 rfl ?_
  refine l_ld rfl Try.isAgg24 rfl rfl ?_
  refine l_len rfl Try.underlying24 rfl ?_
  refine l_lss rfl rfl rfl ?_
  refine l_move rfl rfl ?_
  refine l_split 41 rfl ?_ ?_
  · intro hbr
    have hbr := of_decide_eq_true hbr
    refine l_guard_yes rfl rfl ?_
    refine l_move rfl rfl ?_
    refine l_guard_yes rfl rfl ?_
    refine l_leq rfl rfl rfl ?_
    refine l_pick_t rfl rfl rfl ?_
    refine l_nil ?_
    refine g_cond rfl ?_ ?_
    · intro hbr
      have hbr := of_decide_eq_true hbr
      refine g_skip ?_
      refine g_seq ?_
      refine g_block ?_
      refine gp_start mo (by kernel_rfl) (by kernel_rfl) ?_
      refine gp_quiet 0 rfl rfl rfl rfl rfl rfl (q_move rfl) ?_
      refine gp_quiet 1 rfl rfl rfl rfl rfl rfl (q_fieldAddr fa_27_5 rfl) ?_
      refine gp_quiet 2 rfl rfl rfl rfl rfl rfl (q_ld Try.isAgg24 rfl rfl) ?_
      refine gp_quiet 3 rfl rfl rfl rfl rfl rfl (q_move rfl) ?_
      obtain ⟨⟨nm, e1, e2, e3, e4, e5, ra, rn, rc, R, qa, qn, qc, Q⟩, hp⟩ : ∃ X, P j.toNat = X := ⟨_, rfl⟩
      have hn8 := hpk j.toNat (by omega)
      rw [hp] at hn8
      obtain ⟨hn8, hn7⟩ : rn ≤ 140737488351232 ∧ qn ≤ 140737488351232 := hn8
      have hrr : (P j.toNat).rn = rn := congrArg PartR.rn hp
      have hqq : (P j.toNat).qn = qn := congrArg PartR.qn hp
      obtain ⟨b8, o8, rfl, hr8⟩ := hP.some (i := j.toNat) (by omega)
      refine gp_quiet 4 rfl rfl rfl rfl rfl rfl (q_ixs Try.underlying24 Try.sizeOf69 rfl rfl (by omega) (by omega)) ?_
      refine gp_quiet 5 rfl rfl rfl rfl rfl rfl (q_fieldAddr fa_69_6 rfl) ?_
      refine gp_quiet 6 rfl rfl rfl rfl rfl rfl (q_loadc Try.isAgg66 rfl ((px_row hr8 hp (by omega)).cell (j := 6) (v := .slice ra rn rc) rfl)) ?_
      refine gp_quiet 7 rfl rfl rfl rfl rfl rfl (q_len Try.underlying66 rfl) ?_
      first | refine gp_quiet 8 rfl rfl rfl rfl rfl rfl (q_add rfl rfl (w_i64 (by omega) (by omega))) ?_ | refine gp_quiet 8 rfl rfl rfl rfl rfl rfl (q_addw rfl rfl) ?_
      refine gp_quiet 9 rfl rfl rfl rfl rfl rfl (q_fieldAddr fa_27_5 rfl) ?_
      refine gp_quiet 10 rfl rfl rfl rfl rfl rfl (q_ld Try.isAgg24 rfl rfl) ?_
      refine gp_quiet 11 rfl rfl rfl rfl rfl rfl (q_move rfl) ?_
      refine gp_quiet 12 rfl rfl rfl rfl rfl rfl (q_ixs Try.underlying24 Try.sizeOf69 rfl rfl (by omega) (by omega)) ?_
      refine gp_quiet 13 rfl rfl rfl rfl rfl rfl (q_fieldAddr fa_69_7 rfl) ?_
      refine gp_quiet 14 rfl rfl rfl rfl rfl rfl (q_loadc Try.isAgg67 rfl ((px_row hr8 hp (by omega)).cell (j := 7) (v := .slice qa qn qc) rfl)) ?_
      refine gp_quiet 15 rfl rfl rfl rfl rfl rfl (q_len Try.underlying67 rfl) ?_
      first | refine gp_quiet 16 rfl rfl rfl rfl rfl rfl (q_add rfl rfl (w_i64 (by omega) (by omega))) ?_ | refine gp_quiet 16 rfl rfl rfl rfl rfl rfl (q_addw rfl rfl) ?_
      refine gp_after 17 rfl rfl rfl rfl rfl rfl rfl rfl (q_assign rfl) ?_
      refine gp_end rfl rfl ?_
      refine g_inBlock ?_
      refine g_region ?_
      refine l_move rfl rfl ?_
      first | refine l_add rfl rfl rfl (w_i64 (by omega) (by omega)) ?_ | refine l_addw rfl rfl rfl ?_
      refine l_assign rfl rfl ?_
      refine l_nil ?_
      have hv1 := hw.mono (m2 := m + rn + qn) (by omega)
      have hv2 := hwr.next (m2 := m + rn + qn) (by omega) (by simp only [hrr]; omega)
      have hv3 := hwq.next (m2 := m + rn + qn) (by omega) (by simp only [hqq]; omega)
      rw [show j.toNat + 1 = (j + 1).toNat by omega] at hv2 hv3
      exact g_againi (ihj (j + 1, m + rn + qn) ⟨by simp only; omega, by simp only; omega, by simp only; omega, by simp only; omega, hv1, hv2, hv3⟩ (by simp only; omega)) (.cons rfl (.cons rfl (.cons rfl (.cons rfl (.nil)))))
    intro hbr
    have hbr := of_decide_eq_false hbr
    refine g_exit rfl ?_
    refine g_seq ?_
    refine g_region ?_
    refine l_move rfl rfl ?_
    refine l_gtr rfl rfl rfl ?_
    refine l_assign rfl rfl ?_
    refine l_nil ?_
    have hfin : ¬ 2147483647 < m → (∀ i, i < cn → (K i).n ≤ 2147483647) ∧ ∀ i, i < pn → (P i).rn ≤ 2147483647 ∧ (P i).qn ≤ 2147483647 := fun h => by
      have hj : j.toNat = pn := by omega
      rw [hj] at hwr hwq
      exact ⟨hw.out h, fun i hi => ⟨hwr.out h i hi, hwq.out h i hi⟩⟩
    refine g_ret Try.func12 rfl (.tmp rfl .nil) ?_
    exact Gives.mki ⟨_, rfl, rfl, fun h => by have h := of_decide_eq_false h; exact ⟨by omega, by omega, by omega, hfin h⟩⟩
  intro hbr
  have hbr := of_decide_eq_false hbr
  refine l_guard_no rfl rfl rfl ?_
  refine l_guard_no rfl rfl rfl ?_
  refine l_pick_f rfl rfl rfl ?_
  refine l_nil ?_
  first | refine g_cond_f rfl ?_ | refine g_cond_f (congrArg (fun b => some (Value.bool b)) (decide_eq_false hbr)) ?_
  refine g_exit rfl ?_
  refine g_seq ?_
  refine g_region ?_
  refine l_move rfl rfl ?_
  refine l_gtr rfl rfl rfl ?_
  refine l_assign rfl rfl ?_
  refine l_nil ?_
  have hfin : ¬ 2147483647 < m → (∀ i, i < cn → (K i).n ≤ 2147483647) ∧ ∀ i, i < pn → (P i).rn ≤ 2147483647 ∧ (P i).qn ≤ 2147483647 := fun h => by
    have hj : j.toNat = pn := by omega
    rw [hj] at hwr hwq
    exact ⟨hw.out h, fun i hi => ⟨hwr.out h i hi, hwq.out h i hi⟩⟩
  refine g_ret Try.func12 rfl (.tmp rfl .nil) ?_
  exact Gives.mki ⟨_, rfl, rfl, fun h => by have h := of_decide_eq_false h; exact ⟨by omega, by omega, by omega, hfin h⟩⟩
theorem vis_s78 {w : World} {r : List Value} (h : Vis Try.prog w 78 r) : ∃ (x0 : Int) (x1 : Int) (x2 : Int) (x3 : Int), r = [.int .i64 x0, .int .i64 x1, .int .i64 x2, .int .i64 x3] ∧ (Lit.int .i64 x0).wf = true ∧ (Lit.int .i64 x1).wf = true ∧ (Lit.int .i64 x2).wf = true ∧ (Lit.int .i64 x3).wf = true := by
  obtain ⟨hl, hf⟩ := vis_struct Try.underlying78 h
  have hc : Try.prog.cellsOf 78 = 4 := by kernel_rfl
  have cc3 : Try.prog.cellsOf 3 = 1 := by kernel_rfl
  match r, hl.trans hc with
  | [z0, z1, z2, z3], _ =>
    obtain ⟨x0, e0, w0⟩ := vis_int Try.underlying3 (hf 0 _ rfl)
    obtain ⟨x1, e1, w1⟩ := vis_int Try.underlying3 (hf 1 _ rfl)
    obtain ⟨x2, e2, w2⟩ := vis_int Try.underlying3 (hf 2 _ rfl)
    obtain ⟨x3, e3, w3⟩ := vis_int Try.underlying3 (hf 3 _ rfl)
    simp [cc3] at e0 e1 e2 e3
    subst e0 e1 e2 e3
    exact ⟨x0, x1, x2, x3, rfl, w0, w1, w2, w3⟩
theorem vis_s80 {w : World} {r : List Value} (h : Vis Try.prog w 80 r) : ∃ (x0 : Int) (x1 : Bool), r = [.int .i64 x0, .bool x1] ∧ (Lit.int .i64 x0).wf = true ∧ True := by
  obtain ⟨hl, hf⟩ := vis_struct Try.underlying80 h
  have hc : Try.prog.cellsOf 80 = 2 := by kernel_rfl
  have cc3 : Try.prog.cellsOf 3 = 1 := by kernel_rfl
  have cc4 : Try.prog.cellsOf 4 = 1 := by kernel_rfl
  match r, hl.trans hc with
  | [z0, z1], _ =>
    obtain ⟨x0, e0, w0⟩ := vis_int Try.underlying3 (hf 0 _ rfl)
    obtain ⟨x1, e1⟩ := vis_bool Try.underlying4 (hf 1 _ rfl)
    have w1 := trivial
    simp [cc3, cc4] at e0 e1
    subst e0 e1
    exact ⟨x0, x1, rfl, w0, w1⟩
theorem vis_s82 {w : World} {r : List Value} (h : Vis Try.prog w 82 r) : ∃ (x0 : Int) (x1 : Int) (x2 : Int), r = [.int .i64 x0, .int .i64 x1, .int .i64 x2] ∧ (Lit.int .i64 x0).wf = true ∧ (Lit.int .i64 x1).wf = true ∧ (Lit.int .i64 x2).wf = true := by
  obtain ⟨hl, hf⟩ := vis_struct Try.underlying82 h
  have hc : Try.prog.cellsOf 82 = 3 := by kernel_rfl
  have cc3 : Try.prog.cellsOf 3 = 1 := by kernel_rfl
  match r, hl.trans hc with
  | [z0, z1, z2], _ =>
    obtain ⟨x0, e0, w0⟩ := vis_int Try.underlying3 (hf 0 _ rfl)
    obtain ⟨x1, e1, w1⟩ := vis_int Try.underlying3 (hf 1 _ rfl)
    obtain ⟨x2, e2, w2⟩ := vis_int Try.underlying3 (hf 2 _ rfl)
    simp [cc3] at e0 e1 e2
    subst e0 e1 e2
    exact ⟨x0, x1, x2, rfl, w0, w1, w2⟩
theorem viz_rows {α : Type} {f : α → List Value} {R9 : α → Prop} {P : Program} {w : World} {t e : TypeId} {cs : List Value} {sz by_ : Nat} (ht : P.underlying t = some (.slice e)) (hsz : P.cellsOf e = sz) (hby : P.bytesOf e = by_) (hpos : 0 < sz) (hv : Viz P w t cs) (hel : ∀ r, Viz P w e r → ∃ x, r = f x ∧ R9 x) :
    ∃ a n c L, cs = [.slice a n c] ∧ (a = none → c = 0) ∧ n * by_ ≤ 140737488351232 ∧ TR f w [Old w] a n L ∧ ∀ x ∈ L, R9 x := by
  obtain ⟨a, n, c, rows, h1, h2, h3, h4, h5, h6, h7⟩ := viz_slice ht hsz hby hpos hv
  obtain ⟨L, hL, hR⟩ := rows_choose (f := f) (R := R9) (rows := rows) (fun r hr => hel r (h6 r hr).2)
  subst hL
  refine ⟨a, n, c, L, h1, ?_, h4, ⟨by simpa using h5, ?_⟩, hR⟩
  · rcases h7 with ⟨_, h⟩ | ⟨b, o, rfl, _⟩
    · exact h
    · intro h; cases h
  · rcases h7 with ⟨h, _⟩ | ⟨b, o, rfl, hr⟩
    · exact .inl h
    · exact .inr ⟨b, o, rfl, RowAt.old (by simp) hr⟩
theorem viz_win {w : World} {r : List Value} (h : Viz Try.prog w 40 r) : ∃ x : Win, r = winRow x ∧ I64 x.1 ∧ I64 x.2.1 ∧ I64 x.2.2 := by
  obtain ⟨x0, x1, x2, rfl, h0, h1, h2⟩ := vis_s40 h.vis
  exact ⟨(x0, x1, x2), rfl, wf_i64 h0, wf_i64 h1, wf_i64 h2⟩
theorem viz_chn {w : World} {r : List Value} (h : Viz Try.prog w 82 r) : ∃ x : Win, r = winRow x ∧ True := by
  obtain ⟨x0, x1, x2, rfl, h0, h1, h2⟩ := vis_s82 h.vis
  exact ⟨(x0, x1, x2), rfl, trivial⟩
theorem viz_reg {w : World} {r : List Value} (h : Viz Try.prog w 78 r) : ∃ x : Reg, r = spanRow x ∧ True := by
  obtain ⟨x0, x1, x2, x3, rfl, _⟩ := vis_s78 h.vis
  exact ⟨(x0, x1, x2, x3), rfl, trivial⟩
theorem viz_prt {w : World} {r : List Value} (h : Viz Try.prog w 80 r) : ∃ x : Prt, r = prtRow x ∧ True := by
  obtain ⟨x0, x1, rfl, _⟩ := vis_s80 h.vis
  exact ⟨(x0, x1), rfl, trivial⟩
structure KOk (w : World) (K : LX Win) : Prop where
  tr : TR winRow w [Old w] K.a K.n K.L
  nc : K.a = none → K.c = 0
  fit : K.n ≤ 140737488351232
  i64 : I64W K.L
structure POk (w : World) (p : PartR) : Prop where
  trR : TR spanRow w [Old w] p.ra p.rn p.R
  trQ : TR prtRow w [Old w] p.qa p.qn p.Q
  nr : p.ra = none → p.rc = 0
  nq : p.qa = none → p.qc = 0
  fr : p.rn ≤ 140737488351232
  fq : p.qn ≤ 140737488351232
theorem viz_corex {w : World} {r : List Value} (h : Viz Try.prog w 38 r) : ∃ K : LX Win, r = [lxV K] ∧ KOk w K := by
  obtain ⟨a, n, c, L, h1, h2, h3, h4, h5⟩ := viz_rows (f := winRow) (sz := 3) (by_ := 24) Try.underlying38 (by kernel_rfl) (by kernel_rfl) (by decide) h (fun r hr => viz_win hr)
  exact ⟨⟨a, n, c, L⟩, h1, h4, h2, by simp only; omega, h5⟩
theorem viz_partx {w : World} {r : List Value} (h : Viz Try.prog w 69 r) : ∃ p : PartR, r = partRow p ∧ POk w p := by
  obtain ⟨hl, hf⟩ := viz_struct Try.underlying69 h
  have hc : Try.prog.cellsOf 69 = 8 := by kernel_rfl
  have c0 : Try.prog.cellsOf 9 = 1 := by kernel_rfl
  have c1 : Try.prog.cellsOf 66 = 1 := by kernel_rfl
  have c2 : Try.prog.cellsOf 67 = 1 := by kernel_rfl
  have c3 : Try.prog.cellsOf 3 = 1 := by kernel_rfl
  match r, hl.trans hc with
  | [z0, z1, z2, z3, z4, z5, z6, z7], _ =>
    obtain ⟨nm, e0, _⟩ := vis_string Try.underlying9 (hf 0 _ rfl).vis
    obtain ⟨e1, f1, _⟩ := vis_int Try.underlying3 (hf 1 _ rfl).vis
    obtain ⟨e2, f2, _⟩ := vis_int Try.underlying3 (hf 2 _ rfl).vis
    obtain ⟨e3, f3, _⟩ := vis_int Try.underlying3 (hf 3 _ rfl).vis
    obtain ⟨e4, f4, _⟩ := vis_int Try.underlying3 (hf 4 _ rfl).vis
    obtain ⟨e5, f5, _⟩ := vis_int Try.underlying3 (hf 5 _ rfl).vis
    obtain ⟨a6, n6, c6, L6, f6, g6, w6, t6, _⟩ := viz_rows (f := spanRow) (sz := 4) (by_ := 32) Try.underlying66 (by kernel_rfl) (by kernel_rfl) (by decide) (hf 6 _ rfl) (fun r hr => viz_reg hr)
    obtain ⟨a7, n7, c7, L7, f7, g7, w7, t7, _⟩ := viz_rows (f := prtRow) (sz := 2) (by_ := 16) Try.underlying67 (by kernel_rfl) (by kernel_rfl) (by decide) (hf 7 _ rfl) (fun r hr => viz_prt hr)
    simp [c0, c1, c2, c3] at e0 f1 f2 f3 f4 f5 f6 f7
    subst e0 f1 f2 f3 f4 f5 f6 f7
    exact ⟨⟨nm, e1, e2, e3, e4, e5, a6, n6, c6, L6, a7, n7, c7, L7⟩, rfl, t6, t7, g6, g7, by simp only; omega, by simp only; omega⟩
structure CfgOk (w : World) (ca pa ha : Option Addr) (cn cc pn pc hn hc : Nat) (K : Nat → LX Win) (P : Nat → PartR) (H : List Win) : Prop where
  hK : LLR winRow w [Old w] ca cn K
  hP : PXR w [Old w] pa pn P
  hH : TR winRow w [Old w] ha hn H
  nK : ∀ i, i < cn → (K i).a = none → (K i).c = 0
  nP : ∀ i, i < pn → ((P i).ra = none → (P i).rc = 0) ∧ ((P i).qa = none → (P i).qc = 0)
  nH : ha = none → hc = 0
  hcn : cn ≤ 140737488351232
  hpn : pn ≤ 140737488351232
  hhn : hn ≤ 140737488351232
  hkn : ∀ i, i < cn → (K i).n ≤ 140737488351232
  hpk : ∀ i, i < pn → (P i).rn ≤ 140737488351232 ∧ (P i).qn ≤ 140737488351232
  i64 : ∀ i, i < cn → I64W (K i).L
theorem viz_cfgx {w : World} {r : List Value} (h : Viz Try.prog w 27 r) : ∃ fr mj kr rr ca cn cc pa pn pc ha hn hc K P H, r = [.int .i64 fr, .int .i64 mj, .int .i64 kr, .int .i64 rr, .slice ca cn cc, .slice pa pn pc, .slice ha hn hc] ∧ I64 mj ∧ CfgOk w ca pa ha cn cc pn pc hn hc K P H := by
  obtain ⟨hl, hf⟩ := viz_struct Try.underlying27 h
  have hc : Try.prog.cellsOf 27 = 7 := by kernel_rfl
  have c0 : Try.prog.cellsOf 3 = 1 := by kernel_rfl
  have c1 : Try.prog.cellsOf 23 = 1 := by kernel_rfl
  have c2 : Try.prog.cellsOf 24 = 1 := by kernel_rfl
  have c3 : Try.prog.cellsOf 25 = 1 := by kernel_rfl
  match r, hl.trans hc with
  | [z0, z1, z2, z3, z4, z5, z6], _ =>
    obtain ⟨fr, e0, _⟩ := vis_int Try.underlying3 (hf 0 _ rfl).vis
    obtain ⟨mj, e1, w1⟩ := vis_int Try.underlying3 (hf 1 _ rfl).vis
    obtain ⟨kr, e2, _⟩ := vis_int Try.underlying3 (hf 2 _ rfl).vis
    obtain ⟨rr, e3, _⟩ := vis_int Try.underlying3 (hf 3 _ rfl).vis
    obtain ⟨ca, cn, cc, Ks, e4, g4, w4, t4, o4⟩ := viz_rows (f := fun K => [lxV K]) (sz := 1) (by_ := 24) Try.underlying23 (by kernel_rfl) (by kernel_rfl) (by decide) (hf 4 _ rfl) (fun r hr => viz_corex hr)
    obtain ⟨pa, pn, pc, Ps, e5, g5, w5, t5, o5⟩ := viz_rows (f := partRow) (sz := 8) (by_ := 104) Try.underlying24 (by kernel_rfl) (by kernel_rfl) (by decide) (hf 5 _ rfl) (fun r hr => viz_partx hr)
    obtain ⟨ha, hn, hcc, H, e6, g6, w6, t6, _⟩ := viz_rows (f := winRow) (sz := 3) (by_ := 24) Try.underlying25 (by kernel_rfl) (by kernel_rfl) (by decide) (hf 6 _ rfl) (fun r hr => viz_chn hr)
    simp [c0, c1, c2, c3] at e0 e1 e2 e3 e4 e5 e6
    subst e0 e1 e2 e3 e4 e5 e6
    have kK : ∀ i, i < cn → KOk w (Ks.getD i ⟨none, 0, 0, []⟩) := fun i hi => by
      have hlt : i < Ks.length := by rw [t4.1]; exact hi
      rw [List.getD_eq_getElem?_getD, List.getElem?_eq_getElem hlt]
      exact o4 _ (List.getElem_mem _)
    have kP : ∀ i, i < pn → POk w (Ps.getD i (sppart 0)) := fun i hi => by
      have hlt : i < Ps.length := by rw [t5.1]; exact hi
      rw [List.getD_eq_getElem?_getD, List.getElem?_eq_getElem hlt]
      exact o5 _ (List.getElem_mem _)
    refine ⟨fr, mj, kr, rr, ca, cn, cc, pa, pn, pc, ha, hn, hcc, fun i => Ks.getD i ⟨none, 0, 0, []⟩, fun i => Ps.getD i (sppart 0), H, rfl, wf_i64 w1, ⟨fun i hi => (kK i hi).tr, ?_⟩, ⟨fun i hi => ⟨(kP i hi).trR, (kP i hi).trQ⟩, ?_⟩, t6, fun i hi => (kK i hi).nc, fun i hi => ⟨(kP i hi).nr, (kP i hi).nq⟩, g6, by omega, by omega, by omega, fun i hi => (kK i hi).fit, fun i hi => ⟨(kP i hi).fr, (kP i hi).fq⟩, fun i hi => (kK i hi).i64⟩
    · rcases t4.2 with h0 | ⟨b, o, h1, h2⟩
      · exact .inl h0
      · refine .inr ⟨b, o, h1, fun i hi => ?_⟩
        have hlt : i < Ks.length := by rw [t4.1]; exact hi
        have hx : Ks[i]? = some (Ks.getD i ⟨none, 0, 0, []⟩) := by rw [List.getD_eq_getElem?_getD, List.getElem?_eq_getElem hlt]; rfl
        have := (tr_row (sz := 1) (F := [Old w]) (fun _ => rfl) h2 hx).cell (j := 0) (v := lxV (Ks.getD i ⟨none, 0, 0, []⟩)) rfl
        exact this
    · rcases t5.2 with h0 | ⟨b, o, h1, h2⟩
      · exact .inl h0
      · refine .inr ⟨b, o, h1, fun i hi => ?_⟩
        have hlt : i < Ps.length := by rw [t5.1]; exact hi
        have hx : Ps[i]? = some (Ps.getD i (sppart 0)) := by rw [List.getD_eq_getElem?_getD, List.getElem?_eq_getElem hlt]; rfl
        exact tr_row (sz := 8) (F := [Old w]) (fun _ => rfl) h2 hx
set_option linter.unusedSectionVars false
structure RoomIn (F : List Atom) (cn pn hn : Nat) (K : Nat → LX Win) (P : Nat → PartR) (H : List Win) (g gr gq gs : GA) (gC cC gQ cQ gH cH : Nat) (aW : Option Addr) (cW : Nat) (aR : Option Addr) (cR : Nat) (aP : Option Addr) (cP : Nat) : Prop where
  mc : Own 38 1 (.slice (some ⟨gC, 0, none⟩) (cn + 12) cC) (cn + 12) (fCL K g gs cn (cn + 12)) ∈ F
  mq : Own 69 8 (.slice (some ⟨gQ, 0, none⟩) (pn + 12) cQ) (pn + 12) (fQL P gr gq pn (pn + 12)) ∈ F
  mh : Own 82 3 (.slice (some ⟨gH, 0, none⟩) (hn + 12) cH) (hn + 12) (rowsT winRow (rm WMk H 12)) ∈ F
  ms : BigF 12 (saA gs) ∈ F
  mw : Own 38 1 (.slice aW cn cW) cn (slL (fun j => (K j).n) g cn) ∈ F
  mkw : BigF cn (rwA K g) ∈ F
  mr : Own 66 1 (.slice aR pn cR) pn (slL (fun j => (P j).rn) gr pn) ∈ F
  mp : Own 67 1 (.slice aP pn cP) pn (slL (fun j => (P j).qn) gq pn) ∈ F
  mkr : BigF pn (rrA P gr) ∈ F
  mkq : BigF pn (rqA P gq) ∈ F
theorem Takes.mem {F : List Atom} {A : Atom} {F1 : List Atom} [h : Takes F A F1] : A ∈ F := h.perm.mem_iff.2 (List.mem_cons_self ..)
theorem roomIn {F F0 F1 F2 F3 F4 F5 F6 F7 F8 F9 : List Atom} {cn pn hn : Nat} {K : Nat → LX Win} {P : Nat → PartR} {H : List Win} {g gr gq gs : GA} {gC cC gQ cQ gH cH : Nat} {aW : Option Addr} {cW : Nat} {aR : Option Addr} {cR : Nat} {aP : Option Addr} {cP : Nat} [Takes F (Own 38 1 (.slice (some ⟨gC, 0, none⟩) (cn + 12) cC) (cn + 12) (fCL K g gs cn (cn + 12))) F0] [Takes F (Own 69 8 (.slice (some ⟨gQ, 0, none⟩) (pn + 12) cQ) (pn + 12) (fQL P gr gq pn (pn + 12))) F1] [Takes F (Own 82 3 (.slice (some ⟨gH, 0, none⟩) (hn + 12) cH) (hn + 12) (rowsT winRow (rm WMk H 12))) F2] [Takes F (BigF 12 (saA gs)) F3] [Takes F (Own 38 1 (.slice aW cn cW) cn (slL (fun j => (K j).n) g cn)) F4] [Takes F (BigF cn (rwA K g)) F5] [Takes F (Own 66 1 (.slice aR pn cR) pn (slL (fun j => (P j).rn) gr pn)) F6] [Takes F (Own 67 1 (.slice aP pn cP) pn (slL (fun j => (P j).qn) gq pn)) F7] [Takes F (BigF pn (rrA P gr)) F8] [Takes F (BigF pn (rqA P gq)) F9] : RoomIn F cn pn hn K P H g gr gq gs gC cC gQ cQ gH cH aW cW aR cR aP cP := ⟨Takes.mem, Takes.mem, Takes.mem, Takes.mem, Takes.mem, Takes.mem, Takes.mem, Takes.mem, Takes.mem, Takes.mem⟩
structure RoomOk (cn pn hn : Nat) (K : Nat → LX Win) (P : Nat → PartR) (H : List Win) (g gr gq gs : GA) (aW aR aP : Option Addr) : Prop where
  kL : ∀ j, j < cn → (K j).L.length = (K j).n
  pR : ∀ j, j < pn → (P j).R.length = (P j).rn
  pQ : ∀ j, j < pn → (P j).Q.length = (P j).qn
  hL : H.length = hn
  ng : NS g cn
  nr : NS gr pn
  nq : NS gq pn
  ns : NS gs 12
  nW : cn = 0 ∨ ∃ b, aW = some ⟨b, 0, none⟩
  nR : pn = 0 ∨ ∃ b, aR = some ⟨b, 0, none⟩
  nP : pn = 0 ∨ ∃ b, aP = some ⟨b, 0, none⟩
theorem own_n {w0 : World} {F : List Atom} {E sz m cap N : Nat} {a : Option Addr} {f : Nat → List Value} (hm : Own E sz (.slice a m cap) m (rowsN N f) ∈ F) (ha : ∃ b, a = some ⟨b, 0, none⟩) (hf : ∀ q, q < N → (f q).length = sz) : ∃ b o, a = some ⟨b, o, none⟩ ∧ ∀ k, k < N → RowAt w0 F b (o + k * sz) (f k) := by
  obtain ⟨b, rfl⟩ := ha
  exact ⟨b, 0, rfl, fun k hk => rn_row hm hf hk⟩
theorem row_one {w0 : World} {F : List Atom} {b o : Nat} {v : Value} (h : RowAt w0 F b o [v]) : CellAt w0 F b o v := h.cell (j := 0) rfl
section
variable {w0 : World} {F : List Atom} {cn pn hn : Nat} {K : Nat → LX Win} {P : Nat → PartR} {H : List Win} {g gr gq gs : GA} {gC cC gQ cQ gH cH : Nat} {aW : Option Addr} {cW : Nat} {aR : Option Addr} {cR : Nat} {aP : Option Addr} {cP : Nat}
variable (h : RoomIn F cn pn hn K P H g gr gq gs gC cC gQ cQ gH cH aW cW aR cR aP cP) (ok : RoomOk cn pn hn K P H g gr gq gs aW aR aP)
include h ok
theorem room_w (i : Nat) (hi : i < cn) : TR winRow w0 F (g i).1 ((K i).n + 12) (rm WMk (K i).L 12) := by
  obtain ⟨b, hb⟩ := ok.ng i hi
  refine ⟨by rw [rm_len, ok.kL i hi], .inr ⟨b, 0, hb, ?_⟩⟩
  exact big_row (n := (K i).n + 12) (cap := (g i).2) h.mkw hi (by rw [rwA, hb])
theorem room_r (i : Nat) (hi : i < pn) : TR spanRow w0 F (gr i).1 ((P i).rn + 12) (rm RMk (P i).R 12) := by
  obtain ⟨b, hb⟩ := ok.nr i hi
  refine ⟨by rw [rm_len, ok.pR i hi], .inr ⟨b, 0, hb, ?_⟩⟩
  exact big_row (n := (P i).rn + 12) (cap := (gr i).2) h.mkr hi (by rw [rrA, hb])
theorem room_q (i : Nat) (hi : i < pn) : TR prtRow w0 F (gq i).1 ((P i).qn + 12) (rm PMk (P i).Q 12) := by
  obtain ⟨b, hb⟩ := ok.nq i hi
  refine ⟨by rw [rm_len, ok.pQ i hi], .inr ⟨b, 0, hb, ?_⟩⟩
  exact big_row (n := (P i).qn + 12) (cap := (gq i).2) h.mkq hi (by rw [rqA, hb])
theorem room_s (i : Nat) (hi : i < 12) : TR winRow w0 F (gs i).1 1 [WMk i] := by
  obtain ⟨b, hb⟩ := ok.ns i hi
  refine ⟨rfl, .inr ⟨b, 0, hb, ?_⟩⟩
  have := big_row (w0 := w0) (n := 1) (cap := (gs i).2) (xs := winRow (WMk i)) h.ms hi (by rw [saA, hb])
  exact this
theorem room_C : LLR winRow w0 F (some ⟨gC, 0, none⟩) (cn + 12) (fC K g gs cn) := by
  refine ⟨fun i hi => ?_, .inr ⟨gC, 0, rfl, fun i hi => ?_⟩⟩
  · by_cases e : i < cn
    · have h1 := room_w (w0 := w0) h ok i e
      obtain ⟨b, hb⟩ := ok.ng i e
      rw [fC, if_pos e]
      refine ⟨ok.kL i e, .inr ⟨b, 0, hb, ?_⟩⟩
      rcases h1.2 with h2 | ⟨b2, o2, h2, h3⟩
      · omega
      · rw [hb] at h2
        injection h2 with h2
        injection h2 with h4 h5
        subst h4 h5
        exact tr_pre wLen h3
    · rw [fC, if_neg e]
      exact room_s h ok (i - cn) (by omega)
  · obtain ⟨b, o, h1, h2⟩ := own_n (w0 := w0) h.mc ⟨gC, rfl⟩ (sz := 1) (fun _ _ => rfl)
    injection h1 with h1
    injection h1 with h4 h5
    subst h4 h5
    exact row_one (h2 i hi)
theorem room_K : LLR winRow w0 F (some ⟨gC, 0, none⟩) cn (fun j => cp (K j) (g j)) := by
  have h1 := room_C (w0 := w0) h ok
  refine ⟨fun i hi => ?_, .inr ?_⟩
  · have := h1.1 i (by omega)
    rw [fC, if_pos hi] at this
    exact this
  · obtain ⟨b, o, h2, h3⟩ := h1.some (i := 0) (by omega)
    refine ⟨b, o, h2, fun i hi => ?_⟩
    have := h3 i (by omega)
    rw [fC, if_pos hi] at this
    exact this
theorem room_W : LLR winRow w0 F aW cn (fun j => ⟨(g j).1, (K j).n + 12, (g j).2, rm WMk (K j).L 12⟩) := by
  refine ⟨room_w h ok, ok.nW.imp id fun ha => ?_⟩
  obtain ⟨b, o, h1, h2⟩ := own_n (w0 := w0) h.mw ha (sz := 1) (fun _ _ => rfl)
  exact ⟨b, o, h1, fun i hi => row_one (h2 i hi)⟩
theorem room_R : LLR spanRow w0 F aR pn (fun j => ⟨(gr j).1, (P j).rn + 12, (gr j).2, rm RMk (P j).R 12⟩) := by
  refine ⟨room_r h ok, ok.nR.imp id fun ha => ?_⟩
  obtain ⟨b, o, h1, h2⟩ := own_n (w0 := w0) h.mr ha (sz := 1) (fun _ _ => rfl)
  exact ⟨b, o, h1, fun i hi => row_one (h2 i hi)⟩
theorem room_P : LLR prtRow w0 F aP pn (fun j => ⟨(gq j).1, (P j).qn + 12, (gq j).2, rm PMk (P j).Q 12⟩) := by
  refine ⟨room_q h ok, ok.nP.imp id fun ha => ?_⟩
  obtain ⟨b, o, h1, h2⟩ := own_n (w0 := w0) h.mp ha (sz := 1) (fun _ _ => rfl)
  exact ⟨b, o, h1, fun i hi => row_one (h2 i hi)⟩
theorem pre_r {α : Type} {f : α → List Value} {sz : Nat} (hf : ∀ x, (f x).length = sz) {mk : Nat → α} {a : Option Addr} {n : Nat} {L : List α} (hL : L.length = n) (h1 : TR f w0 F a (n + 12) (rm mk L 12)) : TR f w0 F a n L := by
  refine ⟨hL, ?_⟩
  rcases h1.2 with h2 | ⟨b, o, h2, h3⟩
  · omega
  · exact .inr ⟨b, o, h2, tr_pre hf h3⟩
theorem room_Q : PXR w0 F (some ⟨gQ, 0, none⟩) (pn + 12) (fQ P gr gq pn) := by
  refine ⟨fun i hi => ?_, .inr ⟨gQ, 0, rfl, fun i hi => ?_⟩⟩
  · by_cases e : i < pn
    · rw [fQ, if_pos e]
      exact ⟨pre_r h ok rLen (ok.pR i e) (room_r h ok i e), pre_r h ok pLen (ok.pQ i e) (room_q h ok i e)⟩
    · rw [fQ, if_neg e]
      exact ⟨⟨rfl, .inl rfl⟩, ⟨rfl, .inl rfl⟩⟩
  · obtain ⟨b, o, h1, h2⟩ := own_n (w0 := w0) h.mq ⟨gQ, rfl⟩ (sz := 8) (fun _ _ => rfl)
    injection h1 with h1
    injection h1 with h4 h5
    subst h4 h5
    exact h2 i hi
theorem room_PQ : PXR w0 F (some ⟨gQ, 0, none⟩) pn (fun j => cpp (P j) (gr j) (gq j)) := by
  have h1 := room_Q (w0 := w0) h ok
  refine ⟨fun i hi => ?_, .inr ?_⟩
  · have := h1.1 i (by omega)
    rw [fQ, if_pos hi] at this
    exact this
  · obtain ⟨b, o, h2, h3⟩ := h1.some (i := 0) (by omega)
    refine ⟨b, o, h2, fun i hi => ?_⟩
    have := h3 i (by omega)
    rw [fQ, if_pos hi] at this
    exact this
theorem room_HH : TR winRow w0 F (some ⟨gH, 0, none⟩) (hn + 12) (rm WMk H 12) := ⟨by rw [rm_len, ok.hL], .inr ⟨gH, 0, rfl, RowAt.own h.mh⟩⟩
theorem room_H : TR winRow w0 F (some ⟨gH, 0, none⟩) hn H := pre_r h ok wLen ok.hL (room_HH h ok)
end
/- What Copied makes. -/
section
variable {w0 : World} {F : List Atom} {cn pn : Nat} {K : Nat → LX Win} {P : Nat → PartR} {g gr gq : GA} {aC aQ aH : Option Addr} {cC cQ cH : Nat}
theorem copy_K (h1 : Own 38 1 (.slice aC cn cC) cn (cwL K g cn) ∈ F) (h2 : BigF cn (cwA K g) ∈ F) (hL : ∀ j, j < cn → (K j).L.length = (K j).n) (ha : cn = 0 ∨ ∃ b, aC = some ⟨b, 0, none⟩) (hz : NZ (fun j => (K j).n) g cn) : LLR winRow w0 F aC cn (fun j => cp (K j) (g j)) := by
  refine ⟨fun i hi => ⟨hL i hi, ?_⟩, ha.imp id fun ha => ?_⟩
  · exact big_rowo (cap := (g i).2) h2 hi rfl (hz i hi)
  · obtain ⟨b, o, h3, h4⟩ := own_n (w0 := w0) h1 ha (sz := 1) (fun _ _ => rfl)
    exact ⟨b, o, h3, fun i hi => row_one (h4 i hi)⟩
theorem copy_P (h1 : Own 69 8 (.slice aQ pn cQ) pn (cpL P gr gq pn) ∈ F) (h2 : BigF pn (crA P gr) ∈ F) (h3 : BigF pn (cqA P gq) ∈ F) (hR : ∀ j, j < pn → (P j).R.length = (P j).rn) (hQ : ∀ j, j < pn → (P j).Q.length = (P j).qn) (ha : pn = 0 ∨ ∃ b, aQ = some ⟨b, 0, none⟩) (hz : NZ (fun j => (P j).rn) gr pn) (hz2 : NZ (fun j => (P j).qn) gq pn) : PXR w0 F aQ pn (fun j => cpp (P j) (gr j) (gq j)) := by
  refine ⟨fun i hi => ⟨⟨hR i hi, ?_⟩, ⟨hQ i hi, ?_⟩⟩, ha.imp id fun ha => ?_⟩
  · exact big_rowo (cap := (gr i).2) h2 hi rfl (hz i hi)
  · exact big_rowo (cap := (gq i).2) h3 hi rfl (hz2 i hi)
  · exact own_n (w0 := w0) h1 ha (sz := 8) (fun _ _ => rfl)
theorem copy_H {hn : Nat} {H : List Win} (h1 : Own 82 3 (.slice aH hn cH) hn (rowsT winRow H) ∈ F) (hL : H.length = hn) (ha : hn = 0 ∨ ∃ b, aH = some ⟨b, 0, none⟩) : TR winRow w0 F aH hn H := ⟨hL, ha.imp id fun ⟨b, hb⟩ => ⟨b, 0, hb, by subst hb; exact RowAt.own h1⟩⟩
end
/- The first and the last of each list change their places. -/
def swp (L : List Win) : List Win := if 1 < L.length then (L.set (L.length - 1) (wat L 0)).set 0 (wat L (L.length - 1)) else L
theorem swp_len (L : List Win) : (swp L).length = L.length := by
  unfold swp
  split
  · simp
  · rfl
theorem swp_i64 {L : List Win} (h : I64W L) : I64W (swp L) := by
  unfold swp
  split
  · rename_i hl
    have h1 : wat L 0 ∈ L := by simp [wat, show 0 < L.length by omega]
    have h2 : wat L (L.length - 1) ∈ L := by simp [wat, show L.length - 1 < L.length by omega]
    intro x hx
    rcases List.mem_or_eq_of_mem_set hx with hx | rfl
    · rcases List.mem_or_eq_of_mem_set hx with hx | rfl
      · exact h x hx
      · exact h _ h1
    · exact h _ h2
  · exact h
def sw (K : Nat → LX Win) (i j : Nat) : LX Win := if j < i then ⟨(K j).a, (K j).n, (K j).c, swp (K j).L⟩ else K j
theorem sw_n (K : Nat → LX Win) (i j : Nat) : (sw K i j).n = (K j).n := by unfold sw; split <;> rfl
theorem sw_L (K : Nat → LX Win) {i j : Nat} (h : j < i) : (sw K i j).L = swp (K j).L := by rw [sw, if_pos h]
theorem sw_len {K : Nat → LX Win} {i j n : Nat} (h : (K j).L.length = n) : (sw K i j).L.length = n := by
  unfold sw; split
  · simp only [swp_len]; exact h
  · exact h
theorem sw_zero (K : Nat → LX Win) : sw K 0 = K := rfl
theorem fCL_sw (K : Nat → LX Win) (g gs : GA) (cn N i : Nat) : fCL K g gs cn N = fCL (sw K i) g gs cn N := rowsN_congr fun k _ => by
  unfold fC
  split
  · simp only [lxV, cp, sw_n]
  · rfl
theorem slL_sw (K : Nat → LX Win) (g : GA) (cn i : Nat) : slL (fun j => (K j).n) g cn = slL (fun j => (sw K i j).n) g cn := by simp only [sw_n]
theorem rowsT_set {α : Type} {f : α → List Value} {sz : Nat} (hf : ∀ x, (f x).length = sz) (hs : 0 < sz) {L : List α} {j : Nat} {x : α} (hj : j < L.length) : spl (0 + j * sz) (f x) (rowsT f L) = rowsT f (L.set j x) := by
  have hb : 0 + j * sz + (f x).length ≤ (rowsT f L).length := by
    rw [rowsT_len hf, hf, Nat.zero_add, ← Nat.succ_mul]
    exact Nat.mul_le_mul_right _ hj
  apply List.ext_getElem?
  intro i
  rw [spl_get hb, hf]
  have h1 : i / sz * sz + i % sz = i := Nat.div_add_mod' i sz
  have hm := Nat.mod_lt i hs
  by_cases hi : i / sz < L.length
  · have e1 : ∃ y, L[i / sz]? = some y := ⟨_, List.getElem?_eq_getElem hi⟩
    obtain ⟨y, hy⟩ := e1
    have hR := rowsT_get hf (L := L.set j x) (i := i / sz) (q := i % sz) (x := if i / sz = j then x else y) (by
      rw [List.getElem?_set]
      by_cases e : j = i / sz
      · subst e; simp [hi]
      · rw [if_neg e, hy, if_neg (fun h => e h.symm)]) hm
    rw [h1] at hR
    rw [hR]
    by_cases e : i / sz = j
    · rw [if_pos e]
      have : 0 + j * sz ≤ i ∧ i < 0 + j * sz + sz := by rw [← e]; omega
      rw [if_pos this]
      congr 1
      rw [← e]; omega
    · rw [if_neg e]
      have : ¬ (0 + j * sz ≤ i ∧ i < 0 + j * sz + sz) := by
        rintro ⟨a1, a2⟩
        apply e
        have b1 : j ≤ i / sz := (Nat.le_div_iff_mul_le hs).2 (by omega)
        have b2 : i / sz < j + 1 := Nat.div_lt_of_lt_mul (by rw [Nat.mul_comm, Nat.add_mul]; omega)
        omega
      rw [if_neg this]
      have hL := rowsT_get hf (L := L) hy hm
      rw [h1] at hL
      exact hL
  · have h2 : L.length * sz ≤ i := by
      have := (Nat.le_div_iff_mul_le hs).1 (Nat.le_of_not_lt hi)
      exact this
    have h3 : (j + 1) * sz ≤ L.length * sz := Nat.mul_le_mul_right _ hj
    rw [Nat.add_mul, Nat.one_mul] at h3
    rw [if_neg (by omega), List.getElem?_eq_none (by rw [rowsT_len hf]; exact h2), List.getElem?_eq_none (by rw [rowsT_len hf, List.length_set]; exact h2)]
theorem rm_set {α : Type} {mk : Nat → α} {L : List α} {k j : Nat} {x : α} (hj : j < L.length) : (rm mk L k).set j x = rm mk (L.set j x) k := by
  unfold rm
  rw [List.set_append_left _ _ hj]
theorem swp_at {L : List Win} {n : Nat} {x y : Win} (hL : L.length = n) (h1 : 1 < n) (hx : L[0]? = some x) (hy : L[n - 1]? = some y) : ((rm WMk L 12).set (n - 1) x).set 0 y = rm WMk (swp L) 12 := by
  rw [rm_set (by omega), rm_set (by simp; omega)]
  unfold swp
  rw [if_pos (by omega), hL]
  have e1 : wat L 0 = x := by simp [wat, List.getD_eq_getElem?_getD, hx]
  have e2 : wat L (n - 1) = y := by simp only [wat, List.getD_eq_getElem?_getD, hy]; rfl
  rw [e1, e2]
theorem swp_not {L : List Win} (h : ¬ 1 < L.length) : swp L = L := by unfold swp; rw [if_neg h]
theorem fC_ge {K : Nat → LX Win} {g gs : GA} {cn i : Nat} (h : cn ≤ i) : (fC K g gs cn i).n = 1 ∧ (fC K g gs cn i).L = [WMk (i - cn)] := by rw [fC, if_neg (by omega)]; exact ⟨rfl, rfl⟩
theorem fQ_ge {P : Nat → PartR} {g h : GA} {pn i : Nat} (hi : pn ≤ i) : fQ P g h pn i = sppart ((i : Int) - pn) := by rw [fQ, if_neg (by omega)]
theorem fC_cell {w0 : World} {F F1 : List Atom} {K : Nat → LX Win} {g gs : GA} {cn gC cC i n ci : Nat} {x : Option Addr} [t : Takes F (Own 38 1 (.slice (some ⟨gC, 0, none⟩) (cn + 12) cC) (cn + 12) (fCL K g gs cn (cn + 12))) F1] (hi : i < cn) (hk : (K i).n = n) (h1 : (g i).1 = x) (h2 : (g i).2 = ci) : CellAt w0 F gC (0 + i * 1) (.slice x n ci) := by
  have := row_one (rn_row (w0 := w0) (sz := 1) (Takes.mem (h := t)) (fun _ _ => rfl) (show i < cn + 12 by omega))
  rw [fC, if_pos hi] at this
  simp only [lxV, cp, hk, h1, h2] at this
  exact this
theorem own_win {w0 : World} {F : List Atom} {g E m cap i : Nat} {L : List Win} {x : Win} [h : OwnIn F g E 3 m cap (rowsT winRow L)] (hx : L[i]? = some x) : RowAt w0 F g (0 + i * 3) (winRow x) := tr_row wLen (RowAt.own h.mem) hx
theorem ns_nil {g : GA} {n i : Nat} {p : Prop} (h : NS g n) (hi : i < n) (hx : (g i).1 = none) : p := by
  obtain ⟨b, hb⟩ := h i hi
  rw [hx] at hb
  cases hb
set_option maxHeartbeats 8000000 in
theorem kept_law (w0 : World) (F : List Atom) (fr mj kr rr : Int) (ca pa ha : Option Addr) (cn cc pn pc hn hc : Nat) (K : Nat → LX Win) (P : Nat → PartR) (H : List Win) (hK : LLR winRow w0 F ca cn K) (hP : PXR w0 F pa pn P) (hH : TR winRow w0 F ha hn H) (nK : ∀ i, i < cn → (K i).a = none → (K i).c = 0) (nP : ∀ i, i < pn → ((P i).ra = none → (P i).rc = 0) ∧ ((P i).qa = none → (P i).qc = 0)) (nH : ha = none → hc = 0) (hcn : cn ≤ 140737488351232) (hpn : pn ≤ 140737488351232) (hhn : hn ≤ 140737488351232) (hkn : ∀ i, i < cn → (K i).n ≤ 140737488351232) (hpk : ∀ i, i < pn → (P i).rn ≤ 140737488351232 ∧ (P i).qn ≤ 140737488351232) (hI : ∀ i, i < cn → I64W (K i).L) (hmj : I64 mj) (core : Int) (q0 : -9223372036854775808 ≤ core) (q1 : core ≤ 9223372036854775807) (p : Int) (p0 : -9223372036854775808 ≤ p) (p1 : p ≤ 9223372036854775807) :
    CallK Try.prog 10 [.agg [Value.int .i64 fr, .int .i64 mj, .int .i64 kr, .int .i64 rr, .slice ca cn cc, .slice pa pn pc, .slice ha hn hc].toArray, .int .i64 core, .int .i64 p] w0 (F) (Gives w0 fun v F2 => v = .bool true ∧ F2 = F) := by
  refine c_enter Try.func10 rfl rfl rfl ?_
  refine g_seq ?_
  refine g_region ?_
  refine l_boxs rfl rfl ?_; intro b3
  refine l_assign rfl rfl ?_
  refine l_nil ?_
  refine g_seq ?_
  refine g_seq ?_
  refine g_region ?_
  refine l_lds rfl Try.isAgg27 Try.sizeOf27 rfl rfl ?_
  refine l_call rfl Try.call12 rfl (vast_x _ _ fr mj kr rr ca pa ha cn cc pn pc hn hc K P hK.ex hP.ex hcn hpn hhn hkn hpk) ?_; rintro _ _ ⟨x9, rfl, rfl, hx9⟩
  refine l_nil ?_
  refine g_cond rfl ?_ ?_
  · intro hbr
    have hb14 := hbr
    refine g_seq ?_
    refine g_region ?_
    refine l_assign rfl rfl ?_
    refine l_nil ?_
    refine g_ret Try.func10 rfl (.tmp rfl .nil) ?_
    exact Gives.mki ⟨rfl, rfl⟩
  intro hbr
  have hb14 := hbr
  refine g_skip ?_
  refine g_seq ?_
  refine g_region ?_
  obtain ⟨bcn, bpn, bhn, bkn, bpk⟩ := hx9 hbr
  refine l_lds rfl Try.isAgg27 Try.sizeOf27 rfl rfl ?_
  refine l_call rfl Try.call31 rfl (rroomed_ok _ _ fr mj kr rr ca pa ha cn cc pn pc hn hc K P H hK.ex hP.ex hH.ex nK nP nH bcn bpn bhn bkn bpk) ?_; rintro _ _ ⟨g, gr, gq, gs, gC, cC, gQ, cQ, gH, cH, aW, cW, aR, cR, aP, cP, rfl, ⟨hng, hnr, hnq, hns, hnW, hnR, hnP⟩, rfl⟩
  have hok : RoomOk cn pn hn K P H g gr gq gs aW aR aP := ⟨fun j hj => (hK.1 j hj).1, fun j hj => (hP.1 j hj).1.1, fun j hj => (hP.1 j hj).2.1, hH.1, hng, hnr, hnq, hns, hnW, hnR, hnP⟩
  refine l_move rfl rfl ?_
  refine l_extract rfl rfl rfl ?_
  refine l_extract rfl rfl rfl ?_
  refine l_allocs rfl Try.zeroValue27 ?_; intro b7
  refine l_allocs rfl Try.zeroValue60 ?_; intro b8
  refine l_sts Try.sizeOf27 rfl rfl rfl rfl rfl ?_
  refine l_sts Try.sizeOf60 rfl rfl rfl rfl rfl ?_
  refine l_nil ?_
  refine g_seq ?_
  refine g_seq ?_
  refine g_region ?_
  refine l_lds rfl Try.isAgg27 Try.sizeOf27 rfl rfl ?_
  refine l_lds rfl Try.isAgg27 Try.sizeOf27 rfl rfl ?_
  refine l_move rfl rfl ?_
  refine l_move rfl rfl ?_
  refine l_call rfl Try.call32 rfl (asked_ok _ _ fr mj kr rr (some ⟨gC, 0, none⟩) (some ⟨gQ, 0, none⟩) (some ⟨gH, 0, none⟩) ca pa ha cn cC pn cQ hn cH cc pc hc (mkKs cn fun j => cp (K j) (g j)) (mkKs cn K) (CR_of (room_K (roomIn (cn := cn) (pn := pn) (hn := hn) (K := K) (P := P) (H := H) (g := g) (gr := gr) (gq := gq) (gs := gs) (gC := gC) (cC := cC) (gQ := gQ) (cQ := cQ) (gH := gH) (cH := cH) (aW := aW) (cW := cW) (aR := aR) (cR := cR) (aP := aP) (cP := cP)) hok) hI bkn) (CR_of hK.ex hI bkn) (ke_of fun i hi => ⟨rfl, rfl⟩) bcn (by omega) hmj core q0 q1 p p0 p1) ?_; rintro _ _ ⟨rfl, rfl⟩
  refine l_not rfl rfl ?_
  refine l_move rfl rfl ?_
  refine l_guard_yes rfl rfl ?_
  refine l_lds rfl Try.isAgg27 Try.sizeOf27 rfl rfl ?_
  refine l_guard_yes rfl rfl ?_
  refine l_lds rfl Try.isAgg60 Try.sizeOf60 rfl rfl ?_
  refine l_guard_yes rfl rfl ?_
  refine l_lds rfl Try.isAgg27 Try.sizeOf27 rfl rfl ?_
  refine l_guard_yes rfl rfl ?_
  refine l_call rfl Try.call33 rfl (rkept_ok _ _ fr mj kr rr (some ⟨gC, 0, none⟩) (some ⟨gQ, 0, none⟩) (some ⟨gH, 0, none⟩) ca pa ha cn cC pn cQ hn cH cc pc hc (fun j => cp (K j) (g j)) K (fun j => cpp (P j) (gr j) (gq j)) P H (room_K (roomIn (cn := cn) (pn := pn) (hn := hn) (K := K) (P := P) (H := H) (g := g) (gr := gr) (gq := gq) (gs := gs) (gC := gC) (cC := cC) (gQ := gQ) (cQ := cQ) (gH := gH) (cH := cH) (aW := aW) (cW := cW) (aR := aR) (cR := cR) (aP := aP) (cP := cP)) hok) hK.ex (room_PQ (roomIn (cn := cn) (pn := pn) (hn := hn) (K := K) (P := P) (H := H) (g := g) (gr := gr) (gq := gq) (gs := gs) (gC := gC) (cC := cC) (gQ := gQ) (cQ := cQ) (gH := gH) (cH := cH) (aW := aW) (cW := cW) (aR := aR) (cR := cR) (aP := aP) (cP := cP)) hok) hP.ex (room_H (roomIn (cn := cn) (pn := pn) (hn := hn) (K := K) (P := P) (H := H) (g := g) (gr := gr) (gq := gq) (gs := gs) (gC := gC) (cC := cC) (gQ := gQ) (cQ := cQ) (gH := gH) (cH := cH) (aW := aW) (cW := cW) (aR := aR) (cR := cR) (aP := aP) (cP := cP)) hok) hH.ex (fun i hi => ⟨rfl, rfl⟩) (fun i hi => ⟨rfl, rfl, rfl, rfl, rfl, rfl, rfl, rfl, rfl, rfl⟩) (some ⟨gC, 0, none⟩) aW (some ⟨gQ, 0, none⟩) aR aP (some ⟨gH, 0, none⟩) cC cW cQ cR cP cH (fC K g gs cn) _ _ _ (fQ P gr gq pn) (room_W (roomIn (cn := cn) (pn := pn) (hn := hn) (K := K) (P := P) (H := H) (g := g) (gr := gr) (gq := gq) (gs := gs) (gC := gC) (cC := cC) (gQ := gQ) (cQ := cQ) (gH := gH) (cH := cH) (aW := aW) (cW := cW) (aR := aR) (cR := cR) (aP := aP) (cP := cP)) hok) (fun i hi => ⟨rfl, rfl⟩) (room_C (roomIn (cn := cn) (pn := pn) (hn := hn) (K := K) (P := P) (H := H) (g := g) (gr := gr) (gq := gq) (gs := gs) (gC := gC) (cC := cC) (gQ := gQ) (cQ := cQ) (gH := gH) (cH := cH) (aW := aW) (cW := cW) (aR := aR) (cR := cR) (aP := aP) (cP := cP)) hok) (fun i h1 h2 => fC_ge h1) (room_R (roomIn (cn := cn) (pn := pn) (hn := hn) (K := K) (P := P) (H := H) (g := g) (gr := gr) (gq := gq) (gs := gs) (gC := gC) (cC := cC) (gQ := gQ) (cQ := cQ) (gH := gH) (cH := cH) (aW := aW) (cW := cW) (aR := aR) (cR := cR) (aP := aP) (cP := cP)) hok) (fun i hi => ⟨rfl, rfl⟩) (room_P (roomIn (cn := cn) (pn := pn) (hn := hn) (K := K) (P := P) (H := H) (g := g) (gr := gr) (gq := gq) (gs := gs) (gC := gC) (cC := cC) (gQ := gQ) (cQ := cQ) (gH := gH) (cH := cH) (aW := aW) (cW := cW) (aR := aR) (cR := cR) (aP := aP) (cP := cP)) hok) (fun i hi => ⟨rfl, rfl⟩) (room_Q (roomIn (cn := cn) (pn := pn) (hn := hn) (K := K) (P := P) (H := H) (g := g) (gr := gr) (gq := gq) (gs := gs) (gC := gC) (cC := cC) (gQ := gQ) (cQ := cQ) (gH := gH) (cH := cH) (aW := aW) (cW := cW) (aR := aR) (cR := cR) (aP := aP) (cP := cP)) hok) (fun i h1 h2 => fQ_ge h1) (room_HH (roomIn (cn := cn) (pn := pn) (hn := hn) (K := K) (P := P) (H := H) (g := g) (gr := gr) (gq := gq) (gs := gs) (gC := gC) (cC := cC) (gQ := gQ) (cQ := cQ) (gH := gH) (cH := cH) (aW := aW) (cW := cW) (aR := aR) (cR := cR) (aP := aP) (cP := cP)) hok) bcn bpn bhn bkn bpk) ?_; rintro _ _ ⟨rfl, rfl⟩
  refine l_guard_yes rfl rfl ?_
  refine l_not rfl rfl ?_
  refine l_pick_f rfl rfl rfl ?_
  refine l_nil ?_
  first | refine g_cond_f rfl ?_ | refine g_cond_f (congrArg (fun b => some (Value.bool b)) (decide_eq_false hbr)) ?_
  refine g_skip ?_
  refine g_seq ?_
  refine g_seq ?_
  refine g_region ?_
  refine l_assign rfl rfl ?_
  refine l_nil ?_
  refine g_block ?_
  refine g_loopk (X := Int) [(1, _), (2, _), (6, _), (7, _), (8, _)] (.cons rfl (.cons rfl (.cons rfl (.cons rfl (.cons rfl (.nil)))))) (fun i => 0 ≤ i ∧ i ≤ cn) (fun i => (cn - i).toNat) (fun i => [(9, .int .i64 i)]) (fun i => Own 38 1 (.slice (some ⟨gC, 0, none⟩) (cn + 12) cC) (cn + 12) (fCL K g gs cn (cn + 12)) :: Own 69 8 (.slice (some ⟨gQ, 0, none⟩) (pn + 12) cQ) (pn + 12) (fQL P gr gq pn (pn + 12)) :: Own 82 3 (.slice (some ⟨gH, 0, none⟩) (hn + 12) cH) (hn + 12) (rowsT winRow (rm WMk H 12)) :: BigF 12 (saA gs) :: Own 38 1 (.slice aW cn cW) cn (slL (fun j => (K j).n) g cn) :: BigF cn (rwA (sw K i.toNat) g) :: Own 66 1 (.slice aR pn cR) pn (slL (fun j => (P j).rn) gr pn) :: Own 67 1 (.slice aP pn cP) pn (slL (fun j => (P j).qn) gq pn) :: BigF pn (rrA P gr) :: BigF pn (rqA P gq) :: Blk b3 (.cells [Value.int .i64 fr, .int .i64 mj, .int .i64 kr, .int .i64 rr, .slice ca cn cc, .slice pa pn pc, .slice ha hn hc].toArray 27 (0, 0)) :: Blk b7 (.cells [Value.int .i64 fr, .int .i64 mj, .int .i64 kr, .int .i64 rr, .slice (some ⟨gC, 0, none⟩) cn cC, .slice (some ⟨gQ, 0, none⟩) pn cQ, .slice (some ⟨gH, 0, none⟩) hn cH].toArray 27 (0, 0)) :: Blk b8 (.cells [Value.slice (some ⟨gC, 0, none⟩) (cn + 12) cC, .slice aW cn cW, .slice (some ⟨gQ, 0, none⟩) (pn + 12) cQ, .slice aR pn cR, .slice aP pn cP, .slice (some ⟨gH, 0, none⟩) (hn + 12) cH].toArray 60 (0, 0)) :: F) (0) (by omega) (.cons rfl .nil) (fun w hw => (SPI.holds hw : Holds w0 (Own 38 1 (.slice (some ⟨gC, 0, none⟩) (cn + 12) cC) (cn + 12) (fCL K g gs cn (cn + 12)) :: Own 69 8 (.slice (some ⟨gQ, 0, none⟩) (pn + 12) cQ) (pn + 12) (fQL P gr gq pn (pn + 12)) :: Own 82 3 (.slice (some ⟨gH, 0, none⟩) (hn + 12) cH) (hn + 12) (rowsT winRow (rm WMk H 12)) :: BigF 12 (saA gs) :: Own 38 1 (.slice aW cn cW) cn (slL (fun j => (K j).n) g cn) :: BigF cn (rwA K g) :: Own 66 1 (.slice aR pn cR) pn (slL (fun j => (P j).rn) gr pn) :: Own 67 1 (.slice aP pn cP) pn (slL (fun j => (P j).qn) gq pn) :: BigF pn (rrA P gr) :: BigF pn (rqA P gq) :: Blk b3 (.cells [Value.int .i64 fr, .int .i64 mj, .int .i64 kr, .int .i64 rr, .slice ca cn cc, .slice pa pn pc, .slice ha hn hc].toArray 27 (0, 0)) :: Blk b7 (.cells [Value.int .i64 fr, .int .i64 mj, .int .i64 kr, .int .i64 rr, .slice (some ⟨gC, 0, none⟩) cn cC, .slice (some ⟨gQ, 0, none⟩) pn cQ, .slice (some ⟨gH, 0, none⟩) hn cH].toArray 27 (0, 0)) :: Blk b8 (.cells [Value.slice (some ⟨gC, 0, none⟩) (cn + 12) cC, .slice aW cn cW, .slice (some ⟨gQ, 0, none⟩) (pn + 12) cQ, .slice aR pn cR, .slice aP pn cP, .slice (some ⟨gH, 0, none⟩) (hn + 12) cH].toArray 60 (0, 0)) :: F) w)) ?_
  rintro i ⟨i0, i1⟩ ih
  dsimp only [List.cons_append, List.nil_append] at ih ⊢
  refine g_seq ?_
  refine g_seq ?_
  refine g_region ?_
  refine l_move rfl rfl ?_
  refine l_fieldAddr rfl fa_27_4 rfl ?_
  refine l_ld rfl Try.isAgg23 rfl rfl ?_
  refine l_len rfl Try.underlying23 rfl ?_
  refine l_lss rfl rfl rfl ?_
  refine l_nil ?_
  refine g_cond rfl ?_ ?_
  · intro hbr
    have hbr := of_decide_eq_true hbr
    refine g_skip ?_
    refine g_seq ?_
    refine g_block ?_
    refine g_seq ?_
    refine g_region ?_
    obtain ⟨⟨a, n, c, L⟩, hk⟩ : ∃ X, K i.toNat = X := ⟨_, rfl⟩
    obtain ⟨gi, hgi⟩ := hng i.toNat (by omega)
    obtain ⟨ci, hci⟩ : ∃ c, (g i.toNat).2 = c := ⟨_, rfl⟩
    have hL : L.length = n := by have := (hK.1 i.toNat (by omega)).1; rwa [hk] at this
    have hn9 := bkn i.toNat (by omega)
    rw [hk] at hn9
    replace hn9 : n ≤ 2147483647 := hn9
    refine l_fieldAddr rfl fa_27_4 rfl ?_
    refine l_ld rfl Try.isAgg23 rfl rfl ?_
    refine l_move rfl rfl ?_
    refine l_ixs rfl Try.underlying23 Try.sizeOf38 rfl rfl (by omega) (by omega) ?_
    refine l_loadc rfl Try.isAgg38 rfl (v := .slice (some ⟨gi, 0, none⟩) n ci) (fC_cell (K := K) (g := g) (gs := gs) (cn := cn) (cC := cC) (by omega) (congrArg LX.n hk) hgi hci) ?_
    refine l_assign rfl rfl ?_
    refine l_nil ?_
    refine g_seq ?_
    refine g_region ?_
    refine l_move rfl rfl ?_
    refine l_len rfl Try.underlying38 rfl ?_
    refine l_gtr rfl rfl rfl ?_
    refine l_nil ?_
    refine g_cond rfl ?_ ?_
    · intro hbr
      have hbr := of_decide_eq_true hbr
      refine g_seq ?_
      refine g_region ?_
      refine l_take (BigF cn (rwA (sw K i.toNat) g)) ?_
      refine l_focus (A := (rwA (sw K i.toNat) g)) i.toNat (by omega) ?_
      rw [show rwA (sw K i.toNat) g i.toNat = Own 40 3 (.slice (some ⟨gi, 0, none⟩) (n + 12) ci) (n + 12) (rowsT winRow (rm WMk L 12)) by simp only [rwA, hgi, hci, sw, Nat.lt_irrefl, if_false, hk]]
      obtain ⟨x0, hx0⟩ : ∃ x, L[0]? = some x := ⟨_, List.getElem?_eq_getElem (by omega)⟩
      obtain ⟨xl, hxl⟩ : ∃ x, L[n - 1]? = some x := ⟨_, List.getElem?_eq_getElem (by omega)⟩
      have hzl : (rm WMk L 12)[((n : Int) - 1).toNat]? = some xl := by rw [show ((n : Int) - 1).toNat = n - 1 by omega, rm_lt (by omega)]; exact hxl
      have hz0 : (rm WMk L 12)[(0 : Int).toNat]? = some x0 := by rw [rm_lt (by rw [show (0 : Int).toNat = 0 from rfl]; omega)]; exact hx0
      refine l_move rfl rfl ?_
      refine l_move rfl rfl ?_
      refine l_len rfl Try.underlying38 rfl ?_
      first | refine l_sub_ rfl rfl rfl (w_i64 (by omega) (by omega)) ?_ | refine l_subw rfl rfl rfl ?_
      refine l_ixs rfl Try.underlying38 Try.sizeOf40 rfl rfl (by omega) (by omega) ?_
      refine l_loadr (l := winRow xl) rfl Try.isAgg40 Try.sizeOf40 rfl rfl (own_win hzl) ?_
      refine l_allocs rfl Try.zeroValue40 ?_; intro b11
      refine l_sts Try.sizeOf40 rfl rfl rfl rfl rfl ?_
      refine l_nil ?_
      refine g_seq ?_
      refine g_region ?_
      refine l_move rfl rfl ?_
      refine l_move rfl rfl ?_
      refine l_len rfl Try.underlying38 rfl ?_
      first | refine l_sub_ rfl rfl rfl (w_i64 (by omega) (by omega)) ?_ | refine l_subw rfl rfl rfl ?_
      refine l_move rfl rfl ?_
      refine l_ixs rfl Try.underlying38 Try.sizeOf40 rfl rfl (by omega) (by omega) ?_
      refine l_loadr (l := winRow x0) rfl Try.isAgg40 Try.sizeOf40 rfl rfl (own_win hz0) ?_
      refine l_ixs rfl Try.underlying38 Try.sizeOf40 rfl rfl (by omega) (by omega) ?_
      refine l_storeso 1 Try.sizeOf40 rfl rfl rfl rfl rfl (by rw [rowsT_len wLen]; simp only [rm_len, List.length_set, hL, winRow, List.length_cons, List.length_nil]; omega) rfl ?_
      rw [rowsT_set wLen (by decide) (by simp only [rm_len, List.length_set, hL]; omega)]
      refine l_nil ?_
      refine g_region ?_
      refine l_move rfl rfl ?_
      refine l_lds rfl Try.isAgg40 Try.sizeOf40 rfl rfl ?_
      refine l_ixs rfl Try.underlying38 Try.sizeOf40 rfl rfl (by omega) (by omega) ?_
      have hs9 := rowsT_set (f := winRow) (x := xl) (L := (rm WMk L 12).set ((n : Int) - 1).toNat x0) (j := (0 : Int).toNat) wLen (by decide) (by simp only [List.length_set, rm_len, hL]; show 0 < _; omega)
      simp only [winRow] at hs9
      refine l_storeso 1 Try.sizeOf40 rfl rfl rfl rfl rfl (by rw [rowsT_len wLen]; simp only [rm_len, List.length_set, hL, winRow, List.length_cons, List.length_nil]; omega) rfl ?_
      rw [hs9, show (0 : Int).toNat = 0 from rfl, show ((n : Int) - 1).toNat = n - 1 by omega, swp_at hL (by omega) hx0 hxl]
      refine l_take (BigBut cn i.toNat (rwA (sw K i.toNat) g)) ?_
      refine l_fronto gi ?_
      refine l_unfocus (C := (rwA (sw K (i.toNat + 1)) g)) (by simp only [rwA, hgi, hci, sw, Nat.lt_succ_self, if_true, hk]) (fun k hk9 hne => by simp only [rwA, sw, show (k < i.toNat + 1) = (k < i.toNat) from propext ⟨fun h => by omega, fun h => by omega⟩]) ?_
      refine l_nil ?_
      refine g_inBlock ?_
      refine g_region ?_
      refine l_move rfl rfl ?_
      first | refine l_add rfl rfl rfl (w_i64 (by omega) (by omega)) ?_ | refine l_addw rfl rfl rfl ?_
      refine l_assign rfl rfl ?_
      refine l_nil ?_
      rw [show i.toNat + 1 = (i + 1).toNat by omega]
      exact g_againi (ih (i + 1) (by omega) (by omega)) (.cons rfl (.cons rfl (.cons rfl (.cons rfl (.cons rfl (.cons rfl (.nil)))))))
    intro hbr
    have hbr := of_decide_eq_false hbr
    refine g_skip ?_
    refine g_inBlock ?_
    refine g_region ?_
    refine l_take (BigF cn (rwA (sw K i.toNat) g)) ?_
    refine gl_heap (fun w hw => BigF.congr (B := (rwA (sw K (i.toNat + 1)) g)) hw (fun k hk9 => by
      by_cases e : k = i.toNat
      · subst e; simp only [rwA, sw, Nat.lt_irrefl, if_false, Nat.lt_succ_self, if_true, hk, swp_not (show ¬ 1 < L.length by omega)]
      · simp only [rwA, sw, show (k < i.toNat + 1) = (k < i.toNat) from propext ⟨fun h => by omega, fun h => by omega⟩])) ?_
    refine l_move rfl rfl ?_
    first | refine l_add rfl rfl rfl (w_i64 (by omega) (by omega)) ?_ | refine l_addw rfl rfl rfl ?_
    refine l_assign rfl rfl ?_
    refine l_nil ?_
    rw [show i.toNat + 1 = (i + 1).toNat by omega]
    exact g_againi (ih (i + 1) (by omega) (by omega)) (.cons rfl (.cons rfl (.cons rfl (.cons rfl (.cons rfl (.cons rfl (.nil)))))))
  intro hbr
  have hbr := of_decide_eq_false hbr
  refine g_exit rfl ?_
  obtain rfl : i = (cn : Int) := by omega
  rw [Int.toNat_natCast, fCL_sw K g gs cn (cn + 12) cn, slL_sw K g cn cn]
  have hokz : RoomOk cn pn hn (sw K cn) P H g gr gq gs aW aR aP := ⟨fun j hj => (sw_len (hok.kL j hj)).trans (sw_n K cn j).symm, hok.pR, hok.pQ, hok.hL, hng, hnr, hnq, hns, hnW, hnR, hnP⟩
  have bkz : ∀ i, i < cn → (sw K cn i).n ≤ 2147483647 := fun i hi => by rw [sw_n]; exact bkn i hi
  have hIz : ∀ i, i < cn → I64W (sw K cn i).L := fun i hi => by rw [sw_L K hi]; exact swp_i64 (hI i hi)
  refine g_seq ?_
  refine g_region ?_
  refine l_lds rfl Try.isAgg27 Try.sizeOf27 rfl rfl ?_
  refine l_call rfl Try.call34 rfl (rcopied_ok _ _ fr mj kr rr (some ⟨gC, 0, none⟩) (some ⟨gQ, 0, none⟩) (some ⟨gH, 0, none⟩) cn cC pn cQ hn cH (fun j => cp (sw K cn j) (g j)) (fun j => cpp (P j) (gr j) (gq j)) H (room_K (roomIn (cn := cn) (pn := pn) (hn := hn) (K := (sw K cn)) (P := P) (H := H) (g := g) (gr := gr) (gq := gq) (gs := gs) (gC := gC) (cC := cC) (gQ := gQ) (cQ := cQ) (gH := gH) (cH := cH) (aW := aW) (cW := cW) (aR := aR) (cR := cR) (aP := aP) (cP := cP)) hokz) (room_PQ (roomIn (cn := cn) (pn := pn) (hn := hn) (K := (sw K cn)) (P := P) (H := H) (g := g) (gr := gr) (gq := gq) (gs := gs) (gC := gC) (cC := cC) (gQ := gQ) (cQ := cQ) (gH := gH) (cH := cH) (aW := aW) (cW := cW) (aR := aR) (cR := cR) (aP := aP) (cP := cP)) hokz) (room_H (roomIn (cn := cn) (pn := pn) (hn := hn) (K := (sw K cn)) (P := P) (H := H) (g := g) (gr := gr) (gq := gq) (gs := gs) (gC := gC) (cC := cC) (gQ := gQ) (cQ := cQ) (gH := gH) (cH := cH) (aW := aW) (cW := cW) (aR := aR) (cR := cR) (aP := aP) (cP := cP)) hokz) (fun i hi h => ns_nil hng hi h) (fun i hi => ⟨fun h => ns_nil hnr hi h, fun h => ns_nil hnq hi h⟩) (fun h => by cases h) bcn bpn bhn bkz bpk) ?_; rintro _ _ ⟨g2, gr2, gq2, aC, cC2, aQ, cQ2, aH, cH2, rfl, ⟨haC, haQ, haH, hz1, hz2, hz3⟩, rfl⟩
  refine l_allocs rfl Try.zeroValue27 ?_; intro b12
  refine l_sts Try.sizeOf27 rfl rfl rfl rfl rfl ?_
  refine l_nil ?_
  refine g_seq ?_
  refine g_region ?_
  refine l_lds rfl Try.isAgg27 Try.sizeOf27 rfl rfl ?_
  refine l_lds rfl Try.isAgg27 Try.sizeOf27 rfl rfl ?_
  refine l_move rfl rfl ?_
  refine l_move rfl rfl ?_
  refine l_call rfl Try.call32 rfl (asked_ok _ _ fr mj kr rr (some ⟨gC, 0, none⟩) (some ⟨gQ, 0, none⟩) (some ⟨gH, 0, none⟩) aC aQ aH cn cC pn cQ hn cH cC2 cQ2 cH2 (mkKs cn (fun j => cp (sw K cn j) (g j))) (mkKs cn (fun j => cp (cp (sw K cn j) (g j)) (g2 j))) (CR_of (room_K (roomIn (cn := cn) (pn := pn) (hn := hn) (K := (sw K cn)) (P := P) (H := H) (g := g) (gr := gr) (gq := gq) (gs := gs) (gC := gC) (cC := cC) (gQ := gQ) (cQ := cQ) (gH := gH) (cH := cH) (aW := aW) (cW := cW) (aR := aR) (cR := cR) (aP := aP) (cP := cP)) hokz) hIz bkz) (CR_of (copy_K (K := (fun j => cp (sw K cn j) (g j))) (g := g2) (cC := cC2) Takes.mem Takes.mem hokz.kL haC hz1) hIz bkz) (ke_of fun i hi => ⟨rfl, rfl⟩) bcn (by omega) hmj core q0 q1 p p0 p1) ?_; rintro _ _ ⟨rfl, rfl⟩
  refine l_move rfl rfl ?_
  refine l_guard_yes rfl rfl ?_
  refine l_lds rfl Try.isAgg27 Try.sizeOf27 rfl rfl ?_
  refine l_guard_yes rfl rfl ?_
  refine l_lds rfl Try.isAgg60 Try.sizeOf60 rfl rfl ?_
  refine l_guard_yes rfl rfl ?_
  refine l_lds rfl Try.isAgg27 Try.sizeOf27 rfl rfl ?_
  refine l_guard_yes rfl rfl ?_
  refine l_call rfl Try.call33 rfl (rkept_ok _ _ fr mj kr rr (some ⟨gC, 0, none⟩) (some ⟨gQ, 0, none⟩) (some ⟨gH, 0, none⟩) aC aQ aH cn cC pn cQ hn cH cC2 cQ2 cH2 (fun j => cp ((sw K cn) j) (g j)) (fun j => cp (cp (sw K cn j) (g j)) (g2 j)) (fun j => cpp (P j) (gr j) (gq j)) (fun j => cpp (cpp (P j) (gr j) (gq j)) (gr2 j) (gq2 j)) H (room_K (roomIn (cn := cn) (pn := pn) (hn := hn) (K := (sw K cn)) (P := P) (H := H) (g := g) (gr := gr) (gq := gq) (gs := gs) (gC := gC) (cC := cC) (gQ := gQ) (cQ := cQ) (gH := gH) (cH := cH) (aW := aW) (cW := cW) (aR := aR) (cR := cR) (aP := aP) (cP := cP)) hokz) (copy_K (K := (fun j => cp (sw K cn j) (g j))) (g := g2) (cC := cC2) Takes.mem Takes.mem hokz.kL haC hz1) (room_PQ (roomIn (cn := cn) (pn := pn) (hn := hn) (K := (sw K cn)) (P := P) (H := H) (g := g) (gr := gr) (gq := gq) (gs := gs) (gC := gC) (cC := cC) (gQ := gQ) (cQ := cQ) (gH := gH) (cH := cH) (aW := aW) (cW := cW) (aR := aR) (cR := cR) (aP := aP) (cP := cP)) hokz) (copy_P (P := (fun j => cpp (P j) (gr j) (gq j))) (gr := gr2) (gq := gq2) (cQ := cQ2) Takes.mem Takes.mem Takes.mem hokz.pR hokz.pQ haQ hz2 hz3) (room_H (roomIn (cn := cn) (pn := pn) (hn := hn) (K := (sw K cn)) (P := P) (H := H) (g := g) (gr := gr) (gq := gq) (gs := gs) (gC := gC) (cC := cC) (gQ := gQ) (cQ := cQ) (gH := gH) (cH := cH) (aW := aW) (cW := cW) (aR := aR) (cR := cR) (aP := aP) (cP := cP)) hokz) (copy_H (cH := cH2) Takes.mem hokz.hL haH) (fun i hi => ⟨rfl, rfl⟩) (fun i hi => ⟨rfl, rfl, rfl, rfl, rfl, rfl, rfl, rfl, rfl, rfl⟩) (some ⟨gC, 0, none⟩) aW (some ⟨gQ, 0, none⟩) aR aP (some ⟨gH, 0, none⟩) cC cW cQ cR cP cH (fC (sw K cn) g gs cn) _ _ _ (fQ P gr gq pn) (room_W (roomIn (cn := cn) (pn := pn) (hn := hn) (K := (sw K cn)) (P := P) (H := H) (g := g) (gr := gr) (gq := gq) (gs := gs) (gC := gC) (cC := cC) (gQ := gQ) (cQ := cQ) (gH := gH) (cH := cH) (aW := aW) (cW := cW) (aR := aR) (cR := cR) (aP := aP) (cP := cP)) hokz) (fun i hi => ⟨rfl, rfl⟩) (room_C (roomIn (cn := cn) (pn := pn) (hn := hn) (K := (sw K cn)) (P := P) (H := H) (g := g) (gr := gr) (gq := gq) (gs := gs) (gC := gC) (cC := cC) (gQ := gQ) (cQ := cQ) (gH := gH) (cH := cH) (aW := aW) (cW := cW) (aR := aR) (cR := cR) (aP := aP) (cP := cP)) hokz) (fun i h1 h2 => fC_ge h1) (room_R (roomIn (cn := cn) (pn := pn) (hn := hn) (K := (sw K cn)) (P := P) (H := H) (g := g) (gr := gr) (gq := gq) (gs := gs) (gC := gC) (cC := cC) (gQ := gQ) (cQ := cQ) (gH := gH) (cH := cH) (aW := aW) (cW := cW) (aR := aR) (cR := cR) (aP := aP) (cP := cP)) hokz) (fun i hi => ⟨rfl, rfl⟩) (room_P (roomIn (cn := cn) (pn := pn) (hn := hn) (K := (sw K cn)) (P := P) (H := H) (g := g) (gr := gr) (gq := gq) (gs := gs) (gC := gC) (cC := cC) (gQ := gQ) (cQ := cQ) (gH := gH) (cH := cH) (aW := aW) (cW := cW) (aR := aR) (cR := cR) (aP := aP) (cP := cP)) hokz) (fun i hi => ⟨rfl, rfl⟩) (room_Q (roomIn (cn := cn) (pn := pn) (hn := hn) (K := (sw K cn)) (P := P) (H := H) (g := g) (gr := gr) (gq := gq) (gs := gs) (gC := gC) (cC := cC) (gQ := gQ) (cQ := cQ) (gH := gH) (cH := cH) (aW := aW) (cW := cW) (aR := aR) (cR := cR) (aP := aP) (cP := cP)) hokz) (fun i h1 h2 => fQ_ge h1) (room_HH (roomIn (cn := cn) (pn := pn) (hn := hn) (K := (sw K cn)) (P := P) (H := H) (g := g) (gr := gr) (gq := gq) (gs := gs) (gC := gC) (cC := cC) (gQ := gQ) (cQ := cQ) (gH := gH) (cH := cH) (aW := aW) (cW := cW) (aR := aR) (cR := cR) (aP := aP) (cP := cP)) hokz) bcn bpn bhn bkz bpk) ?_; rintro _ _ ⟨rfl, rfl⟩
  refine l_pick_t rfl rfl rfl ?_
  refine l_move rfl rfl ?_
  refine l_guard_yes rfl rfl ?_
  refine l_call rfl Try.call11 rfl (awake_ok _ _) ?_; rintro _ _ ⟨rfl, rfl⟩
  refine l_pick_t rfl rfl rfl ?_
  refine l_assign rfl rfl ?_
  refine l_nil ?_
  refine g_ret Try.func10 rfl (.tmp rfl .nil) ?_
  exact Gives.mki ⟨rfl, rfl⟩
theorem kept_all (W : World) (l : List Value) (hv : Viz Try.prog W 27 l) (core : Int) (q : -9223372036854775808 ≤ core ∧ core ≤ 9223372036854775807) (p : Int) (q2 : -9223372036854775808 ≤ p ∧ p ≤ 9223372036854775807) : CallK Try.prog 10 [.agg l.toArray, .int .i64 core, .int .i64 p] W [Old W] (Gives W fun v F2 => v = .bool true ∧ F2 = [Old W]) := by
  obtain ⟨fr, mj, kr, rr, ca, cn, cc, pa, pn, pc, ha, hn, hc, K, P, H, rfl, hmj, c⟩ := viz_cfgx hv
  exact kept_law W [Old W] fr mj kr rr ca pa ha cn cc pn pc hn hc K P H c.hK c.hP c.hH c.nK c.nP c.nH c.hcn c.hpn c.hhn c.hkn c.hpk c.i64 hmj core q.1 q.2 p q2.1 q2.2
end Go.Proofs.Ytfccfjgnoeocnaa.Fw
