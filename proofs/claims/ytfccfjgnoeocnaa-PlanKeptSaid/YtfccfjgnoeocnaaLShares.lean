import Derived.Test.YtfccfjgnoeocnaaRGap
import Derived.Test.YtfccfjgnoeocnaaAwake
import Derived.Test.YtfccfjgnoeocnaaFwFlo
namespace Go.Proofs.Ytfccfjgnoeocnaa.Fw
open Go Go.Proofs
set_option linter.unusedVariables false
set_option linter.unusedSimpArgs false
set_option maxRecDepth 10000

def ShareSays (Ks : List CoreR) (cn pn : Nat) (mj p : Int) (r x : Nat) (e : Int) : Prop := (e = 0 → (0 ≤ p ∧ p < pn) ∧ Full Ks cn mj ∧ x = r) ∧ (e ≠ 0 → x = 0 ∧ ((e = 142 ∧ ¬ (0 ≤ p ∧ p < pn)) ∨ (e = 1 ∧ (0 ≤ p ∧ p < pn) ∧ ¬ Full Ks cn mj)))
theorem share_one {Ks : List CoreR} {cn pn : Nat} {mj p : Int} {r x y : Nat} {e f : Int} (h1 : ShareSays Ks cn pn mj p r x e) (h2 : ShareSays Ks cn pn mj p r y f) : x = y ∧ e = f := by
  unfold ShareSays at h1 h2
  by_cases he : e = 0
  · obtain ⟨a1, a2, a3⟩ := h1.1 he
    by_cases hf : f = 0
    · obtain ⟨b1, b2, b3⟩ := h2.1 hf
      exact ⟨by rw [a3, b3], by omega⟩
    · rcases (h2.2 hf).2 with ⟨_, b⟩ | ⟨_, _, b⟩
      · exact absurd a1 b
      · exact absurd a2 b
  · by_cases hf : f = 0
    · obtain ⟨a1, a2, a3⟩ := h2.1 hf
      rcases (h1.2 he).2 with ⟨_, b⟩ | ⟨_, _, b⟩
      · exact absurd a1 b
      · exact absurd a2 b
    · obtain ⟨a1, a2⟩ := h1.2 he
      obtain ⟨b1, b2⟩ := h2.2 hf
      refine ⟨by omega, ?_⟩
      rcases a2 with ⟨a2, a3⟩ | ⟨a2, a3, _⟩ <;> rcases b2 with ⟨b2, b3⟩ | ⟨b2, b3, _⟩
      · omega
      · exact absurd b3 a3
      · exact absurd a3 b3
      · omega
theorem share_ord {Ks : List CoreR} {cn pn : Nat} {mj p : Int} {r x : Nat} {e : Int} (hr : FloatKind.f64.format.order r r = some .eq) (h : ShareSays Ks cn pn mj p r x e) : FloatKind.f64.format.order x x = some .eq := by
  by_cases he : e = 0
  · rw [(h.1 he).2.2]; exact hr
  · rw [(h.2 he).1]; decide
theorem share_r {w0 : World} {F : List Atom} {ca : Option Addr} {cn : Nat} {Ks : List CoreR} {mj p : Int} (hC : CR w0 F ca cn Ks) (hcn2 : cn ≤ 2147483647) : ∃ r, (Full Ks cn mj → floatBits .quo .f64 (floatOfInt .f64 (usL Ks (spC p Ks cn) (spC p Ks cn).length)) (floatOfInt .f64 mj) = some r) ∧ FloatKind.f64.format.order r r = some .eq := by
  by_cases h : Full Ks cn mj
  · have h1 := usT_bound (p := p) h.1 hC.ns
    have h2 := full_bd h
    obtain ⟨r, h3, h4⟩ := Flo.quo_ok (a := usT Ks (spC p Ks cn)) (b := mj) (by omega) (by omega) (by omega) (by omega)
    exact ⟨r, fun _ => h3, h4⟩
  · exact ⟨0, fun h2 => absurd h2 h, by decide⟩
theorem rshare_any (w0 : World) (F : List Atom) (fr mj kr rm : Int) (ca pa ha : Option Addr) (cn cc pn pc hn hc : Nat) (Ks : List CoreR) (hCR : CR w0 F ca cn Ks) (hcn : cn ≤ 9223372036854775807) (hpn : pn ≤ 9223372036854775807) (hmj : I64 mj) (p : Int) (p0 : -9223372036854775808 ≤ p) (p1 : p ≤ 9223372036854775807) (hcn2 : cn ≤ 2147483647) (r : Nat) (hq : Full Ks cn mj → floatBits .quo .f64 (floatOfInt .f64 (usL Ks (spC p Ks cn) (spC p Ks cn).length)) (floatOfInt .f64 mj) = some r) :
    CallK Try.prog 28 [.agg [Value.int .i64 fr, .int .i64 mj, .int .i64 kr, .int .i64 rm, .slice ca cn cc, .slice pa pn pc, .slice ha hn hc].toArray, .int .i64 p] w0 (F) (Gives w0 fun v F2 => ∃ x e, v = .tuple #[.float .f64 x, .int .i64 e] ∧ F2 = F ∧ ShareSays Ks cn pn mj p r x e) := by
  have hCl := hCR.1
  refine c_enter Try.func28 rfl rfl rfl ?_
  refine g_seq ?_
  refine g_region ?_
  refine l_boxs rfl rfl ?_; intro b2
  refine l_assign rfl rfl ?_
  refine l_assign rfl rfl ?_
  refine l_nil ?_
  refine g_seq ?_
  refine g_region ?_
  refine l_lds rfl Try.isAgg27 Try.sizeOf27 rfl rfl ?_
  refine l_move rfl rfl ?_
  refine l_call rfl Try.call44 rfl (rusable_any _ _ fr mj kr rm ca pa ha cn cc pn pc hn hc Ks hCR.ex hcn hpn hmj p p0 p1 hcn2) ?_; rintro _ _ ⟨x, e, rfl, rfl, hgo, hno⟩
  refine l_move rfl rfl ?_
  refine l_extract rfl rfl rfl ?_
  refine l_extract rfl rfl rfl ?_
  refine l_assign rfl rfl ?_
  refine l_assign rfl rfl ?_
  refine l_nil ?_
  refine g_seq ?_
  refine g_seq ?_
  refine g_region ?_
  refine l_move rfl rfl ?_
  refine l_neq rfl rfl rfl ?_
  refine l_nil ?_
  refine g_cond rfl ?_ ?_
  · intro hbr
    have hbr := of_decide_eq_true hbr
    refine g_seq ?_
    refine g_region ?_
    refine l_move rfl rfl ?_
    refine l_assign rfl rfl ?_
    refine l_assign rfl rfl ?_
    refine l_nil ?_
    refine g_ret Try.func28 rfl (.tmp rfl (.tmp rfl .nil)) ?_
    (first | exact Gives.mki ⟨_, 0, rfl, rfl, fun _ => ⟨hgi, hfu, rfl⟩, fun h => absurd rfl h⟩ | exact Gives.mki ⟨0, e, rfl, rfl, fun h => absurd h hbr, fun h => ⟨rfl, (hno h).2⟩⟩)
  intro hbr
  have hbr := of_decide_eq_false hbr
  refine g_skip ?_
  refine g_seq ?_
  refine g_region ?_
  obtain ⟨hgi, hfu, rfl⟩ := hgo (Classical.not_not.1 hbr)
  replace hq := hq hfu
  refine l_move rfl rfl ?_
  refine l_itof rfl Try.underlying3 Try.underlying53 rfl ?_
  refine l_fieldAddr rfl fa_27_1 rfl ?_
  first | refine l_ld rfl Try.isAgg3 rfl rfl ?_ | refine l_ldw rfl Try.isAgg3 rfl (by omega) ?_
  refine l_itof rfl Try.underlying3 Try.underlying53 rfl ?_
  refine l_fquo rfl rfl rfl hq ?_
  refine l_assign rfl rfl ?_
  refine l_assign rfl rfl ?_
  refine l_nil ?_
  refine g_ret Try.func28 rfl (.tmp rfl (.tmp rfl .nil)) ?_
  (first | exact Gives.mki ⟨_, 0, rfl, rfl, fun _ => ⟨hgi, hfu, rfl⟩, fun h => absurd rfl h⟩ | exact Gives.mki ⟨0, e, rfl, rfl, fun h => absurd h hbr, fun h => ⟨rfl, (hno h).2⟩⟩)
theorem shares_law (w0 : World) (F : List Atom) (fr mj kr rm : Int) (ca pa ha : Option Addr) (cn cc pn pc hn hc : Nat) (Ks : List CoreR) (hCR : CR w0 F ca cn Ks) (hcn : cn ≤ 9223372036854775807) (hpn : pn ≤ 9223372036854775807) (hmj : I64 mj) (p : Int) (p0 : -9223372036854775808 ≤ p) (p1 : p ≤ 9223372036854775807) (rows : List (List Value)) (hPR : PR w0 F pa pn rows) (hfit : Fit cn pn hn Ks rows) (r : Nat) (hr : FloatKind.f64.format.order r r = some .eq) (hq : Full Ks cn mj → floatBits .quo .f64 (floatOfInt .f64 (usL Ks (spC p Ks cn) (spC p Ks cn).length)) (floatOfInt .f64 mj) = some r) :
    CallK Try.prog 9 [.agg [Value.int .i64 fr, .int .i64 mj, .int .i64 kr, .int .i64 rm, .slice ca cn cc, .slice pa pn pc, .slice ha hn hc].toArray, .int .i64 p] w0 (F) (Gives w0 fun v F2 => v = .bool true ∧ F2 = F) := by
  have hCl := hCR.1
  refine c_enter Try.func9 rfl rfl rfl ?_
  refine g_seq ?_
  refine g_region ?_
  refine l_boxs rfl rfl ?_; intro b2
  refine l_assign rfl rfl ?_
  refine l_nil ?_
  refine g_seq ?_
  refine g_seq ?_
  refine g_region ?_
  refine l_lds rfl Try.isAgg27 Try.sizeOf27 rfl rfl ?_
  refine l_call rfl Try.call12 rfl (vast_fit _ _ fr mj kr rm ca pa ha cn cc pn pc hn hc Ks hCR.ex hcn hpn hmj rows hPR.ex hfit) ?_; rintro _ _ ⟨x9, rfl, rfl, hx9⟩
  refine l_nil ?_
  refine g_cond rfl ?_ ?_
  · intro hbr
    have hb12 := hbr
    refine g_seq ?_
    refine g_region ?_
    refine l_assign rfl rfl ?_
    refine l_nil ?_
    refine g_ret Try.func9 rfl (.tmp rfl .nil) ?_
    exact Gives.mki ⟨rfl, rfl⟩
  intro hbr
  have hb12 := hbr
  refine g_skip ?_
  refine g_seq ?_
  refine g_region ?_
  have hcn2 := hx9 hbr
  refine l_lds rfl Try.isAgg27 Try.sizeOf27 rfl rfl ?_
  refine l_move rfl rfl ?_
  refine l_call rfl Try.call27 rfl (share_any _ _ fr mj kr rm ca pa ha cn cc pn pc hn hc Ks hCR.ex hcn hpn hmj p p0 p1 hcn2 r hq) ?_; rintro _ _ ⟨x1, e1, rfl, rfl, hs1, hs2⟩
  refine l_move rfl rfl ?_
  refine l_extract rfl rfl rfl ?_
  refine l_extract rfl rfl rfl ?_
  refine l_assign rfl rfl ?_
  refine l_assign rfl rfl ?_
  refine l_nil ?_
  refine g_seq ?_
  refine g_region ?_
  refine l_lds rfl Try.isAgg27 Try.sizeOf27 rfl rfl ?_
  refine l_move rfl rfl ?_
  refine l_call rfl Try.call28 rfl (rshare_any _ _ fr mj kr rm ca pa ha cn cc pn pc hn hc Ks hCR.ex hcn hpn hmj p p0 p1 hcn2 r hq) ?_; rintro _ _ ⟨x2, e2, rfl, rfl, hs3⟩
  have hord := share_ord hr hs3
  obtain ⟨rfl, rfl⟩ := share_one ⟨hs1, hs2⟩ hs3
  refine l_move rfl rfl ?_
  refine l_extract rfl rfl rfl ?_
  refine l_extract rfl rfl rfl ?_
  refine l_assign rfl rfl ?_
  refine l_assign rfl rfl ?_
  refine l_nil ?_
  refine g_seq ?_
  refine g_seq ?_
  refine g_region ?_
  refine l_move rfl rfl ?_
  refine l_move rfl rfl ?_
  refine l_fneqf rfl rfl rfl hord ?_
  refine l_move rfl rfl ?_
  refine l_guard_yes rfl rfl ?_
  refine l_move rfl rfl ?_
  refine l_guard_yes rfl rfl ?_
  refine l_move rfl rfl ?_
  refine l_guard_yes rfl rfl ?_
  refine l_neq rfl rfl rfl ?_
  refine l_pick_f rfl rfl rfl ?_
  refine l_nil ?_
  refine g_cond rfl ?_ ?_
  · intro hbr
    have hbr := of_decide_eq_true hbr
    (exfalso; omega)
  intro hbr
  have hbr := of_decide_eq_false hbr
  refine g_skip ?_
  refine g_seq ?_
  refine g_region ?_
  refine l_lds rfl Try.isAgg27 Try.sizeOf27 rfl rfl ?_
  refine l_move rfl rfl ?_
  refine l_call rfl Try.call29 rfl (gap_any _ _ fr mj kr rm ca pa ha cn cc pn pc hn hc Ks hCR.ex hcn hpn hmj p p0 p1 hcn2) ?_; rintro _ _ ⟨y1, f1, rfl, rfl, hg1⟩
  refine l_move rfl rfl ?_
  refine l_extract rfl rfl rfl ?_
  refine l_extract rfl rfl rfl ?_
  refine l_assign rfl rfl ?_
  refine l_assign rfl rfl ?_
  refine l_nil ?_
  refine g_seq ?_
  refine g_region ?_
  refine l_lds rfl Try.isAgg27 Try.sizeOf27 rfl rfl ?_
  refine l_move rfl rfl ?_
  refine l_call rfl Try.call30 rfl (rgap_any _ _ fr mj kr rm ca pa ha cn cc pn pc hn hc Ks hCR.ex hcn hpn hmj p p0 p1 hcn2) ?_; rintro _ _ ⟨y2, f2, rfl, rfl, hg2⟩
  obtain ⟨rfl, rfl⟩ := gap_one hg1 hg2
  refine l_move rfl rfl ?_
  refine l_extract rfl rfl rfl ?_
  refine l_extract rfl rfl rfl ?_
  refine l_assign rfl rfl ?_
  refine l_assign rfl rfl ?_
  refine l_nil ?_
  refine g_seq ?_
  refine g_region ?_
  refine l_move rfl rfl ?_
  refine l_move rfl rfl ?_
  refine l_eql rfl rfl rfl ?_
  refine l_move rfl rfl ?_
  refine l_split 48 rfl ?_ ?_
  · intro hbr
    have hbr := of_decide_eq_true hbr
    refine l_guard_yes rfl rfl ?_
    refine l_move rfl rfl ?_
    refine l_guard_yes rfl rfl ?_
    refine l_move rfl rfl ?_
    refine l_guard_yes rfl rfl ?_
    refine l_eql rfl rfl rfl ?_
    refine l_pick_t rfl rfl rfl ?_
    refine l_move rfl rfl ?_
    refine l_split 53 rfl ?_ ?_
    · intro hbr
      have hbr := of_decide_eq_true hbr
      refine l_guard_yes rfl rfl ?_
      refine l_call rfl Try.call11 rfl (awake_ok _ _) ?_; rintro _ _ ⟨rfl, rfl⟩
      refine l_pick_t rfl rfl rfl ?_
      refine l_assign rfl rfl ?_
      refine l_nil ?_
      refine g_ret Try.func9 rfl (.tmp rfl .nil) ?_
      exact Gives.mki ⟨rfl, rfl⟩
    · intro hbr
      have hbr := of_decide_eq_false hbr
      (exfalso; omega)
  · intro hbr
    have hbr := of_decide_eq_false hbr
    (exfalso; omega)
theorem shares_big (w0 : World) (F : List Atom) (fr mj kr rm : Int) (ca pa ha : Option Addr) (cn cc pn pc hn hc : Nat) (Ks : List CoreR) (hCR : CR w0 F ca cn Ks) (hcn : cn ≤ 9223372036854775807) (hpn : pn ≤ 9223372036854775807) (hmj : I64 mj) (p : Int) (p0 : -9223372036854775808 ≤ p) (p1 : p ≤ 9223372036854775807) (rows : List (List Value)) (hPR : PR w0 F pa pn rows) (hfit : Fit cn pn hn Ks rows) (hb : 2147483647 < cn) :
    CallK Try.prog 9 [.agg [Value.int .i64 fr, .int .i64 mj, .int .i64 kr, .int .i64 rm, .slice ca cn cc, .slice pa pn pc, .slice ha hn hc].toArray, .int .i64 p] w0 (F) (Gives w0 fun v F2 => v = .bool true ∧ F2 = F) := by
  have hCl := hCR.1
  refine c_enter Try.func9 rfl rfl rfl ?_
  refine g_seq ?_
  refine g_region ?_
  refine l_boxs rfl rfl ?_; intro b2
  refine l_assign rfl rfl ?_
  refine l_nil ?_
  refine g_seq ?_
  refine g_seq ?_
  refine g_region ?_
  refine l_lds rfl Try.isAgg27 Try.sizeOf27 rfl rfl ?_
  refine l_call rfl Try.call12 rfl (vast_fit _ _ fr mj kr rm ca pa ha cn cc pn pc hn hc Ks hCR.ex hcn hpn hmj rows hPR.ex hfit) ?_; rintro _ _ ⟨x9, rfl, rfl, hx9⟩
  obtain rfl : x9 = true := by
    cases x9 with
    | true => rfl
    | false => exact absurd (hx9 rfl) (by omega)
  refine l_nil ?_
  first | refine g_cond_t rfl ?_ | refine g_cond_t (congrArg (fun b => some (Value.bool b)) (decide_eq_true hbr)) ?_
  refine g_seq ?_
  refine g_region ?_
  refine l_assign rfl rfl ?_
  refine l_nil ?_
  refine g_ret Try.func9 rfl (.tmp rfl .nil) ?_
  exact Gives.mki ⟨rfl, rfl⟩
theorem shares_all (W : World) (l : List Value) (hv : Viz Try.prog W 27 l) (p : Int) (q : -9223372036854775808 ≤ p ∧ p ≤ 9223372036854775807) : CallK Try.prog 9 [.agg l.toArray, .int .i64 p] W [Old W] (Gives W fun v F2 => v = .bool true ∧ F2 = [Old W]) := by
  obtain ⟨fr, mj, kr, rm, ca, cn, cc, pa, pn, pc, ha, hn, hc, Ks, rows, rfl, hmj, hCR, hPR, hfit⟩ := viz_cfg hv
  have h1 := hfit.1
  have h2 := hfit.2.1
  by_cases hb : cn ≤ 2147483647
  · obtain ⟨r, hq, hr⟩ := share_r (mj := mj) (p := p) hCR hb
    exact shares_law W [Old W] fr mj kr rm ca pa ha cn cc pn pc hn hc Ks hCR (by omega) (by omega) hmj p q.1 q.2 rows hPR hfit r hr hq
  · exact shares_big W [Old W] fr mj kr rm ca pa ha cn cc pn pc hn hc Ks hCR (by omega) (by omega) hmj p q.1 q.2 rows hPR hfit (by omega)
end Go.Proofs.Ytfccfjgnoeocnaa.Fw
