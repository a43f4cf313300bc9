import Derived.Test.YtfccfjgnoeocnaaSame
import Derived.Test.YtfccfjgnoeocnaaRStarts
import Derived.Test.YtfccfjgnoeocnaaCore
import Derived.Test.YtfccfjgnoeocnaaAwake
namespace Go.Proofs.Ytfccfjgnoeocnaa.Fw
open Go Go.Proofs
set_option linter.unusedVariables false
set_option linter.unusedSimpArgs false
set_option maxRecDepth 10000

theorem big2 {w0 : World} {F : List Atom} {w : World} {A0 A1 : Atom} (h : Holds w0 (A1 :: A0 :: F) w) (C : Nat → Atom) (h0 : C 0 = A0) (h1 : C 1 = A1) : Holds w0 (BigF 2 C :: F) w := by
  have h2 := BigF.zero h C
  have h3 : Holds w0 (A0 :: BigF 0 C :: A1 :: F) w := h2.perm (by
    refine .trans (.cons _ (.swap _ _ _)) ?_
    exact .swap _ _ _)
  have h4 := BigF.snoc (C := C) h3 h0 (fun k hk => absurd hk (Nat.not_lt_zero _))
  exact BigF.snoc (C := C) (h4.perm (.swap _ _ _)) h1 (fun k _ => rfl)
theorem l_big2 {P : Program} {f : FuncId} {w0 : World} {K : Post} {n : Nat} {d : List Deferred} {ops : Array Oper} {rest : List Oper} {k : List Item} {e : Env} {F : List Atom} {A0 A1 : Atom} (C : Nat → Atom) (h0 : C 0 = A0) (h1 : C 1 = A1) (hk : GL P f w0 K n d ops rest k e (BigF 2 C :: F)) : GL P f w0 K n d ops rest k e (A1 :: A0 :: F) := gl_heap (fun w hw => big2 hw C h0 h1) hk
theorem lists_law (w0 : World) (F : List Atom) (fr mj kr rm : Int) (ca pa ha : Option Addr) (cn cc pn pc hn hc : Nat) (Ks : List CoreR) (hCR : CR w0 F ca cn Ks) (hcn : cn ≤ 9223372036854775807) (hpn : pn ≤ 9223372036854775807) (hmj : I64 mj) (core : Int) (q0 : -9223372036854775808 ≤ core) (q1 : core ≤ 9223372036854775807) (p : Int) (p0 : -9223372036854775808 ≤ p) (p1 : p ≤ 9223372036854775807) (rows : List (List Value)) (hPR : PR w0 F pa pn rows) (hfit : Fit cn pn hn Ks rows) :
    CallK Try.prog 7 [.agg [Value.int .i64 fr, .int .i64 mj, .int .i64 kr, .int .i64 rm, .slice ca cn cc, .slice pa pn pc, .slice ha hn hc].toArray, .int .i64 core, .int .i64 p] w0 (F) (Gives w0 fun v F2 => v = .bool true ∧ F2 = F) := by
  have hCl := hCR.1
  have h16 := stA_len (core := core) hCR
  refine c_enter Try.func7 rfl rfl rfl ?_
  refine g_seq ?_
  refine g_region ?_
  refine l_boxs rfl rfl ?_; intro b3
  refine l_assign rfl rfl ?_
  refine l_nil ?_
  refine g_seq ?_
  refine g_seq ?_
  refine g_region ?_
  refine l_lds rfl Try.isAgg27 Try.sizeOf27 rfl rfl ?_
  refine l_call rfl Try.call12 rfl (vast_fit _ _ fr mj kr rm ca pa ha cn cc pn pc hn hc Ks hCR.ex hcn hpn hmj rows hPR.ex hfit) ?_; rintro _ _ ⟨x9, rfl, rfl, hx9⟩
  refine l_nil ?_
  refine g_cond rfl ?_ ?_
  · intro hbr
    have hb25 := hbr
    refine g_seq ?_
    refine g_region ?_
    refine l_assign rfl rfl ?_
    refine l_nil ?_
    refine g_ret Try.func7 rfl (.tmp rfl .nil) ?_
    exact Gives.mki ⟨rfl, rfl⟩
  intro hbr
  have hb25 := hbr
  refine g_skip ?_
  refine g_seq ?_
  refine g_region ?_
  have hcn2 := hx9 hbr
  have hsl := spA_len (pn := pn) (p := p) hCR
  refine l_lds rfl Try.isAgg27 Try.sizeOf27 rfl rfl ?_
  refine l_move rfl rfl ?_
  refine l_call rfl Try.call18 rfl (rstarts_fn _ _ fr mj kr rm ca pa ha cn cc pn pc hn hc Ks hCR.ex hcn hpn hmj core q0 q1) ?_; rintro _ _ ⟨uw, rfl, rfl⟩
  refine l_fact (own_slice (mem_getO 0 rfl)) ?_
  rintro ⟨aw, cw, rfl, haw⟩
  refine l_move rfl rfl ?_
  refine l_extract rfl rfl rfl ?_
  refine l_extract rfl rfl rfl ?_
  refine l_assign rfl rfl ?_
  refine l_assign rfl rfl ?_
  refine l_nil ?_
  refine g_seq ?_
  refine g_seq ?_
  refine g_region ?_
  refine l_assign rfl rfl ?_
  refine l_nil ?_
  refine g_block ?_
  refine g_loopc (X := Int) [(1, _), (2, _), (3, _), (7, _), (8, _)] (.cons rfl (.cons rfl (.cons rfl (.cons rfl (.cons rfl (.nil)))))) (fun i => 0 ≤ i ∧ i ≤ 2) (fun i => (2 - i).toNat) (fun i => [(9, .int .i64 i)]) (0) (by omega) (.cons rfl .nil) ?_
  rintro i ⟨i0, i1⟩ ih
  dsimp only [List.cons_append, List.nil_append] at ih ⊢
  refine g_seq ?_
  refine g_seq ?_
  refine g_region ?_
  refine l_move rfl rfl ?_
  refine l_lss rfl rfl rfl ?_
  refine l_nil ?_
  refine g_cond rfl ?_ ?_
  · intro hbr
    have hbr := of_decide_eq_true hbr
    refine g_skip ?_
    refine g_seq ?_
    refine g_block ?_
    refine g_seq ?_
    refine g_region ?_
    refine l_lds rfl Try.isAgg27 Try.sizeOf27 rfl rfl ?_
    refine l_move rfl rfl ?_
    refine l_call rfl Try.call15 rfl (starts_fn _ _ fr mj kr rm ca pa ha cn cc pn pc hn hc Ks hCR.ex hcn hpn hmj core q0 q1) ?_; rintro _ _ ⟨u1, rfl, rfl⟩
    refine l_fact (own_slice (mem_getO 0 rfl)) ?_
    rintro ⟨a1, c1, rfl, ha1⟩
    refine l_move rfl rfl ?_
    refine l_extract rfl rfl rfl ?_
    refine l_extract rfl rfl rfl ?_
    refine l_assign rfl rfl ?_
    refine l_assign rfl rfl ?_
    refine l_nil ?_
    refine g_seq ?_
    refine g_region ?_
    refine l_lds rfl Try.isAgg27 Try.sizeOf27 rfl rfl ?_
    refine l_move rfl rfl ?_
    refine l_call rfl Try.call15 rfl (starts_fn _ _ fr mj kr rm ca pa ha cn cc pn pc hn hc Ks hCR.ex hcn hpn hmj core q0 q1) ?_; rintro _ _ ⟨u2, rfl, rfl⟩
    refine l_fact (own_slice (mem_getO 0 rfl)) ?_
    rintro ⟨a2, c2, rfl, ha2⟩
    refine l_move rfl rfl ?_
    refine l_extract rfl rfl rfl ?_
    refine l_extract rfl rfl rfl ?_
    refine l_assign rfl rfl ?_
    refine l_assign rfl rfl ?_
    refine l_nil ?_
    refine g_seq ?_
    refine g_region ?_
    refine l_move rfl rfl ?_
    refine l_move rfl rfl ?_
    refine l_neq rfl rfl rfl ?_
    refine l_move rfl rfl ?_
    refine l_split 51 rfl ?_ ?_
    · intro hbr
      have hbr := of_decide_eq_true hbr
      (exfalso; omega)
    intro hbr
    have hbr := of_decide_eq_false hbr
    refine l_guard_yes rfl rfl ?_
    refine l_move rfl rfl ?_
    refine l_guard_yes rfl rfl ?_
    refine l_move rfl rfl ?_
    refine l_guard_yes rfl rfl ?_
    refine l_neq rfl rfl rfl ?_
    refine l_pick_f rfl rfl rfl ?_
    refine l_move rfl rfl ?_
    refine l_split 56 rfl ?_ ?_
    · intro hbr
      have hbr := of_decide_eq_true hbr
      (exfalso; omega)
    intro hbr
    have hbr := of_decide_eq_false hbr
    refine l_guard_yes rfl rfl ?_
    refine l_move rfl rfl ?_
    refine l_guard_yes rfl rfl ?_
    refine l_move rfl rfl ?_
    refine l_guard_yes rfl rfl ?_
    refine l_call rfl Try.call19 rfl (same_ints _ _ a1 aw _ c1 cw _ (IR.own rfl (mem_getO 1 rfl) ha1) (IR.own rfl (mem_getO 2 rfl) haw) (by omega)) ?_; rintro _ _ ⟨rfl, rfl⟩
    refine l_guard_yes rfl rfl ?_
    refine l_not rfl rfl ?_
    refine l_pick_f rfl rfl rfl ?_
    refine l_move rfl rfl ?_
    refine l_guard_yes rfl rfl ?_
    refine l_move rfl rfl ?_
    refine l_guard_yes rfl rfl ?_
    refine l_move rfl rfl ?_
    refine l_guard_yes rfl rfl ?_
    refine l_call rfl Try.call19 rfl (same_ints _ _ a2 aw _ c2 cw _ (IR.own rfl (mem_getO 0 rfl) ha2) (IR.own rfl (mem_getO 2 rfl) haw) (by omega)) ?_; rintro _ _ ⟨rfl, rfl⟩
    refine l_guard_yes rfl rfl ?_
    refine l_not rfl rfl ?_
    refine l_pick_f rfl rfl rfl ?_
    refine l_move rfl rfl ?_
    refine l_guard_yes rfl rfl ?_
    refine l_move rfl rfl ?_
    refine l_guard_yes rfl rfl ?_
    refine l_move rfl rfl ?_
    refine l_guard_yes rfl rfl ?_
    refine l_buildSlice rfl Try.underlying44 Try.sizeOf35 Try.zeroValue35 rfl rfl rfl rfl rfl rfl ?_; intro b71
    refine l_guard_yes rfl rfl ?_
    refine l_front 2 rfl ?_
    refine l_front 2 rfl ?_
    refine l_big2 (apA [⟨a1, (stA Ks cn core).1.length, c1⟩, ⟨a2, (stA Ks cn core).1.length, c2⟩] (fun _ => (stA Ks cn core).1)) rfl rfl ?_
    refine l_call rfl Try.call20 rfl (apart_ints _ _ b71 0 2 2 [⟨a1, (stA Ks cn core).1.length, c1⟩, ⟨a2, (stA Ks cn core).1.length, c2⟩] rfl (by omega) (RowAt.own (xs := ([⟨a1, (stA Ks cn core).1.length, c1⟩, ⟨a2, (stA Ks cn core).1.length, c2⟩] : List LV).map lvV) (mem_getO 0 rfl)) (fun k hk => by rcases k with _ | _ | k <;> simp [lat] <;> omega) (fun _ => (stA Ks cn core).1)) ?_; rintro _ _ ⟨rfl, rfl⟩
    refine l_guard_yes rfl rfl ?_
    refine l_not rfl rfl ?_
    refine l_pick_f rfl rfl rfl ?_
    refine l_nil ?_
    refine g_cond_f rfl ?_
    refine g_skip ?_
    refine g_inBlock ?_
    refine g_region ?_
    refine l_move rfl rfl ?_
    first | refine l_add rfl rfl rfl (w_i64 (by omega) (by omega)) ?_ | refine l_addw rfl rfl rfl ?_
    refine l_assign rfl rfl ?_
    refine l_nil ?_
    exact g_againi (ih (i + 1) (by omega) (by omega)) (.cons rfl (.cons rfl (.cons rfl (.cons rfl (.cons rfl (.cons rfl (.nil)))))))
  intro hbr
  have hbr := of_decide_eq_false hbr
  refine g_exit rfl ?_
  refine g_seq ?_
  refine g_region ?_
  refine l_lds rfl Try.isAgg27 Try.sizeOf27 rfl rfl ?_
  refine l_move rfl rfl ?_
  refine l_call rfl Try.call21 rfl (rspans_fn _ _ fr mj kr rm ca pa ha cn cc pn pc hn hc Ks hCR.ex hcn hpn hmj p p0 p1 hcn2) ?_; rintro _ _ ⟨ux, rfl, rfl⟩
  refine l_fact (own_slice (mem_getO 0 rfl)) ?_
  rintro ⟨ax, cx, rfl, hax⟩
  refine l_move rfl rfl ?_
  refine l_extract rfl rfl rfl ?_
  refine l_extract rfl rfl rfl ?_
  refine l_assign rfl rfl ?_
  refine l_assign rfl rfl ?_
  refine l_nil ?_
  refine g_seq ?_
  refine g_seq ?_
  refine g_region ?_
  refine l_assign rfl rfl ?_
  refine l_nil ?_
  refine g_block ?_
  refine g_loopc (X := Int) [(2, _), (3, _), (8, _), (14, _)] (.cons rfl (.cons rfl (.cons rfl (.cons rfl (.nil))))) (fun i => 0 ≤ i ∧ i ≤ 2) (fun i => (2 - i).toNat) (fun i => [(15, .int .i64 i)]) (0) (by omega) (.cons rfl .nil) ?_
  rintro i ⟨i0, i1⟩ ihj
  dsimp only [List.cons_append, List.nil_append] at ihj ⊢
  refine g_seq ?_
  refine g_seq ?_
  refine g_region ?_
  refine l_move rfl rfl ?_
  refine l_lss rfl rfl rfl ?_
  refine l_nil ?_
  refine g_cond rfl ?_ ?_
  · intro hbr
    have hbr := of_decide_eq_true hbr
    refine g_skip ?_
    refine g_seq ?_
    refine g_block ?_
    refine g_seq ?_
    refine g_region ?_
    refine l_lds rfl Try.isAgg27 Try.sizeOf27 rfl rfl ?_
    refine l_move rfl rfl ?_
    refine l_call rfl Try.call22 rfl (spans_fn _ _ fr mj kr rm ca pa ha cn cc pn pc hn hc Ks hCR.ex hcn hpn hmj p p0 p1 hcn2) ?_; rintro _ _ ⟨u1, rfl, rfl⟩
    refine l_fact (own_slice (mem_getO 0 rfl)) ?_
    rintro ⟨a1, c1, rfl, ha1⟩
    refine l_move rfl rfl ?_
    refine l_extract rfl rfl rfl ?_
    refine l_extract rfl rfl rfl ?_
    refine l_assign rfl rfl ?_
    refine l_assign rfl rfl ?_
    refine l_nil ?_
    refine g_seq ?_
    refine g_region ?_
    refine l_lds rfl Try.isAgg27 Try.sizeOf27 rfl rfl ?_
    refine l_move rfl rfl ?_
    refine l_call rfl Try.call22 rfl (spans_fn _ _ fr mj kr rm ca pa ha cn cc pn pc hn hc Ks hCR.ex hcn hpn hmj p p0 p1 hcn2) ?_; rintro _ _ ⟨u2, rfl, rfl⟩
    refine l_fact (own_slice (mem_getO 0 rfl)) ?_
    rintro ⟨a2, c2, rfl, ha2⟩
    refine l_move rfl rfl ?_
    refine l_extract rfl rfl rfl ?_
    refine l_extract rfl rfl rfl ?_
    refine l_assign rfl rfl ?_
    refine l_assign rfl rfl ?_
    refine l_nil ?_
    refine g_seq ?_
    refine g_region ?_
    refine l_move rfl rfl ?_
    refine l_move rfl rfl ?_
    refine l_neq rfl rfl rfl ?_
    refine l_move rfl rfl ?_
    refine l_split 100 rfl ?_ ?_
    · intro hbr
      have hbr := of_decide_eq_true hbr
      (exfalso; omega)
    intro hbr
    have hbr := of_decide_eq_false hbr
    refine l_guard_yes rfl rfl ?_
    refine l_move rfl rfl ?_
    refine l_guard_yes rfl rfl ?_
    refine l_move rfl rfl ?_
    refine l_guard_yes rfl rfl ?_
    refine l_neq rfl rfl rfl ?_
    refine l_pick_f rfl rfl rfl ?_
    refine l_move rfl rfl ?_
    refine l_split 105 rfl ?_ ?_
    · intro hbr
      have hbr := of_decide_eq_true hbr
      (exfalso; omega)
    intro hbr
    have hbr := of_decide_eq_false hbr
    refine l_guard_yes rfl rfl ?_
    refine l_move rfl rfl ?_
    refine l_guard_yes rfl rfl ?_
    refine l_move rfl rfl ?_
    refine l_guard_yes rfl rfl ?_
    refine l_call rfl Try.call23 rfl (same_spans _ _ a1 ax _ c1 cx _ (SR.own rfl (mem_getO 1 rfl) ha1) (SR.own rfl (mem_getO 2 rfl) hax) (by omega)) ?_; rintro _ _ ⟨rfl, rfl⟩
    refine l_guard_yes rfl rfl ?_
    refine l_not rfl rfl ?_
    refine l_pick_f rfl rfl rfl ?_
    refine l_move rfl rfl ?_
    refine l_guard_yes rfl rfl ?_
    refine l_move rfl rfl ?_
    refine l_guard_yes rfl rfl ?_
    refine l_move rfl rfl ?_
    refine l_guard_yes rfl rfl ?_
    refine l_call rfl Try.call23 rfl (same_spans _ _ a2 ax _ c2 cx _ (SR.own rfl (mem_getO 0 rfl) ha2) (SR.own rfl (mem_getO 2 rfl) hax) (by omega)) ?_; rintro _ _ ⟨rfl, rfl⟩
    refine l_guard_yes rfl rfl ?_
    refine l_not rfl rfl ?_
    refine l_pick_f rfl rfl rfl ?_
    refine l_move rfl rfl ?_
    refine l_guard_yes rfl rfl ?_
    refine l_move rfl rfl ?_
    refine l_guard_yes rfl rfl ?_
    refine l_move rfl rfl ?_
    refine l_guard_yes rfl rfl ?_
    refine l_front 1 rfl ?_
    refine l_call rfl Try.call24 rfl (apart_spans _ _ a1 a2 _ c1 _ c2 _ _ rfl rfl ha1 ha2 (by omega) (by omega)) ?_; rintro _ _ ⟨rfl, rfl⟩
    refine l_guard_yes rfl rfl ?_
    refine l_not rfl rfl ?_
    refine l_pick_f rfl rfl rfl ?_
    refine l_nil ?_
    refine g_cond_f rfl ?_
    refine g_skip ?_
    refine g_inBlock ?_
    refine g_region ?_
    refine l_move rfl rfl ?_
    first | refine l_add rfl rfl rfl (w_i64 (by omega) (by omega)) ?_ | refine l_addw rfl rfl rfl ?_
    refine l_assign rfl rfl ?_
    refine l_nil ?_
    exact g_againi (ihj (i + 1) (by omega) (by omega)) (.cons rfl (.cons rfl (.cons rfl (.cons rfl (.cons rfl (.nil))))))
  intro hbr
  have hbr := of_decide_eq_false hbr
  refine g_exit rfl ?_
  refine g_seq ?_
  refine g_region ?_
  refine l_lds rfl Try.isAgg27 Try.sizeOf27 rfl rfl ?_
  refine l_move rfl rfl ?_
  refine l_call rfl Try.call25 rfl (core_any _ _ fr mj kr rm ca pa ha cn cc pn pc hn hc Ks hCR.ex hcn hpn hmj p p0 p1) ?_; rintro _ _ ⟨x1, e1, rfl, rfl, hs1⟩
  refine l_move rfl rfl ?_
  refine l_extract rfl rfl rfl ?_
  refine l_extract rfl rfl rfl ?_
  refine l_assign rfl rfl ?_
  refine l_assign rfl rfl ?_
  refine l_nil ?_
  refine g_seq ?_
  refine g_region ?_
  refine l_lds rfl Try.isAgg27 Try.sizeOf27 rfl rfl ?_
  refine l_move rfl rfl ?_
  refine l_call rfl Try.call26 rfl (rcore_any _ _ fr mj kr rm ca pa ha cn cc pn pc hn hc Ks hCR.ex hcn hpn hmj p p0 p1) ?_; rintro _ _ ⟨x2, e2, rfl, rfl, hs2⟩
  obtain ⟨rfl, rfl⟩ := core_one hs1 hs2
  refine l_move rfl rfl ?_
  refine l_extract rfl rfl rfl ?_
  refine l_extract rfl rfl rfl ?_
  refine l_assign rfl rfl ?_
  refine l_assign rfl rfl ?_
  refine l_nil ?_
  refine g_seq ?_
  refine g_region ?_
  refine l_move rfl rfl ?_
  refine l_move rfl rfl ?_
  refine l_eql rfl rfl rfl ?_
  refine l_move rfl rfl ?_
  refine l_split 138 rfl ?_ ?_
  · intro hbr
    have hbr := of_decide_eq_true hbr
    refine l_guard_yes rfl rfl ?_
    refine l_move rfl rfl ?_
    refine l_guard_yes rfl rfl ?_
    refine l_move rfl rfl ?_
    refine l_guard_yes rfl rfl ?_
    refine l_eql rfl rfl rfl ?_
    refine l_pick_t rfl rfl rfl ?_
    refine l_move rfl rfl ?_
    refine l_split 143 rfl ?_ ?_
    · intro hbr
      have hbr := of_decide_eq_true hbr
      refine l_guard_yes rfl rfl ?_
      refine l_call rfl Try.call11 rfl (awake_ok _ _) ?_; rintro _ _ ⟨rfl, rfl⟩
      refine l_pick_t rfl rfl rfl ?_
      refine l_assign rfl rfl ?_
      refine l_nil ?_
      refine g_ret Try.func7 rfl (.tmp rfl .nil) ?_
      exact Gives.mki ⟨rfl, rfl⟩
    · intro hbr
      have hbr := of_decide_eq_false hbr
      (exfalso; omega)
  · intro hbr
    have hbr := of_decide_eq_false hbr
    (exfalso; omega)
theorem lists_big (w0 : World) (F : List Atom) (fr mj kr rm : Int) (ca pa ha : Option Addr) (cn cc pn pc hn hc : Nat) (Ks : List CoreR) (hCR : CR w0 F ca cn Ks) (hcn : cn ≤ 9223372036854775807) (hpn : pn ≤ 9223372036854775807) (hmj : I64 mj) (core : Int) (q0 : -9223372036854775808 ≤ core) (q1 : core ≤ 9223372036854775807) (p : Int) (p0 : -9223372036854775808 ≤ p) (p1 : p ≤ 9223372036854775807) (rows : List (List Value)) (hPR : PR w0 F pa pn rows) (hfit : Fit cn pn hn Ks rows) (hb : 2147483647 < cn) :
    CallK Try.prog 7 [.agg [Value.int .i64 fr, .int .i64 mj, .int .i64 kr, .int .i64 rm, .slice ca cn cc, .slice pa pn pc, .slice ha hn hc].toArray, .int .i64 core, .int .i64 p] w0 (F) (Gives w0 fun v F2 => v = .bool true ∧ F2 = F) := by
  have hCl := hCR.1
  refine c_enter Try.func7 rfl rfl rfl ?_
  refine g_seq ?_
  refine g_region ?_
  refine l_boxs rfl rfl ?_; intro b3
  refine l_assign rfl rfl ?_
  refine l_nil ?_
  refine g_seq ?_
  refine g_seq ?_
  refine g_region ?_
  refine l_lds rfl Try.isAgg27 Try.sizeOf27 rfl rfl ?_
  refine l_call rfl Try.call12 rfl (vast_fit _ _ fr mj kr rm ca pa ha cn cc pn pc hn hc Ks hCR.ex hcn hpn hmj rows hPR.ex hfit) ?_; rintro _ _ ⟨x9, rfl, rfl, hx9⟩
  obtain rfl : x9 = true := by
    cases x9 with
    | true => rfl
    | false => exact absurd (hx9 rfl) (by omega)
  refine l_nil ?_
  refine g_cond_t rfl ?_
  refine g_seq ?_
  refine g_region ?_
  refine l_assign rfl rfl ?_
  refine l_nil ?_
  refine g_ret Try.func7 rfl (.tmp rfl .nil) ?_
  exact Gives.mki ⟨rfl, rfl⟩
theorem lists_all (W : World) (l : List Value) (hv : Viz Try.prog W 27 l) (core : Int) (q : -9223372036854775808 ≤ core ∧ core ≤ 9223372036854775807) (p : Int) (q2 : -9223372036854775808 ≤ p ∧ p ≤ 9223372036854775807) : CallK Try.prog 7 [.agg l.toArray, .int .i64 core, .int .i64 p] W [Old W] (Gives W fun v F2 => v = .bool true ∧ F2 = [Old W]) := by
  obtain ⟨fr, mj, kr, rm, ca, cn, cc, pa, pn, pc, ha, hn, hc, Ks, rows, rfl, hmj, hCR, hPR, hfit⟩ := viz_cfg hv
  have h1 := hfit.1
  have h2 := hfit.2.1
  by_cases hb : cn ≤ 2147483647
  · exact lists_law W [Old W] fr mj kr rm ca pa ha cn cc pn pc hn hc Ks hCR (by omega) (by omega) hmj core q.1 q.2 p q2.1 q2.2 rows hPR hfit
  · exact lists_big W [Old W] fr mj kr rm ca pa ha cn cc pn pc hn hc Ks hCR (by omega) (by omega) hmj core q.1 q.2 p q2.1 q2.2 rows hPR hfit (by omega)
end Go.Proofs.Ytfccfjgnoeocnaa.Fw
