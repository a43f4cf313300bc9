import Derived.Test.YtfccfjgnoeocnaaRUse
namespace Go.Proofs.Ytfccfjgnoeocnaa.Fw
open Go Go.Proofs
set_option linter.unusedVariables false
set_option linter.unusedSimpArgs false
set_option maxRecDepth 10000

theorem rstarts_out (w0 : World) (F : List Atom) (fr mj kr rm : Int) (ca pa ha : Option Addr) (cn cc pn pc hn hc : Nat) (Ks : List CoreR) (hCR : CR w0 F ca cn Ks) (hcn : cn ≤ 9223372036854775807) (hpn : pn ≤ 9223372036854775807) (hmj : I64 mj) (core : Int) (q0 : -9223372036854775808 ≤ core) (q1 : core ≤ 9223372036854775807) (ho : core < 0 ∨ cn ≤ core) :
    CallK Try.prog 18 [.agg [Value.int .i64 fr, .int .i64 mj, .int .i64 kr, .int .i64 rm, .slice ca cn cc, .slice pa pn pc, .slice ha hn hc].toArray, .int .i64 core] w0 (F) (Gives w0 fun v F2 => v = .tuple #[.slice none 0 0, .int .i64 140] ∧ F2 = F) := by
  refine c_enter Try.func18 rfl rfl rfl ?_
  refine g_seq ?_
  refine g_region ?_
  refine l_boxs rfl rfl ?_; intro b2
  refine l_assign rfl rfl ?_
  refine l_assign rfl rfl ?_
  refine l_nil ?_
  refine g_seq ?_
  refine g_seq ?_
  refine g_region ?_
  refine l_move rfl rfl ?_
  refine l_lss rfl rfl rfl ?_
  refine l_move rfl rfl ?_
  refine l_split 10 rfl ?_ ?_
  · intro hbr
    have hbr := of_decide_eq_true hbr
    refine l_guard_no rfl rfl rfl ?_
    refine l_guard_no rfl rfl rfl ?_
    refine l_guard_no rfl rfl rfl ?_
    refine l_guard_no rfl rfl rfl ?_
    refine l_guard_no rfl rfl rfl ?_
    refine l_pick_t rfl rfl rfl ?_
    refine l_nil ?_
    first | refine g_cond_t rfl ?_ | refine g_cond_t (congrArg (fun b => some (Value.bool b)) (decide_eq_true hbr)) ?_
    refine g_seq ?_
    refine g_region ?_
    refine l_assign rfl rfl ?_
    refine l_assign rfl rfl ?_
    refine l_nil ?_
    refine g_ret Try.func18 rfl (.tmp rfl (.tmp rfl .nil)) ?_
    exact Gives.mki ⟨rfl, rfl⟩
  intro hbr
  have hbr := of_decide_eq_false hbr
  refine l_guard_yes rfl rfl ?_
  refine l_move rfl rfl ?_
  refine l_guard_yes rfl rfl ?_
  refine l_fieldAddr rfl fa_27_4 rfl ?_
  refine l_guard_yes rfl rfl ?_
  refine l_ld rfl Try.isAgg23 rfl rfl ?_
  refine l_guard_yes rfl rfl ?_
  refine l_len rfl Try.underlying23 rfl ?_
  refine l_guard_yes rfl rfl ?_
  refine l_geq rfl rfl rfl ?_
  refine l_pick_f rfl rfl rfl ?_
  refine l_nil ?_
  refine g_cond rfl ?_ ?_
  · intro hbr
    have hbr := of_decide_eq_true hbr
    refine g_seq ?_
    refine g_region ?_
    refine l_assign rfl rfl ?_
    refine l_assign rfl rfl ?_
    refine l_nil ?_
    refine g_ret Try.func18 rfl (.tmp rfl (.tmp rfl .nil)) ?_
    exact Gives.mki ⟨rfl, rfl⟩
  · intro hbr
    have hbr := of_decide_eq_false hbr
    (exfalso; omega)
theorem rstarts_bad (w0 : World) (F : List Atom) (fr mj kr rm : Int) (ca pa ha : Option Addr) (cn cc pn pc hn hc : Nat) (Ks : List CoreR) (hCR : CR w0 F ca cn Ks) (hcn : cn ≤ 9223372036854775807) (hpn : pn ≤ 9223372036854775807) (hmj : I64 mj) (core : Int) (q0 : -9223372036854775808 ≤ core) (q1 : core ≤ 9223372036854775807) (ho : 0 ≤ core ∧ core < cn) (a : Option Addr) (n c : Nat) (L : List Win) (hk : kat Ks core.toNat = ⟨a, n, c, L⟩) (hm : ¬ May L) :
    CallK Try.prog 18 [.agg [Value.int .i64 fr, .int .i64 mj, .int .i64 kr, .int .i64 rm, .slice ca cn cc, .slice pa pn pc, .slice ha hn hc].toArray, .int .i64 core] w0 (F) (Gives w0 fun v F2 => v = .tuple #[.slice none 0 0, .int .i64 1] ∧ F2 = F) := by
  have hCl := hCR.1
  obtain ⟨hW, hn9⟩ := hCR.ok hk (by omega)
  have hL := hW.1
  have hI := hW.2.1
  unfold I64 at hI
  refine c_enter Try.func18 rfl rfl rfl ?_
  refine g_seq ?_
  refine g_region ?_
  refine l_boxs rfl rfl ?_; intro b2
  refine l_assign rfl rfl ?_
  refine l_assign rfl rfl ?_
  refine l_nil ?_
  refine g_seq ?_
  refine g_seq ?_
  refine g_region ?_
  refine l_move rfl rfl ?_
  refine l_lss rfl rfl rfl ?_
  refine l_move rfl rfl ?_
  refine l_split 10 rfl ?_ ?_
  · intro hbr
    have hbr := of_decide_eq_true hbr
    (exfalso; omega)
  intro hbr
  have hbr := of_decide_eq_false hbr
  refine l_guard_yes rfl rfl ?_
  refine l_move rfl rfl ?_
  refine l_guard_yes rfl rfl ?_
  refine l_fieldAddr rfl fa_27_4 rfl ?_
  refine l_guard_yes rfl rfl ?_
  refine l_ld rfl Try.isAgg23 rfl rfl ?_
  refine l_guard_yes rfl rfl ?_
  refine l_len rfl Try.underlying23 rfl ?_
  refine l_guard_yes rfl rfl ?_
  refine l_geq rfl rfl rfl ?_
  refine l_pick_f rfl rfl rfl ?_
  refine l_nil ?_
  refine g_cond rfl ?_ ?_
  · intro hbr
    have hbr := of_decide_eq_true hbr
    (exfalso; omega)
  intro hbr
  have hbr := of_decide_eq_false hbr
  refine g_skip ?_
  refine g_seq ?_
  refine g_seq ?_
  refine g_region ?_
  refine l_fieldAddr rfl fa_27_4 rfl ?_
  refine l_ld rfl Try.isAgg23 rfl rfl ?_
  refine l_move rfl rfl ?_
  obtain ⟨b8, o8, rfl, hr8⟩ := hCR.some (i := core.toNat) (by omega)
  refine l_ixs rfl Try.underlying23 Try.sizeOf38 rfl rfl (by omega) (by omega) ?_
  refine l_loadc rfl Try.isAgg38 rfl (core_cell hr8.ex hk (by omega)) ?_
  refine l_call rfl Try.call35 rfl (may_bad _ _ a n c L hW.ex hn9 hm) ?_; rintro _ _ ⟨rfl, rfl⟩
  refine l_not rfl rfl ?_
  refine l_nil ?_
  first | refine g_cond_t rfl ?_ | refine g_cond_t (congrArg (fun b => some (Value.bool b)) (decide_eq_true hbr)) ?_
  refine g_seq ?_
  refine g_region ?_
  refine l_assign rfl rfl ?_
  refine l_assign rfl rfl ?_
  refine l_nil ?_
  refine g_ret Try.func18 rfl (.tmp rfl (.tmp rfl .nil)) ?_
  exact Gives.mki ⟨rfl, rfl⟩
theorem rstarts_ok (w0 : World) (F : List Atom) (fr mj kr rm : Int) (ca pa ha : Option Addr) (cn cc pn pc hn hc : Nat) (Ks : List CoreR) (hCR : CR w0 F ca cn Ks) (hcn : cn ≤ 9223372036854775807) (hpn : pn ≤ 9223372036854775807) (hmj : I64 mj) (core : Int) (q0 : -9223372036854775808 ≤ core) (q1 : core ≤ 9223372036854775807) (ho : 0 ≤ core ∧ core < cn) (a : Option Addr) (n c : Nat) (L : List Win) (hk : kat Ks core.toNat = ⟨a, n, c, L⟩) (hm : May L) :
    CallK Try.prog 18 [.agg [Value.int .i64 fr, .int .i64 mj, .int .i64 kr, .int .i64 rm, .slice ca cn cc, .slice pa pn pc, .slice ha hn hc].toArray, .int .i64 core] w0 (F) (Gives w0 fun v F2 => ∃ u, v = .tuple #[u, .int .i64 0] ∧ F2 = Own 3 1 u n (ints .i64 (bgs L n)) :: F) := by
  have hCl := hCR.1
  obtain ⟨hW, hn9⟩ := hCR.ok hk (by omega)
  have hL := hW.1
  have hI := hW.2.1
  unfold I64 at hI
  obtain ⟨m1, m2, _⟩ := id hm
  refine c_enter Try.func18 rfl rfl rfl ?_
  refine g_seq ?_
  refine g_region ?_
  refine l_boxs rfl rfl ?_; intro b2
  refine l_assign rfl rfl ?_
  refine l_assign rfl rfl ?_
  refine l_nil ?_
  refine g_seq ?_
  refine g_seq ?_
  refine g_region ?_
  refine l_move rfl rfl ?_
  refine l_lss rfl rfl rfl ?_
  refine l_move rfl rfl ?_
  refine l_split 10 rfl ?_ ?_
  · intro hbr
    have hbr := of_decide_eq_true hbr
    (exfalso; omega)
  intro hbr
  have hbr := of_decide_eq_false hbr
  refine l_guard_yes rfl rfl ?_
  refine l_move rfl rfl ?_
  refine l_guard_yes rfl rfl ?_
  refine l_fieldAddr rfl fa_27_4 rfl ?_
  refine l_guard_yes rfl rfl ?_
  refine l_ld rfl Try.isAgg23 rfl rfl ?_
  refine l_guard_yes rfl rfl ?_
  refine l_len rfl Try.underlying23 rfl ?_
  refine l_guard_yes rfl rfl ?_
  refine l_geq rfl rfl rfl ?_
  refine l_pick_f rfl rfl rfl ?_
  refine l_nil ?_
  refine g_cond rfl ?_ ?_
  · intro hbr
    have hbr := of_decide_eq_true hbr
    (exfalso; omega)
  intro hbr
  have hbr := of_decide_eq_false hbr
  refine g_skip ?_
  refine g_seq ?_
  refine g_seq ?_
  refine g_region ?_
  refine l_fieldAddr rfl fa_27_4 rfl ?_
  refine l_ld rfl Try.isAgg23 rfl rfl ?_
  refine l_move rfl rfl ?_
  obtain ⟨b8, o8, rfl, hr8⟩ := hCR.some (i := core.toNat) (by omega)
  refine l_ixs rfl Try.underlying23 Try.sizeOf38 rfl rfl (by omega) (by omega) ?_
  refine l_loadc rfl Try.isAgg38 rfl (core_cell hr8.ex hk (by omega)) ?_
  refine l_call rfl Try.call35 rfl (may_ok _ _ a n c L hW.ex hn9 hm) ?_; rintro _ _ ⟨rfl, rfl⟩
  refine l_not rfl rfl ?_
  refine l_nil ?_
  first | refine g_cond_f rfl ?_ | refine g_cond_f (congrArg (fun b => some (Value.bool b)) (decide_eq_false hbr)) ?_
  refine g_skip ?_
  refine g_seq ?_
  refine g_region ?_
  refine l_assign rfl rfl ?_
  refine l_nil ?_
  refine g_seq ?_
  refine g_seq ?_
  refine g_region ?_
  refine l_assign rfl rfl ?_
  refine l_nil ?_
  refine g_block ?_
  refine g_own_nil 3 1 ?_
  refine g_loopk (X := Int × Value) [(1, _), (2, _), (4, _), (5, _)] (.cons rfl (.cons rfl (.cons rfl (.cons rfl (.nil))))) (fun z => 0 ≤ z.1 ∧ z.1 ≤ n) (fun z => (n - z.1).toNat) (fun z => [(6, z.2), (7, .int .i64 z.1)]) (fun z => Own 3 1 z.2 z.1.toNat (ints .i64 (bgs L z.1.toNat)) :: Blk b2 (.cells [Value.int .i64 fr, .int .i64 mj, .int .i64 kr, .int .i64 rm, .slice (some ⟨b8, o8, none⟩) cn cc, .slice pa pn pc, .slice ha hn hc].toArray 27 (0, 0)) :: F) ((0, .slice none 0 0)) (⟨by simp only; omega, by simp only; omega⟩) (.cons rfl (.cons rfl .nil)) (fun w hw => (SPI.holds hw : Holds w0 (Own 3 1 (.slice none 0 0) 0 [] :: Blk b2 (.cells [Value.int .i64 fr, .int .i64 mj, .int .i64 kr, .int .i64 rm, .slice (some ⟨b8, o8, none⟩) cn cc, .slice pa pn pc, .slice ha hn hc].toArray 27 (0, 0)) :: F) w)) ?_
  rintro ⟨i, u⟩ ⟨i0, i1⟩ ih
  dsimp only [List.cons_append, List.nil_append] at ih ⊢
  simp only at i0 i1
  refine g_seq ?_
  refine g_seq ?_
  refine g_region ?_
  refine l_move rfl rfl ?_
  refine l_fieldAddr rfl fa_27_4 rfl ?_
  refine l_ld rfl Try.isAgg23 rfl rfl ?_
  refine l_move rfl rfl ?_
  refine l_ixs rfl Try.underlying23 Try.sizeOf38 rfl rfl (by omega) (by omega) ?_
  refine l_loadc rfl Try.isAgg38 rfl (core_cell hr8.ex hk (by omega)) ?_
  refine l_len rfl Try.underlying38 rfl ?_
  refine l_lss rfl rfl rfl ?_
  refine l_nil ?_
  refine g_cond rfl ?_ ?_
  · intro hbr
    have hbr := of_decide_eq_true hbr
    refine g_skip ?_
    refine g_seq ?_
    refine g_block ?_
    refine g_region ?_
    refine l_move rfl rfl ?_
    refine l_fieldAddr rfl fa_27_4 rfl ?_
    refine l_ld rfl Try.isAgg23 rfl rfl ?_
    refine l_move rfl rfl ?_
    refine l_ixs rfl Try.underlying23 Try.sizeOf38 rfl rfl (by omega) (by omega) ?_
    refine l_loadc rfl Try.isAgg38 rfl (core_cell hr8.ex hk (by omega)) ?_
    refine l_move rfl rfl ?_
    refine l_call rfl Try.call36 rfl (begin_ok _ _ _ n c L hW.ex hn9 hm _ (by omega) (by omega)) ?_; rintro _ _ ⟨rfl, rfl⟩
    refine l_buildSlice rfl Try.underlying35 Try.sizeOf3 Try.zeroValue3 rfl rfl rfl rfl rfl rfl ?_; intro b42
    refine l_appendw 1 (by_ := 8) (W := [bg L i.toNat]) (V := bgs L i.toNat) (m3 := i.toNat + 1) (V3 := bgs L (i.toNat + 1)) rfl Try.underlying35 Try.type3 rfl rfl rfl rfl rfl rfl rfl ⟨rfl, .inl ⟨_, _, _, rfl, .own (mem_getO 0 rfl)⟩⟩ (by omega) (by simp only [maxLen]; omega) rfl (bgs_snoc _ _) (fun _ => rfl) ?_; intro v43 hv43
    refine l_assign rfl rfl ?_
    refine l_nil ?_
    refine g_inBlock ?_
    refine g_region ?_
    refine l_move rfl rfl ?_
    first | refine l_add rfl rfl rfl (w_i64 (by omega) (by omega)) ?_ | refine l_addw rfl rfl rfl ?_
    refine l_assign rfl rfl ?_
    refine l_nil ?_
    rw [show i.toNat + 1 = (i + 1).toNat by omega]
    exact g_againi (ih (i + 1, v43) ⟨by simp only; omega, by simp only; omega⟩ (by simp only; omega)) (.cons rfl (.cons rfl (.cons rfl (.cons rfl (.cons rfl (.cons rfl (.nil)))))))
  intro hbr
  have hbr := of_decide_eq_false hbr
  refine g_exit rfl ?_
  obtain rfl : i = n := by omega
  rw [Int.toNat_natCast]
  refine g_seq ?_
  refine g_region ?_
  refine l_move rfl rfl ?_
  refine l_assign rfl rfl ?_
  refine l_assign rfl rfl ?_
  refine l_nil ?_
  refine g_ret Try.func18 rfl (.tmp rfl (.tmp rfl .nil)) ?_
  exact Gives.mki ⟨_, rfl, rfl⟩
open Classical in
/-- What Starts answers. -/
noncomputable def stA (Ks : List CoreR) (cn : Nat) (core : Int) : List Int × Int :=
  if 0 ≤ core ∧ core < cn then if May (kat Ks core.toNat).L then (bgs (kat Ks core.toNat).L (kat Ks core.toNat).n, 0) else ([], 1) else ([], 140)
theorem stA_out {Ks : List CoreR} {cn : Nat} {core : Int} (h : core < 0 ∨ cn ≤ core) : stA Ks cn core = ([], 140) := by unfold stA; rw [if_neg (by omega)]
theorem stA_bad {Ks : List CoreR} {cn : Nat} {core : Int} {a n c L} (h : 0 ≤ core ∧ core < cn) (hk : kat Ks core.toNat = ⟨a, n, c, L⟩) (hm : ¬ May L) : stA Ks cn core = ([], 1) := by unfold stA; rw [if_pos h, hk, if_neg hm]
theorem stA_ok {Ks : List CoreR} {cn : Nat} {core : Int} {a n c L} (h : 0 ≤ core ∧ core < cn) (hk : kat Ks core.toNat = ⟨a, n, c, L⟩) (hm : May L) : stA Ks cn core = (bgs L n, 0) := by unfold stA; rw [if_pos h, hk, if_pos hm]
theorem stA_len {w0 : World} {F : List Atom} {ca : Option Addr} {Ks : List CoreR} {cn : Nat} {core : Int} (hC : CR w0 F ca cn Ks) : (stA Ks cn core).1.length ≤ 16 := by
  unfold stA
  split
  · rename_i h
    split
    · rename_i hm
      rw [bgs_len, hC.ns _ (by omega)]; exact hm.2.1
    · exact Nat.zero_le _
  · exact Nat.zero_le _
theorem starts_fn (w0 : World) (F : List Atom) (fr mj kr rm : Int) (ca pa ha : Option Addr) (cn cc pn pc hn hc : Nat) (Ks : List CoreR) (hCR : CR w0 F ca cn Ks) (hcn : cn ≤ 9223372036854775807) (hpn : pn ≤ 9223372036854775807) (hmj : I64 mj) (core : Int) (q0 : -9223372036854775808 ≤ core) (q1 : core ≤ 9223372036854775807) : CallK Try.prog 15 [.agg [Value.int .i64 fr, .int .i64 mj, .int .i64 kr, .int .i64 rm, .slice ca cn cc, .slice pa pn pc, .slice ha hn hc].toArray, .int .i64 core] w0 F (Gives w0 fun v F2 => ∃ u, v = .tuple #[u, .int .i64 (stA Ks cn core).2] ∧ F2 = Own 3 1 u (stA Ks cn core).1.length (ints .i64 (stA Ks cn core).1) :: F) := by
  by_cases ho : 0 ≤ core ∧ core < cn
  · obtain ⟨⟨a, n, c, L⟩, hk⟩ : ∃ K, kat Ks core.toNat = K := ⟨_, rfl⟩
    by_cases hm : May L
    · rw [stA_ok ho hk hm]
      simp only [bgs_len]
      refine (starts_ok w0 F fr mj kr rm ca pa ha cn cc pn pc hn hc Ks hCR hcn hpn hmj core q0 q1 ho a n c L hk hm).gmono fun v F2 h => ?_
      obtain ⟨g, cg, h1, h2, h3⟩ := h
      exact ⟨_, h1, h3⟩
    · rw [stA_bad ho hk hm]
      refine (starts_bad w0 F fr mj kr rm ca pa ha cn cc pn pc hn hc Ks hCR hcn hpn hmj core q0 q1 ho a n c L hk hm).mono fun en F2 h => ?_
      obtain ⟨v, F', h1, ⟨h2, h3⟩, h4⟩ := h
      exact ⟨v, _, h1, ⟨_, h2, rfl⟩, fun w hw => by have := h4 w hw; rw [h3] at this; exact this.own_nil _ _⟩
  · rw [stA_out (by omega)]
    refine (starts_out w0 F fr mj kr rm ca pa ha cn cc pn pc hn hc Ks hCR hcn hpn hmj core q0 q1 (by omega)).mono fun en F2 h => ?_
    obtain ⟨v, F', h1, ⟨h2, h3⟩, h4⟩ := h
    exact ⟨v, _, h1, ⟨_, h2, rfl⟩, fun w hw => by have := h4 w hw; rw [h3] at this; exact this.own_nil _ _⟩
theorem rstarts_fn (w0 : World) (F : List Atom) (fr mj kr rm : Int) (ca pa ha : Option Addr) (cn cc pn pc hn hc : Nat) (Ks : List CoreR) (hCR : CR w0 F ca cn Ks) (hcn : cn ≤ 9223372036854775807) (hpn : pn ≤ 9223372036854775807) (hmj : I64 mj) (core : Int) (q0 : -9223372036854775808 ≤ core) (q1 : core ≤ 9223372036854775807) : CallK Try.prog 18 [.agg [Value.int .i64 fr, .int .i64 mj, .int .i64 kr, .int .i64 rm, .slice ca cn cc, .slice pa pn pc, .slice ha hn hc].toArray, .int .i64 core] w0 F (Gives w0 fun v F2 => ∃ u, v = .tuple #[u, .int .i64 (stA Ks cn core).2] ∧ F2 = Own 3 1 u (stA Ks cn core).1.length (ints .i64 (stA Ks cn core).1) :: F) := by
  by_cases ho : 0 ≤ core ∧ core < cn
  · obtain ⟨⟨a, n, c, L⟩, hk⟩ : ∃ K, kat Ks core.toNat = K := ⟨_, rfl⟩
    by_cases hm : May L
    · rw [stA_ok ho hk hm]
      simp only [bgs_len]
      refine (rstarts_ok w0 F fr mj kr rm ca pa ha cn cc pn pc hn hc Ks hCR hcn hpn hmj core q0 q1 ho a n c L hk hm).gmono fun v F2 h => ?_
      obtain ⟨u, h1, h3⟩ := h
      exact ⟨u, h1, h3⟩
    · rw [stA_bad ho hk hm]
      refine (rstarts_bad w0 F fr mj kr rm ca pa ha cn cc pn pc hn hc Ks hCR hcn hpn hmj core q0 q1 ho a n c L hk hm).mono fun en F2 h => ?_
      obtain ⟨v, F', h1, ⟨h2, h3⟩, h4⟩ := h
      exact ⟨v, _, h1, ⟨_, h2, rfl⟩, fun w hw => by have := h4 w hw; rw [h3] at this; exact this.own_nil _ _⟩
  · rw [stA_out (by omega)]
    refine (rstarts_out w0 F fr mj kr rm ca pa ha cn cc pn pc hn hc Ks hCR hcn hpn hmj core q0 q1 (by omega)).mono fun en F2 h => ?_
    obtain ⟨v, F', h1, ⟨h2, h3⟩, h4⟩ := h
    exact ⟨v, _, h1, ⟨_, h2, rfl⟩, fun w hw => by have := h4 w hw; rw [h3] at this; exact this.own_nil _ _⟩
end Go.Proofs.Ytfccfjgnoeocnaa.Fw
