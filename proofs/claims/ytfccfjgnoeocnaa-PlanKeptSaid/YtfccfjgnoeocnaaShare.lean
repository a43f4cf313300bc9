import Derived.Test.YtfccfjgnoeocnaaSpans
namespace Go.Proofs.Ytfccfjgnoeocnaa.Fw
open Go Go.Proofs
set_option linter.unusedVariables false
set_option linter.unusedSimpArgs false
set_option maxRecDepth 10000
theorem fa_27_1 (a : Addr) (w : World) : (Instr.fieldAt 27 (.pointer (some a)) 1).run Try.prog w = .ok (.pointer (some (a.add 1))) w := by
  simp [Instr.fieldAt, Try.runUnderlying27, Instr.sureAddr, fieldPlace, Try.sizeOf3, Sem.run_bind, Sem.run_pure]
theorem spans_any (w0 : World) (F : List Atom) (fr mj kr rm : Int) (ca pa ha : Option Addr) (cn cc pn pc hn hc : Nat) (Ks : List CoreR) (hCR : CR w0 F ca cn Ks) (hcn : cn ≤ 9223372036854775807) (hpn : pn ≤ 9223372036854775807) (hmj : I64 mj) (p : Int) (p0 : -9223372036854775808 ≤ p) (p1 : p ≤ 9223372036854775807) (hcn2 : cn ≤ 2147483647) : CallK Try.prog 22 [.agg [Value.int .i64 fr, .int .i64 mj, .int .i64 kr, .int .i64 rm, .slice ca cn cc, .slice pa pn pc, .slice ha hn hc].toArray, .int .i64 p] w0 F (Gives w0 fun v F2 => ∃ u e l, v = .tuple #[u, .int .i64 e] ∧ F2 = Own 52 4 u l.length (spRows l) :: F ∧ (e = 0 → (0 ≤ p ∧ p < pn) ∧ AllMay Ks cn ∧ spC p Ks cn = l) ∧ (e ≠ 0 → (e = 142 ∧ ¬ (0 ≤ p ∧ p < pn)) ∨ (e = 1 ∧ (0 ≤ p ∧ p < pn) ∧ ¬ AllMay Ks cn))) := by
  have nl : ∀ w, Holds w0 F w → Holds w0 (Own 52 4 (.slice none 0 0) ([] : List Span).length (spRows []) :: F) w := fun w hw => hw.own_nil _ _
  by_cases ho : 0 ≤ p ∧ p < pn
  · refine (spans_in w0 F fr mj kr rm ca pa ha cn cc pn pc hn hc Ks hCR hcn hpn hmj p p0 p1 ho hcn2).mono fun en F2 h => ?_
    obtain ⟨v, F', h1, h2, h3⟩ := h
    rcases h2 with ⟨u, h4, h5, h6⟩ | ⟨h4, h5, h6⟩
    · exact ⟨v, F', h1, ⟨u, 0, _, h4, h6, fun _ => ⟨ho, h5, rfl⟩, fun h => absurd rfl h⟩, h3⟩
    · exact ⟨v, _, h1, ⟨_, 1, [], h4, rfl, (fun h => absurd h (by decide)), fun _ => .inr ⟨rfl, ho, h5⟩⟩, fun w hw => nl w (by have := h3 w hw; rwa [h6] at this)⟩
  · refine (spans_out w0 F fr mj kr rm ca pa ha cn cc pn pc hn hc Ks hCR hcn hpn hmj p p0 p1 (by omega)).mono fun en F2 h => ?_
    obtain ⟨v, F', h1, ⟨h4, h6⟩, h3⟩ := h
    exact ⟨v, _, h1, ⟨_, 142, [], h4, rfl, (fun h => absurd h (by decide)), fun _ => .inl ⟨rfl, ho⟩⟩, fun w hw => nl w (by have := h3 w hw; rwa [h6] at this)⟩
def Fills (Ks : List CoreR) (n : Nat) (mj : Int) : Prop := ∀ k : Nat, k < n → bg (kat Ks k).L (kat Ks k).n = mj
def Full (Ks : List CoreR) (cn : Nat) (mj : Int) : Prop := AllMay Ks cn ∧ 1 ≤ mj ∧ mj ≤ 16384 ∧ Fills Ks cn mj
theorem fills_next {Ks : List CoreR} {k mj : Int} {a n c L} (hk : kat Ks k.toNat = ⟨a, n, c, L⟩) (h0 : 0 ≤ k) (hm : bg L n = mj) (h : Fills Ks k.toNat mj) : Fills Ks (k + 1).toNat mj := by
  intro j hj
  by_cases hh : j < k.toNat
  · exact h j hh
  · have : j = k.toNat := by omega
    rw [this, hk]; exact hm
theorem g_nilS {P : Program} {f : FuncId} {w0 : World} {K : Post} {n : Nat} {d : List Deferred} {k : List Item} {e : Env} {F : List Atom} (T : Nat) (h : G P f w0 K n d k e (Own T 4 (.slice none 0 0) ([] : List Span).length (spRows []) :: F)) : G P f w0 K n d k e F := g_own_nil T 4 h
theorem fills_bad {Ks : List CoreR} {k mj : Int} {a n c L cn} (hk : kat Ks k.toNat = ⟨a, n, c, L⟩) (h0 : k.toNat < cn) (hm : ¬ bg L n = mj) (h : Full Ks cn mj) : False := hm (by have := h.2.2.2 k.toNat h0; rwa [hk] at this)
theorem filled_any (w0 : World) (F : List Atom) (fr mj kr rm : Int) (ca pa ha : Option Addr) (cn cc pn pc hn hc : Nat) (Ks : List CoreR) (hCR : CR w0 F ca cn Ks) (hcn : cn ≤ 9223372036854775807) (hpn : pn ≤ 9223372036854775807) (hmj : I64 mj) (p : Int) (p0 : -9223372036854775808 ≤ p) (p1 : p ≤ 9223372036854775807) (hcn2 : cn ≤ 2147483647) :
    CallK Try.prog 43 [.agg [Value.int .i64 fr, .int .i64 mj, .int .i64 kr, .int .i64 rm, .slice ca cn cc, .slice pa pn pc, .slice ha hn hc].toArray, .int .i64 p] w0 (F) (Gives w0 fun v F2 => ∃ u e l, v = .tuple #[u, .int .i64 e] ∧ F2 = Own 52 4 u l.length (spRows l) :: F ∧ (e = 0 → (0 ≤ p ∧ p < pn) ∧ Full Ks cn mj ∧ spC p Ks cn = l) ∧ (e ≠ 0 → (e = 142 ∧ ¬ (0 ≤ p ∧ p < pn)) ∨ (e = 1 ∧ (0 ≤ p ∧ p < pn) ∧ ¬ Full Ks cn mj))) := by
  have hCl := hCR.1
  unfold I64 at hmj
  refine c_enter Try.func43 rfl rfl rfl ?_
  refine g_seq ?_
  refine g_region ?_
  refine l_boxs rfl rfl ?_; intro b2
  refine l_assign rfl rfl ?_
  refine l_assign rfl rfl ?_
  refine l_nil ?_
  refine g_seq ?_
  refine g_region ?_
  refine l_lds rfl Try.isAgg27 Try.sizeOf27 rfl rfl ?_
  refine l_move rfl rfl ?_
  refine l_call rfl Try.call22 rfl (spans_any _ _ fr mj kr rm ca pa ha cn cc pn pc hn hc Ks hCR.ex hcn hpn hmj p p0 p1 hcn2) ?_; rintro _ _ ⟨u, e, l, rfl, rfl, hgo, hno⟩
  refine l_move rfl rfl ?_
  refine l_extract rfl rfl rfl ?_
  refine l_extract rfl rfl rfl ?_
  refine l_assign rfl rfl ?_
  refine l_assign rfl rfl ?_
  refine l_nil ?_
  refine g_seq ?_
  refine g_seq ?_
  refine g_region ?_
  refine l_move rfl rfl ?_
  refine l_neq rfl rfl rfl ?_
  refine l_nil ?_
  refine g_cond rfl ?_ ?_
  · intro hbr
    have hbr := of_decide_eq_true hbr
    refine g_seq ?_
    refine g_region ?_
    refine l_move rfl rfl ?_
    refine l_assign rfl rfl ?_
    refine l_assign rfl rfl ?_
    refine l_nil ?_
    refine g_nilS 52 ?_
    refine g_ret Try.func43 rfl (.tmp rfl (.tmp rfl .nil)) ?_
    (first | exact Gives.mki ⟨u, 0, l, rfl, rfl, fun _ => ⟨hgi, ⟨hga, by omega, by omega, hfl⟩, hgl⟩, fun h => absurd rfl h⟩ | exact Gives.mki ⟨.slice none 0 0, _, [], rfl, rfl, (fun h => absurd h (by first | decide | omega)), fun _ => .inr ⟨rfl, hgi, fun h => fills_bad hk (by omega) (fun h2 => by omega) h⟩⟩ | exact Gives.mki ⟨.slice none 0 0, _, [], rfl, rfl, (fun h => absurd h (by first | decide | omega)), fun _ => .inr ⟨rfl, hgi, fun h => by have h1 := h.2.1; have h2 := h.2.2.1; omega⟩⟩ | exact Gives.mki ⟨.slice none 0 0, _, [], rfl, rfl, (fun h => absurd h (by first | decide | omega)), fun _ => (hno hbr).imp id fun h => ⟨h.1, h.2.1, fun h2 => h.2.2 h2.1⟩⟩)
  intro hbr
  have hbr := of_decide_eq_false hbr
  refine g_skip ?_
  refine g_seq ?_
  refine g_seq ?_
  refine g_region ?_
  obtain ⟨hgi, hga, hgl⟩ := hgo (Classical.not_not.1 hbr)
  have hgo := And.intro hgi (And.intro hga hgl)
  refine l_fieldAddr rfl fa_27_1 rfl ?_
  first | refine l_ld rfl Try.isAgg3 rfl rfl ?_ | refine l_ldw rfl Try.isAgg3 rfl (by omega) ?_
  refine l_lss rfl rfl rfl ?_
  refine l_move rfl rfl ?_
  refine l_split 25 rfl ?_ ?_
  · intro hbr
    have hbr := of_decide_eq_true hbr
    refine l_guard_no rfl rfl rfl ?_
    refine l_guard_no rfl rfl rfl ?_
    refine l_guard_no rfl rfl rfl ?_
    refine l_pick_t rfl rfl rfl ?_
    refine l_nil ?_
    first | refine g_cond_t rfl ?_ | refine g_cond_t (congrArg (fun b => some (Value.bool b)) (decide_eq_true hbr)) ?_
    refine g_seq ?_
    refine g_region ?_
    refine l_assign rfl rfl ?_
    refine l_assign rfl rfl ?_
    refine l_nil ?_
    refine g_nilS 52 ?_
    refine g_ret Try.func43 rfl (.tmp rfl (.tmp rfl .nil)) ?_
    (first | exact Gives.mki ⟨u, 0, l, rfl, rfl, fun _ => ⟨hgi, ⟨hga, by omega, by omega, hfl⟩, hgl⟩, fun h => absurd rfl h⟩ | exact Gives.mki ⟨.slice none 0 0, _, [], rfl, rfl, (fun h => absurd h (by first | decide | omega)), fun _ => .inr ⟨rfl, hgi, fun h => fills_bad hk (by omega) (fun h2 => by omega) h⟩⟩ | exact Gives.mki ⟨.slice none 0 0, _, [], rfl, rfl, (fun h => absurd h (by first | decide | omega)), fun _ => .inr ⟨rfl, hgi, fun h => by have h1 := h.2.1; have h2 := h.2.2.1; omega⟩⟩ | exact Gives.mki ⟨.slice none 0 0, _, [], rfl, rfl, (fun h => absurd h (by first | decide | omega)), fun _ => (hno hbr).imp id fun h => ⟨h.1, h.2.1, fun h2 => h.2.2 h2.1⟩⟩)
  intro hbr
  have hbr := of_decide_eq_false hbr
  refine l_guard_yes rfl rfl ?_
  refine l_fieldAddr rfl fa_27_1 rfl ?_
  refine l_guard_yes rfl rfl ?_
  first | refine l_ld rfl Try.isAgg3 rfl rfl ?_ | refine l_ldw rfl Try.isAgg3 rfl (by omega) ?_
  refine l_guard_yes rfl rfl ?_
  refine l_gtr rfl rfl rfl ?_
  refine l_pick_f rfl rfl rfl ?_
  refine l_nil ?_
  refine g_cond rfl ?_ ?_
  · intro hbr
    have hbr := of_decide_eq_true hbr
    refine g_seq ?_
    refine g_region ?_
    refine l_assign rfl rfl ?_
    refine l_assign rfl rfl ?_
    refine l_nil ?_
    refine g_nilS 52 ?_
    refine g_ret Try.func43 rfl (.tmp rfl (.tmp rfl .nil)) ?_
    (first | exact Gives.mki ⟨u, 0, l, rfl, rfl, fun _ => ⟨hgi, ⟨hga, by omega, by omega, hfl⟩, hgl⟩, fun h => absurd rfl h⟩ | exact Gives.mki ⟨.slice none 0 0, _, [], rfl, rfl, (fun h => absurd h (by first | decide | omega)), fun _ => .inr ⟨rfl, hgi, fun h => fills_bad hk (by omega) (fun h2 => by omega) h⟩⟩ | exact Gives.mki ⟨.slice none 0 0, _, [], rfl, rfl, (fun h => absurd h (by first | decide | omega)), fun _ => .inr ⟨rfl, hgi, fun h => by have h1 := h.2.1; have h2 := h.2.2.1; omega⟩⟩ | exact Gives.mki ⟨.slice none 0 0, _, [], rfl, rfl, (fun h => absurd h (by first | decide | omega)), fun _ => (hno hbr).imp id fun h => ⟨h.1, h.2.1, fun h2 => h.2.2 h2.1⟩⟩)
  intro hbr
  have hbr := of_decide_eq_false hbr
  refine g_skip ?_
  refine g_seq ?_
  refine g_seq ?_
  refine g_region ?_
  refine l_fieldAddr rfl fa_27_4 rfl ?_
  refine l_ld rfl Try.isAgg23 rfl rfl ?_
  refine l_len rfl Try.underlying23 rfl ?_
  refine l_move rfl rfl ?_
  refine l_nil ?_
  refine g_block ?_
  refine g_loop (X := Int) (fun k => 0 ≤ k ∧ k ≤ cn ∧ Fills Ks k.toNat mj) (fun k => (cn - k).toNat) (fun k => [(2, .pointer (some ⟨b2, 0, none⟩)), (6, u), (31, .slice ca cn cc), (32, .int .i64 cn), (33, .int .i64 k)]) (fun k => Own 52 4 u l.length (spRows l) :: Blk b2 (.cells [.int .i64 fr, .int .i64 mj, .int .i64 kr, .int .i64 rm, .slice ca cn cc, .slice pa pn pc, .slice ha hn hc].toArray 27 (0, 0)) :: F) 0 ⟨by omega, by omega, fun j hj => by simp at hj⟩ (.cons rfl (.cons rfl (.cons rfl (.cons rfl (.cons rfl (.nil)))))) (fun w hw => SPI.holds hw) ?_
  rintro k ⟨k0, k1, hfl⟩ ih
  obtain ⟨⟨a, n, c, L⟩, hk⟩ : ∃ K, kat Ks k.toNat = K := ⟨_, rfl⟩
  refine g_seq ?_
  refine g_region ?_
  refine l_lss rfl rfl rfl ?_
  refine l_nil ?_
  refine g_seq ?_
  refine g_cond rfl ?_ ?_
  · intro hbr
    have hbr := of_decide_eq_true hbr
    refine g_skip ?_
    refine g_seq ?_
    refine g_block ?_
    refine g_seq ?_
    refine g_region ?_
    obtain ⟨b8, o8, rfl, hr8⟩ := hCR.some (i := k.toNat) (by omega)
    refine l_ixs rfl Try.underlying23 Try.sizeOf38 rfl rfl (by omega) (by omega) ?_
    obtain ⟨hW, hn9⟩ := hCR.ok hk (by omega)
    have hL := hW.1
    have hI := hW.2.1
    unfold I64 at hI
    refine l_loadc rfl Try.isAgg38 rfl (core_cell hr8.ex hk (by omega)) ?_
    refine l_assign rfl rfl ?_
    refine l_nil ?_
    refine g_seq ?_
    refine g_region ?_
    refine l_move rfl rfl ?_
    refine l_call rfl Try.call37 rfl (frame_any _ _ a n c L hW.ex hn9) ?_; rintro _ _ ⟨u5, m5, e5, ok, rfl, rfl, hok, hbad⟩
    have hmay := hgo.2.1 k.toNat (by omega)
    rw [hk] at hmay
    obtain rfl : ok = true := by
      cases ok with
      | true => rfl
      | false => exact absurd hmay (hbad rfl).1
    obtain ⟨_, rfl, rfl, _⟩ := hok rfl
    refine l_move rfl rfl ?_
    refine l_extract rfl rfl rfl ?_
    refine l_extract rfl rfl rfl ?_
    refine l_extract rfl rfl rfl ?_
    refine l_assign rfl rfl ?_
    refine l_assign rfl rfl ?_
    refine l_assign rfl rfl ?_
    refine l_nil ?_
    refine g_seq ?_
    refine g_region ?_
    refine l_move rfl rfl ?_
    refine l_fieldAddr rfl fa_27_1 rfl ?_
    first | refine l_ld rfl Try.isAgg3 rfl rfl ?_ | refine l_ldw rfl Try.isAgg3 rfl (by omega) ?_
    refine l_neq rfl rfl rfl ?_
    refine l_nil ?_
    refine g_cond rfl ?_ ?_
    · intro hbr
      have hbr := of_decide_eq_true hbr
      refine g_seq ?_
      refine g_region ?_
      refine l_assign rfl rfl ?_
      refine l_assign rfl rfl ?_
      refine l_nil ?_
      refine g_nilS 52 ?_
      refine g_ret Try.func43 rfl (.tmp rfl (.tmp rfl .nil)) ?_
      (first | exact Gives.mki ⟨u, 0, l, rfl, rfl, fun _ => ⟨hgi, ⟨hga, by omega, by omega, hfl⟩, hgl⟩, fun h => absurd rfl h⟩ | exact Gives.mki ⟨.slice none 0 0, _, [], rfl, rfl, (fun h => absurd h (by first | decide | omega)), fun _ => .inr ⟨rfl, hgi, fun h => fills_bad hk (by omega) (fun h2 => by omega) h⟩⟩ | exact Gives.mki ⟨.slice none 0 0, _, [], rfl, rfl, (fun h => absurd h (by first | decide | omega)), fun _ => .inr ⟨rfl, hgi, fun h => by have h1 := h.2.1; have h2 := h.2.2.1; omega⟩⟩ | exact Gives.mki ⟨.slice none 0 0, _, [], rfl, rfl, (fun h => absurd h (by first | decide | omega)), fun _ => (hno hbr).imp id fun h => ⟨h.1, h.2.1, fun h2 => h.2.2 h2.1⟩⟩)
    intro hbr
    have hbr := of_decide_eq_false hbr
    refine g_skip ?_
    refine g_inBlock ?_
    refine g_region ?_
    first | refine l_add rfl rfl rfl (w_i64 (by omega) (by omega)) ?_ | refine l_addw rfl rfl rfl ?_
    refine l_move rfl rfl ?_
    refine l_nil ?_
    exact g_againi (ih (k + 1) ⟨by omega, by omega, fills_next hk k0 (by omega) hfl⟩ (by omega)) (.cons rfl (.cons rfl (.cons rfl (.cons rfl (.cons rfl (.nil))))))
  intro hbr
  have hbr := of_decide_eq_false hbr
  refine g_exit rfl ?_
  obtain rfl : k = cn := by omega
  rw [Int.toNat_natCast] at hfl
  refine g_seq ?_
  refine g_region ?_
  refine l_move rfl rfl ?_
  refine l_assign rfl rfl ?_
  refine l_assign rfl rfl ?_
  refine l_nil ?_
  refine g_nilS 52 ?_
  refine g_ret Try.func43 rfl (.tmp rfl (.tmp rfl .nil)) ?_
  (first | exact Gives.mki ⟨u, 0, l, rfl, rfl, fun _ => ⟨hgi, ⟨hga, by omega, by omega, hfl⟩, hgl⟩, fun h => absurd rfl h⟩ | exact Gives.mki ⟨.slice none 0 0, _, [], rfl, rfl, (fun h => absurd h (by first | decide | omega)), fun _ => .inr ⟨rfl, hgi, fun h => fills_bad hk (by omega) (fun h2 => by omega) h⟩⟩ | exact Gives.mki ⟨.slice none 0 0, _, [], rfl, rfl, (fun h => absurd h (by first | decide | omega)), fun _ => .inr ⟨rfl, hgi, fun h => by have h1 := h.2.1; have h2 := h.2.2.1; omega⟩⟩ | exact Gives.mki ⟨.slice none 0 0, _, [], rfl, rfl, (fun h => absurd h (by first | decide | omega)), fun _ => (hno hbr).imp id fun h => ⟨h.1, h.2.1, fun h2 => h.2.2 h2.1⟩⟩)
end Go.Proofs.Ytfccfjgnoeocnaa.Fw
