import Derived.Test.YthemlddepepekaaChainX
namespace Go.Proofs.Ythemlddepepekaa.Fw
open Go Go.Proofs
set_option linter.unusedVariables false
set_option linter.unusedSimpArgs false
set_option maxRecDepth 10000
theorem bd_84_0 (a0_0 : Option Addr) (n0_0 c0_0 : Nat) (w : World) : (Instr.build 84 #[(0, .slice a0_0 n0_0 c0_0)]).run Try.prog w = .ok (.agg #[.slice a0_0 n0_0 c0_0, .int .i64 0, .bool false, .slice none 0 0]) w := by kernel_rfl
theorem bd_84_0_1_2_3 (a0_0 : Option Addr) (n0_0 c0_0 : Nat) (a1_0 : Int) (a2_0 : Bool) (a3_0 : Option Addr) (n3_0 c3_0 : Nat) (w : World) : (Instr.build 84 #[(0, .slice a0_0 n0_0 c0_0), (1, .int .i64 a1_0), (2, .bool a2_0), (3, .slice a3_0 n3_0 c3_0)]).run Try.prog w = .ok (.agg #[.slice a0_0 n0_0 c0_0, .int .i64 a1_0, .bool a2_0, .slice a3_0 n3_0 c3_0]) w := by kernel_rfl
section
variable {P : Program} {f : FuncId} {w0 : World} {K : Post} {n : Nat} {d : List Deferred} {ops : Array Oper} {rest : List Oper} {k : List Item} {e : Env} {F : List Atom}
variable {ty : TypeId} {pos : String} {aft : Array Edge}
theorem l_quot {t x y a b T T2} {kd : IntKind} (ht : Nat.ble (t + 1) n = true) (hx : evO e x = some (.int kd a)) (hy : evO e y = some (.int kd b)) (h1 : 0 < b) (hw' : kd.wrap (a.tdiv b) = a.tdiv b)
    (hk : GL P f w0 K n d ops rest k ((t, .int kd (a.tdiv b)) :: e) F) : GL P f w0 K n d ops (.mk (some t) (.binOp .quo T x y T2) ty pos aft none :: rest) k e F :=
  l_val ht (fun A w ha hw => by
    have hb : b ≠ 0 := by omega
    simp only [execOp, ha _ _ hx, ha _ _ hy, eqGuard, binOp, Op.intDiv]
    simp [hb, hw', go_sem]) hk
end
theorem g_wnil {P : Program} {f : FuncId} {w0 : World} {K : Post} {n : Nat} {d : List Deferred} {k : List Item} {e : Env} {F : List Atom} (E : Nat) (kd : IntKind) (h : G P f w0 K n d k e (Own E 1 (.slice none 0 0) 0 (ints kd []) :: F)) : G P f w0 K n d k e F := g_own_nil E 1 h
theorem gp_frontv {P : Program} {f : FuncId} {w0 : World} {K : Post} {n : Nat} {d : List Deferred} {ops : Array Oper} {k : List Item} {e : Env} {F : List Atom} (v : Value) {D A : List Nat} {B F'} [h : FrontV F v B F'] (hk : GP P f w0 K n d ops k D A e (B :: F')) : GP P f w0 K n d ops k D A e F := fun hreg hac hPA hp => by
  intro X hX fuel listed a w h1 h2 h3 h4 hw
  exact hk hreg hac hPA (hp.perm h.perm) X hX fuel listed a w h1 h2 h3 h4 (hw.perm h.perm)
def pk (c n : Int) : Int := (if c < 0 then -(c + 1) else c) % n
theorem pk_neg {c n : Int} (h : c < 0) : -(c + 1) % n = pk c n := by simp [pk, h]
theorem pk_pos {c n : Int} (h : ¬ c < 0) : c % n = pk c n := by simp [pk, h]
theorem pk_lt (c : Int) {n : Int} (h : 0 < n) : 0 ≤ pk c n ∧ pk c n < n := ⟨Int.emod_nonneg _ (by omega), Int.emod_lt_of_pos _ h⟩
theorem tdiv_bd {c b : Int} (hb : 0 < b) (h0 : -9223372036854775808 ≤ c) (h1 : c ≤ 9223372036854775807) : -9223372036854775808 ≤ c.tdiv b ∧ c.tdiv b ≤ 9223372036854775807 := by
  obtain ⟨m, rfl⟩ := Int.eq_ofNat_of_zero_le (Int.le_of_lt hb)
  have hm : 0 < m := by omega
  rcases Int.le_total 0 c with h | h
  · rw [Int.tdiv_eq_ediv_of_nonneg h]
    have := Int.ediv_le_self (m : Int) h
    have := Int.ediv_nonneg h (Int.le_of_lt hb)
    omega
  · obtain ⟨x, rfl⟩ : ∃ x, c = -x := ⟨-c, by omega⟩
    rw [Int.neg_tdiv]
    have hx : 0 ≤ x := by omega
    rw [Int.tdiv_eq_ediv_of_nonneg hx]
    have := Int.ediv_le_self (m : Int) hx
    have := Int.ediv_nonneg hx (Int.le_of_lt hb)
    omega
/-- The locks of a play. -/
def pkL (X : List Int) (k : Nat) : List Int := (List.range k).map fun j => pk (X.getD j 0) 34
theorem pkL_len (X : List Int) (k : Nat) : (pkL X k).length = k := by simp [pkL]
theorem pkL_succ (X : List Int) (k : Nat) : pkL X k ++ [pk (X.getD k 0) 34] = pkL X (k + 1) := by simp [pkL, List.range_succ]
theorem pkL_bd (X : List Int) (k : Nat) : I64s (pkL X k) := by
  intro i
  rcases Nat.lt_or_ge i k with h | h
  · have e : (pkL X k).getD i 0 = pk (X.getD i 0) 34 := by simp [pkL, List.getD_eq_getElem?_getD, h]
    have := pk_lt (X.getD i 0) (show (0 : Int) < 34 by decide)
    rw [e]; omega
  · have e : (pkL X k).getD i 0 = 0 := by simp [pkL, List.getD_eq_getElem?_getD, show ¬ i < k by omega]
    rw [e]; decide
def ActG (n : Nat) (W L : List Int) (h : Int) (q : Bool) (T : List Int) (kind : Int) (b : Bool) (e : Int) (W2 : List Int) (h2 : Int) (q2 : Bool) (T2 : List Int) : Prop := (pk kind 3 = 2 ∧ BackG n W L h q T b e W2 h2 q2 T2) ∨ (pk kind 3 ≠ 2 ∧ StepG n W L h q T b e W2 h2 q2 T2)
theorem ActG.same {n : Nat} {W L T : List Int} {h : Int} {q b b3 : Bool} {kind e e3 : Int} {W2 W3 T2 T3 : List Int} {h2 h3 : Int} {q2 q3 : Bool} (H1 : ActG n W L h q T kind b e W2 h2 q2 T2) (H2 : ActG n W L h q T kind b3 e3 W3 h3 q3 T3) : b = b3 ∧ e = e3 ∧ W2 = W3 ∧ h2 = h3 ∧ q2 = q3 ∧ T2 = T3 := by
  rcases H1 with ⟨a, H1⟩ | ⟨a, H1⟩ <;> rcases H2 with ⟨c, H2⟩ | ⟨c, H2⟩
  · exact H1.same H2
  · exact absurd a c
  · exact absurd c a
  · exact H1.same H2
theorem ActG.ok {n : Nat} {W L T : List Int} {h : Int} {q b : Bool} {kind e : Int} {W2 T2 : List Int} {h2 : Int} {q2 : Bool} (H : ActG n W L h q T kind b e W2 h2 q2 T2) (hc : ChOk L.length h q T.length) : ChOk L.length h2 q2 T2.length := by
  rcases H with ⟨_, H⟩ | ⟨_, H⟩
  · exact H.ok hc
  · exact H.ok hc
def FrS (n : Nat) (W : List Int) (kind : Int) (W2 : List Int) : Prop := ((inR n (pk (kind.tdiv 3) 34 + 1) 1 ∧ pk (kind.tdiv 7) 3 = 1) ∧ ∃ e, FreG W n (pk (kind.tdiv 3) 34) (W.getD (pk (kind.tdiv 3) 34 + 1).toNat 0) e W2) ∨ (¬ (inR n (pk (kind.tdiv 3) 34 + 1) 1 ∧ pk (kind.tdiv 7) 3 = 1) ∧ W2 = W)
theorem FrS.same {n : Nat} {W W2 W3 : List Int} {kind : Int} (h1 : FrS n W kind W2) (h2 : FrS n W kind W3) : W2 = W3 := by
  rcases h1 with ⟨a, e, b⟩ | ⟨a, b⟩ <;> rcases h2 with ⟨a2, e2, b2⟩ | ⟨a2, b2⟩
  · exact (b.same b2).2
  · exact absurd a a2
  · exact absurd a2 a
  · exact b.trans b2.symm
theorem getD_i64 {X : List Int} (h : ∀ x ∈ X, -9223372036854775808 ≤ x ∧ x ≤ 9223372036854775807) : I64s X := by
  intro i
  rcases Nat.lt_or_ge i X.length with hi | hi
  · have e : X.getD i 0 = X[i] := by simp [hi]
    rw [e]; exact h _ (List.getElem_mem _)
  · have e : X.getD i 0 = 0 := by simp [List.getD_eq_getElem?_getD, hi]
    rw [e]; decide
theorem ir_old {W : World} {kd : IntKind} {a : Option Addr} {n c : Nat} {X : List Int} (hl : X.length = n) (hx : (n = 0 ∧ (a = none → c = 0)) ∨ ∃ b o, a = some ⟨b, o, none⟩ ∧ ∀ (j : Nat) u, (ints kd X)[j]? = some u → W.cell? ⟨b, o + j, none⟩ = some u) : IR W [Old W] kd a n X := by
  refine ⟨hl, ?_⟩
  rcases hx with ⟨h, _⟩ | ⟨b, o, h, hr⟩
  · exact .inl h
  · exact .inr ⟨b, o, h, RowAt.old (by simp) hr⟩
theorem wf_i64' {a : Int} (h : (Lit.int .i64 a).wf = true) : -9223372036854775808 ≤ a ∧ a ≤ 9223372036854775807 := by
  simp [Lit.wf, IntKind.min, IntKind.max, IntKind.signed, IntKind.bits] at h
  omega

theorem pick_ok (w0 : World) (F : List Atom) (c n : Int) (c0 : -9223372036854775808 ≤ c) (c1 : c ≤ 9223372036854775807) (n0 : 0 < n) (n1 : n ≤ 9223372036854775807) :
    CallK Try.prog 12 [.int .i64 c, .int .i64 n] w0 (F) (Gives w0 fun v F2 => v = .int .i64 (pk c n) ∧ F2 = F) := by
  refine c_enter Try.func12 rfl rfl rfl ?_
  refine g_seq ?_
  refine g_region ?_
  refine l_assign rfl rfl ?_
  refine l_nil ?_
  refine g_seq ?_
  refine g_seq ?_
  refine g_region ?_
  refine l_move rfl rfl ?_
  refine l_lss rfl rfl rfl ?_
  refine l_nil ?_
  refine g_cond rfl ?_ ?_
  · intro hbr
    have hbr := of_decide_eq_true hbr
    refine g_region ?_
    refine l_move rfl rfl ?_
    first | refine l_add rfl rfl rfl (w_i64 (by omega) (by omega)) ?_ | refine l_addw rfl rfl rfl ?_
    refine l_neg rfl rfl (w_i64 (by omega) (by omega)) ?_
    refine l_assign rfl rfl ?_
    refine l_nil ?_
    refine g_seq ?_
    refine g_region ?_
    refine l_move rfl rfl ?_
    refine l_move rfl rfl ?_
    refine l_rem rfl rfl rfl (by omega) n0 (w_i64 (by have := Int.emod_nonneg (if c < 0 then -(c + 1) else c) (show n ≠ 0 by omega); (first | rw [pk_neg hbr] | rw [pk_pos hbr]); have := pk_lt c n0; omega) (by (first | rw [pk_neg hbr] | rw [pk_pos hbr]); have := pk_lt c n0; omega)) ?_
    refine l_assign rfl rfl ?_
    refine l_nil ?_
    refine g_ret Try.func12 rfl (.tmp rfl .nil) ?_
    (first | exact Gives.mki ⟨by rw [pk_neg hbr]; rfl, rfl⟩ | exact Gives.mki ⟨by rw [pk_pos hbr]; rfl, rfl⟩)
  intro hbr
  have hbr := of_decide_eq_false hbr
  refine g_skip ?_
  refine g_seq ?_
  refine g_region ?_
  refine l_move rfl rfl ?_
  refine l_move rfl rfl ?_
  refine l_rem rfl rfl rfl (by omega) n0 (w_i64 (by have := Int.emod_nonneg (if c < 0 then -(c + 1) else c) (show n ≠ 0 by omega); (first | rw [pk_neg hbr] | rw [pk_pos hbr]); have := pk_lt c n0; omega) (by (first | rw [pk_neg hbr] | rw [pk_pos hbr]); have := pk_lt c n0; omega)) ?_
  refine l_assign rfl rfl ?_
  refine l_nil ?_
  refine g_ret Try.func12 rfl (.tmp rfl .nil) ?_
  (first | exact Gives.mki ⟨by rw [pk_neg hbr]; rfl, rfl⟩ | exact Gives.mki ⟨by rw [pk_pos hbr]; rfl, rfl⟩)
theorem lnew_ok (w0 : World) (F : List Atom) (a : Option Addr) (c : Nat) (X : List Int) (hn : X.length ≤ 8589934592) :
    CallK Try.prog 8 [.slice a X.length c] w0 (Own 3 1 (.slice a X.length c) X.length (ints .i64 X) :: F) (Gives w0 fun v F2 => ∃ b al cl, v = .pointer (some ⟨b, 0, none⟩) ∧ (X.length = 0 ∨ ∃ g, al = some ⟨g, 0, none⟩) ∧ F2 = Blk b (.cells [Value.slice al X.length cl, .int .i64 0, .bool false, .slice none 0 0].toArray 84 (0, 0)) :: Own 3 1 (.slice al X.length cl) X.length (ints .i64 X) :: Own 51 1 (.slice none 0 0) 0 (ints .u32 ([] : List Int)) :: Own 3 1 (.slice a X.length c) X.length (ints .i64 X) :: F) := by
  refine c_enter Try.func8 rfl rfl rfl ?_
  refine g_seq ?_
  refine g_region ?_
  refine l_assign rfl rfl ?_
  refine l_nil ?_
  refine g_seq ?_
  refine g_region ?_
  refine l_move rfl rfl ?_
  refine l_call rfl Try.call31 rfl (clonei_ok _ _ a X.length c X rfl hn) ?_; rintro _ _ ⟨al, cl, rfl, hal, rfl⟩
  refine l_build rfl rfl (fun w => bd_84_0 _ _ _ w) ?_
  refine l_boxs rfl rfl ?_; intro b6
  refine l_assign rfl rfl ?_
  refine l_nil ?_
  refine g_wnil 51 .u32 ?_
  refine g_ret Try.func8 rfl (.tmp rfl .nil) ?_
  exact Gives.mki ⟨b6, al, cl, rfl, hal, rfl⟩
theorem lnew_nil (w0 : World) (F : List Atom)  :
    CallK Try.prog 8 [.slice none 0 0] w0 (F) (Gives w0 fun v F2 => ∃ b, v = .pointer (some ⟨b, 0, none⟩) ∧ F2 = Blk b (.cells [Value.slice none ([] : List Int).length 0, .int .i64 0, .bool false, .slice none 0 0].toArray 84 (0, 0)) :: F) := by
  refine c_enter Try.func8 rfl rfl rfl ?_
  refine g_seq ?_
  refine g_region ?_
  refine l_assign rfl rfl ?_
  refine l_nil ?_
  refine g_seq ?_
  refine g_region ?_
  refine l_move rfl rfl ?_
  refine l_call rfl Try.call31 rfl (clonei_none _ _) ?_; rintro _ _ ⟨rfl, rfl⟩
  refine l_build rfl rfl (fun w => bd_84_0 _ _ _ w) ?_
  refine l_boxs rfl rfl ?_; intro b6
  refine l_assign rfl rfl ?_
  refine l_nil ?_
  refine g_ret Try.func8 rfl (.tmp rfl .nil) ?_
  exact Gives.mki ⟨b6, rfl, rfl⟩
theorem chstate_ok (w0 : World) (F : List Atom) (b : Nat) (al : Option Addr) (cl : Nat) (L : List Int) (h : Int) (q : Bool) (tt : Option Addr) (nt ct : Nat) (T : List Int) (hT : T.length = nt) (hn : nt ≤ 8589934592) :
    CallK Try.prog 14 [.pointer (some ⟨b, 0, none⟩)] w0 (Blk b (.cells [Value.slice al L.length cl, .int .i64 h, .bool q, .slice tt nt ct].toArray 84 (0, 0)) :: Own 51 1 (.slice tt nt ct) nt (ints .u32 T) :: F) (Gives w0 fun v F2 => ∃ a2 c2, v = .tuple #[.int .i64 h, .bool q, .slice a2 nt c2] ∧ (nt = 0 ∨ ∃ g, a2 = some ⟨g, 0, none⟩) ∧ F2 = Own 51 1 (.slice a2 nt c2) nt (ints .u32 T) :: Blk b (.cells [Value.slice al L.length cl, .int .i64 h, .bool q, .slice tt nt ct].toArray 84 (0, 0)) :: Own 51 1 (.slice tt nt ct) nt (ints .u32 T) :: F) := by
  refine c_enter Try.func14 rfl rfl rfl ?_
  refine g_seq ?_
  refine g_region ?_
  refine l_assign rfl rfl ?_
  refine l_assign rfl rfl ?_
  refine l_assign rfl rfl ?_
  refine l_nil ?_
  refine g_seq ?_
  refine g_seq ?_
  refine g_region ?_
  refine l_move rfl rfl ?_
  refine l_eqpn rfl Try.underlying28 rfl rfl ?_
  refine l_nil ?_
  refine g_cond rfl ?_ ?_
  · intro hbr
    first | (exfalso; simp at hbr; done) | (exfalso; simp at hbr; omega)
  intro hbr
  have hb6 := hbr
  refine g_skip ?_
  refine g_seq ?_
  refine gp_start mo (by kernel_rfl) (by kernel_rfl) ?_
  refine gp_quiet 0 rfl rfl rfl rfl rfl rfl (q_move rfl) ?_
  refine gp_quiet 1 rfl rfl rfl rfl rfl rfl (q_nilCheck rfl) ?_
  refine gp_quiet 2 rfl rfl rfl rfl rfl rfl (q_fieldAddr fa_84_1 rfl) ?_
  first | refine gp_quiet 3 rfl rfl rfl rfl rfl rfl (q_ld Try.isAgg3 rfl rfl) ?_ | refine gp_quiet 3 rfl rfl rfl rfl rfl rfl (q_ldw Try.isAgg3 rfl (by omega)) ?_
  refine gp_quiet 4 rfl rfl rfl rfl rfl rfl (q_move rfl) ?_
  refine gp_quiet 5 rfl rfl rfl rfl rfl rfl (q_nilCheck rfl) ?_
  refine gp_quiet 6 rfl rfl rfl rfl rfl rfl (q_fieldAddr fa_84_2 rfl) ?_
  refine gp_quiet 7 rfl rfl rfl rfl rfl rfl (q_ld Try.isAgg4 rfl rfl) ?_
  refine gp_quiet 8 rfl rfl rfl rfl rfl rfl (q_move rfl) ?_
  refine gp_quiet 9 rfl rfl rfl rfl rfl rfl (q_nilCheck rfl) ?_
  refine gp_quiet 10 rfl rfl rfl rfl rfl rfl (q_fieldAddr fa_84_3 rfl) ?_
  refine gp_quiet 11 rfl rfl rfl rfl rfl rfl (q_ld Try.isAgg38 rfl rfl) ?_
  refine gp_frontv (.slice tt nt ct) ?_
  refine gp_effa 12 [11] [10, 9, 8, 7, 6, 5, 4, 3, 2, 1, 0] rfl rfl rfl rfl rfl rfl rfl (does_call Try.call35 rfl (cloneu_ok _ _ tt nt ct T hT hn)) ?_
  rintro _ _ ⟨a2, c2, rfl, ha2, rfl⟩
  refine ⟨?_, ?_⟩
  · refine .cons rfl rfl rfl rfl rfl (q_fieldAddr fa_84_3 rfl) ?_
    refine .cons rfl rfl rfl rfl rfl (q_nilCheck rfl) ?_
    refine .cons rfl rfl rfl rfl rfl (q_move rfl) ?_
    refine .cons rfl rfl rfl rfl rfl (q_ld Try.isAgg4 rfl rfl) ?_
    refine .cons rfl rfl rfl rfl rfl (q_fieldAddr fa_84_2 rfl) ?_
    refine .cons rfl rfl rfl rfl rfl (q_nilCheck rfl) ?_
    refine .cons rfl rfl rfl rfl rfl (q_move rfl) ?_
    first | refine .cons rfl rfl rfl rfl rfl (q_ld Try.isAgg3 rfl rfl) ?_ | refine .cons rfl rfl rfl rfl rfl (q_ldw Try.isAgg3 rfl (by omega)) ?_
    refine .cons rfl rfl rfl rfl rfl (q_fieldAddr fa_84_1 rfl) ?_
    refine .cons rfl rfl rfl rfl rfl (q_nilCheck rfl) ?_
    refine .cons rfl rfl rfl rfl rfl (q_move rfl) ?_
    exact .nil
  refine gp_quiet 13 rfl rfl rfl rfl rfl rfl (q_assign rfl) ?_
  refine gp_quiet 14 rfl rfl rfl rfl rfl rfl (q_assign rfl) ?_
  refine gp_quiet 15 rfl rfl rfl rfl rfl rfl (q_assign rfl) ?_
  refine gp_end rfl rfl ?_
  refine g_ret Try.func14 rfl (.tmp rfl (.tmp rfl (.tmp rfl .nil))) ?_
  exact Gives.mki ⟨a2, c2, rfl, ha2, rfl⟩
set_option maxHeartbeats 4000000 in
theorem restore_ok (w0 : World) (F : List Atom) (a : Option Addr) (c : Nat) (X : List Int) (hn : X.length ≤ 8589934592) (h : Int) (q : Bool) (a2 : Option Addr) (nt c2 : Nat) (T : List Int) (hT : T.length = nt) (hok : ChOk X.length h q nt) :
    CallK Try.prog 28 [.slice a X.length c, .int .i64 h, .bool q, .slice a2 nt c2] w0 (Own 3 1 (.slice a X.length c) X.length (ints .i64 X) :: Own 51 1 (.slice a2 nt c2) nt (ints .u32 T) :: F) (Gives w0 fun v F2 => ∃ b al cl tt ct, v = .tuple #[.pointer (some ⟨b, 0, none⟩), .int .i64 0] ∧ (X.length = 0 ∨ ∃ g, al = some ⟨g, 0, none⟩) ∧ (nt = 0 ∨ ∃ g, tt = some ⟨g, 0, none⟩) ∧ F2 = Blk b (.cells [Value.slice al X.length cl, .int .i64 h, .bool q, .slice tt nt ct].toArray 84 (0, 0)) :: Own 3 1 (.slice al X.length cl) X.length (ints .i64 X) :: Own 51 1 (.slice tt nt ct) nt (ints .u32 T) :: Own 3 1 (.slice a X.length c) X.length (ints .i64 X) :: Own 51 1 (.slice a2 nt c2) nt (ints .u32 T) :: F) := by
  obtain ⟨h0, h1, hq1, hq0⟩ := id hok
  refine c_enter Try.func28 rfl rfl rfl ?_
  refine g_seq ?_
  refine g_region ?_
  refine l_assign rfl rfl ?_
  refine l_assign rfl rfl ?_
  refine l_nil ?_
  refine g_seq ?_
  refine g_region ?_
  refine l_move rfl rfl ?_
  refine l_assign rfl rfl ?_
  refine l_nil ?_
  refine g_seq ?_
  refine g_seq ?_
  refine g_region ?_
  refine l_move rfl rfl ?_
  refine l_nil ?_
  refine g_cond rfl ?_ ?_
  · intro hbr
    have hb12 := hbr
    refine g_region ?_
    have hnt := hq1 hb12
    clear hq1 hq0
    refine l_move rfl rfl ?_
    first | refine l_add rfl rfl rfl (w_i64 (by omega) (by omega)) ?_ | refine l_addw rfl rfl rfl ?_
    refine l_assign rfl rfl ?_
    refine l_nil ?_
    refine g_seq ?_
    refine g_seq ?_
    refine g_region ?_
    (first | (have hnt := hq0 hb12; clear hq1 hq0) | skip)
    refine l_move rfl rfl ?_
    refine l_lss rfl rfl rfl ?_
    refine l_move rfl rfl ?_
    refine l_split 17 rfl ?_ ?_
    · intro hbr
      have hbr := of_decide_eq_true hbr
      (exfalso; first | omega | (rw [hb12] at hbr; cases hbr; done))
    intro hbr
    have hbr := of_decide_eq_false hbr
    refine l_guard_yes rfl rfl ?_
    refine l_move rfl rfl ?_
    refine l_guard_yes rfl rfl ?_
    refine l_move rfl rfl ?_
    refine l_guard_yes rfl rfl ?_
    refine l_len rfl Try.underlying23 rfl ?_
    refine l_guard_yes rfl rfl ?_
    refine l_gtr rfl rfl rfl ?_
    refine l_pick_f rfl rfl rfl ?_
    refine l_move rfl rfl ?_
    refine l_split 23 rfl ?_ ?_
    · intro hbr
      have hbr := of_decide_eq_true hbr
      (exfalso; first | omega | (rw [hb12] at hbr; cases hbr; done))
    intro hbr
    have hbr := of_decide_eq_false hbr
    refine l_guard_yes rfl rfl ?_
    refine l_move rfl rfl ?_
    refine l_guard_yes rfl rfl ?_
    refine l_move rfl rfl ?_
    refine l_split 25 rfl ?_ ?_
    · intro hbr
      have hb25 := hbr
      refine l_guard_yes rfl rfl ?_
      refine l_move rfl rfl ?_
      refine l_guard_yes rfl rfl ?_
      refine l_move rfl rfl ?_
      refine l_guard_yes rfl rfl ?_
      refine l_len rfl Try.underlying23 rfl ?_
      refine l_guard_yes rfl rfl ?_
      refine l_eql rfl rfl rfl ?_
      refine l_guard_yes rfl rfl ?_
      refine l_pick_t rfl rfl rfl ?_
      refine l_pick_f rfl rfl rfl ?_
      refine l_move rfl rfl ?_
      refine l_split 32 rfl ?_ ?_
      · intro hbr
        have hbr := of_decide_eq_true hbr
        (exfalso; first | omega | (rw [hb12] at hbr; cases hbr; done))
      intro hbr
      have hbr := of_decide_eq_false hbr
      refine l_guard_yes rfl rfl ?_
      refine l_move rfl rfl ?_
      refine l_guard_yes rfl rfl ?_
      refine l_len rfl Try.underlying38 rfl ?_
      refine l_guard_yes rfl rfl ?_
      refine l_move rfl rfl ?_
      refine l_guard_yes rfl rfl ?_
      refine l_neq rfl rfl rfl ?_
      refine l_pick_f rfl rfl rfl ?_
      refine l_nil ?_
      refine g_cond rfl ?_ ?_
      · intro hbr
        have hbr := of_decide_eq_true hbr
        (exfalso; first | omega | (rw [hb12] at hbr; cases hbr; done))
      intro hbr
      have hbr := of_decide_eq_false hbr
      refine g_skip ?_
      refine g_seq ?_
      refine g_region ?_
      refine l_move rfl rfl ?_
      refine l_call rfl Try.call31 rfl (clonei_ok _ _ a X.length c X rfl hn) ?_; rintro _ _ ⟨al, cl, rfl, hal, rfl⟩
      refine l_move rfl rfl ?_
      refine l_move rfl rfl ?_
      refine l_move rfl rfl ?_
      refine l_frontv (.slice a2 nt c2) ?_
      refine l_call rfl Try.call35 rfl (cloneu_ok _ _ a2 nt c2 T hT (by omega)) ?_; rintro _ _ ⟨tt, ct, rfl, htt, rfl⟩
      refine l_build rfl rfl (fun w => bd_84_0_1_2_3 _ _ _ _ _ _ _ _ w) ?_
      refine l_boxs rfl rfl ?_; intro b45
      refine l_assign rfl rfl ?_
      refine l_assign rfl rfl ?_
      refine l_nil ?_
      refine g_ret Try.func28 rfl (.tmp rfl (.tmp rfl .nil)) ?_
      exact Gives.mki ⟨b45, al, cl, tt, ct, rfl, hal, htt, rfl⟩
    · intro hbr
      first | (exfalso; simp at hbr; done) | (exfalso; simp at hbr; omega) | (exfalso; first | omega | (rw [hb12] at hbr; cases hbr; done))
  intro hbr
  have hb12 := hbr
  refine g_skip ?_
  refine g_seq ?_
  refine g_seq ?_
  refine g_region ?_
  (first | (have hnt := hq0 hb12; clear hq1 hq0) | skip)
  refine l_move rfl rfl ?_
  refine l_lss rfl rfl rfl ?_
  refine l_move rfl rfl ?_
  refine l_split 17 rfl ?_ ?_
  · intro hbr
    have hbr := of_decide_eq_true hbr
    (exfalso; first | omega | (rw [hb12] at hbr; cases hbr; done))
  intro hbr
  have hbr := of_decide_eq_false hbr
  refine l_guard_yes rfl rfl ?_
  refine l_move rfl rfl ?_
  refine l_guard_yes rfl rfl ?_
  refine l_move rfl rfl ?_
  refine l_guard_yes rfl rfl ?_
  refine l_len rfl Try.underlying23 rfl ?_
  refine l_guard_yes rfl rfl ?_
  refine l_gtr rfl rfl rfl ?_
  refine l_pick_f rfl rfl rfl ?_
  refine l_move rfl rfl ?_
  refine l_split 23 rfl ?_ ?_
  · intro hbr
    have hbr := of_decide_eq_true hbr
    (exfalso; first | omega | (rw [hb12] at hbr; cases hbr; done))
  intro hbr
  have hbr := of_decide_eq_false hbr
  refine l_guard_yes rfl rfl ?_
  refine l_move rfl rfl ?_
  refine l_guard_yes rfl rfl ?_
  refine l_move rfl rfl ?_
  refine l_split 25 rfl ?_ ?_
  · intro hbr
    first | (exfalso; simp at hbr; done) | (exfalso; simp at hbr; omega) | (exfalso; first | omega | (rw [hb12] at hbr; cases hbr; done))
  intro hbr
  have hb25 := hbr
  refine l_guard_no rfl rfl rfl ?_
  refine l_guard_no rfl rfl rfl ?_
  refine l_guard_no rfl rfl rfl ?_
  refine l_guard_no rfl rfl rfl ?_
  refine l_guard_yes rfl rfl ?_
  refine l_pick_f rfl rfl rfl ?_
  refine l_pick_f rfl rfl rfl ?_
  refine l_move rfl rfl ?_
  refine l_guard_yes rfl rfl ?_
  refine l_move rfl rfl ?_
  refine l_guard_yes rfl rfl ?_
  refine l_len rfl Try.underlying38 rfl ?_
  refine l_guard_yes rfl rfl ?_
  refine l_move rfl rfl ?_
  refine l_guard_yes rfl rfl ?_
  refine l_neq rfl rfl rfl ?_
  refine l_pick_f rfl rfl rfl ?_
  refine l_nil ?_
  refine g_cond rfl ?_ ?_
  · intro hbr
    have hbr := of_decide_eq_true hbr
    (exfalso; first | omega | (rw [hb12] at hbr; cases hbr; done))
  intro hbr
  have hbr := of_decide_eq_false hbr
  refine g_skip ?_
  refine g_seq ?_
  refine g_region ?_
  refine l_move rfl rfl ?_
  refine l_call rfl Try.call31 rfl (clonei_ok _ _ a X.length c X rfl hn) ?_; rintro _ _ ⟨al, cl, rfl, hal, rfl⟩
  refine l_move rfl rfl ?_
  refine l_move rfl rfl ?_
  refine l_move rfl rfl ?_
  refine l_frontv (.slice a2 nt c2) ?_
  refine l_call rfl Try.call35 rfl (cloneu_ok _ _ a2 nt c2 T hT (by omega)) ?_; rintro _ _ ⟨tt, ct, rfl, htt, rfl⟩
  refine l_build rfl rfl (fun w => bd_84_0_1_2_3 _ _ _ _ _ _ _ _ w) ?_
  refine l_boxs rfl rfl ?_; intro b45
  refine l_assign rfl rfl ?_
  refine l_assign rfl rfl ?_
  refine l_nil ?_
  refine g_ret Try.func28 rfl (.tmp rfl (.tmp rfl .nil)) ?_
  exact Gives.mki ⟨b45, al, cl, tt, ct, rfl, hal, htt, rfl⟩
theorem act_ok (w0 : World) (F : List Atom) (bm g n c : Nat) (W : List Int) (hW : W.length = n) (hc : n ≤ c) (hn : n ≤ 1073741824) (b : Nat) (al : Option Addr) (cl : Nat) (L : List Int) (h : Int) (q : Bool) (tt : Option Addr) (nt ct : Nat) (T : List Int) (hT : T.length = nt) (hL : L.length ≤ 8589934592) (hLb : I64s L) (hal : L.length = 0 ∨ ∃ g, al = some ⟨g, 0, none⟩) (htt : nt = 0 ∨ ∃ g, tt = some ⟨g, 0, none⟩) (hok : ChOk L.length h q nt) (kind : Int) (kd0 : -9223372036854775808 ≤ kind) (kd1 : kind ≤ 9223372036854775807) :
    CallK Try.prog 27 [.pointer (some ⟨bm, 0, none⟩), .pointer (some ⟨b, 0, none⟩), .int .i64 kind] w0 (Blk bm (.cells [Value.slice (some ⟨g, 0, none⟩) n c].toArray 81 (0, 0)) :: Own 51 1 (.slice (some ⟨g, 0, none⟩) n c) n (ints .u32 W) :: Blk b (.cells [Value.slice al L.length cl, .int .i64 h, .bool q, .slice tt nt ct].toArray 84 (0, 0)) :: Own 3 1 (.slice al L.length cl) L.length (ints .i64 L) :: Own 51 1 (.slice tt nt ct) nt (ints .u32 T) :: F) (Gives w0 fun v F2 => ∃ d e W2 h2 q2 tt2 nt2 ct2 T2, v = .tuple #[.bool d, .int .i64 e] ∧ W2.length = n ∧ F2 = Blk bm (.cells [Value.slice (some ⟨g, 0, none⟩) n c].toArray 81 (0, 0)) :: Own 51 1 (.slice (some ⟨g, 0, none⟩) n c) n (ints .u32 W2) :: Blk b (.cells [Value.slice al L.length cl, .int .i64 h2, .bool q2, .slice tt2 nt2 ct2].toArray 84 (0, 0)) :: Own 3 1 (.slice al L.length cl) L.length (ints .i64 L) :: Own 51 1 (.slice tt2 nt2 ct2) nt2 (ints .u32 T2) :: F ∧ T2.length = nt2 ∧ (nt2 = 0 ∨ ∃ g, tt2 = some ⟨g, 0, none⟩) ∧ ActG n W L h q T kind d e W2 h2 q2 T2) := by
  refine c_enter Try.func27 rfl rfl rfl ?_
  refine g_seq ?_
  refine g_region ?_
  refine l_assign rfl rfl ?_
  refine l_assign rfl rfl ?_
  refine l_nil ?_
  refine g_seq ?_
  refine g_seq ?_
  refine g_region ?_
  refine l_move rfl rfl ?_
  refine l_call rfl Try.call12 rfl (pick_ok _ _ kind 3 (by omega) (by omega) (by omega) (by omega)) ?_; rintro _ F9 ⟨rfl, hF9⟩; rw [hF9]; clear hF9 F9
  refine l_eql rfl rfl rfl ?_
  refine l_nil ?_
  refine g_cond rfl ?_ ?_
  · intro hbr
    have hbr := of_decide_eq_true hbr
    refine g_seq ?_
    refine g_region ?_
    refine l_move rfl rfl ?_
    refine l_move rfl rfl ?_
    refine l_call rfl Try.call34 rfl (chback_ok _ _ bm g n c W hW hc hn b al cl L h q tt nt ct T hT hL hLb hal htt hok) ?_; rintro _ _ ⟨dd, ee, W2, h2, q2, tt2, nt2, ct2, T2, rfl, hW2, rfl, hT2, htt2, hG⟩
    refine l_extract rfl rfl rfl ?_
    refine l_extract rfl rfl rfl ?_
    refine l_assign rfl rfl ?_
    refine l_assign rfl rfl ?_
    refine l_nil ?_
    refine g_ret Try.func27 rfl (.tmp rfl (.tmp rfl .nil)) ?_
    (first | exact Gives.mki ⟨dd, ee, W2, h2, q2, tt2, nt2, ct2, T2, rfl, hW2, rfl, hT2, htt2, .inl ⟨by omega, hG⟩⟩ | exact Gives.mki ⟨dd, ee, W2, h2, q2, tt2, nt2, ct2, T2, rfl, hW2, rfl, hT2, htt2, .inr ⟨by omega, hG⟩⟩)
  intro hbr
  have hbr := of_decide_eq_false hbr
  refine g_skip ?_
  refine g_seq ?_
  refine g_region ?_
  refine l_move rfl rfl ?_
  refine l_move rfl rfl ?_
  refine l_call rfl Try.call32 rfl (chstep_ok _ _ bm g n c W hW hc hn b al cl L h q tt nt ct T hT hL hLb hal htt hok) ?_; rintro _ _ ⟨dd, ee, W2, h2, q2, tt2, nt2, ct2, T2, rfl, hW2, rfl, hT2, htt2, hG⟩
  refine l_extract rfl rfl rfl ?_
  refine l_extract rfl rfl rfl ?_
  refine l_assign rfl rfl ?_
  refine l_assign rfl rfl ?_
  refine l_nil ?_
  refine g_ret Try.func27 rfl (.tmp rfl (.tmp rfl .nil)) ?_
  (first | exact Gives.mki ⟨dd, ee, W2, h2, q2, tt2, nt2, ct2, T2, rfl, hW2, rfl, hT2, htt2, .inl ⟨by omega, hG⟩⟩ | exact Gives.mki ⟨dd, ee, W2, h2, q2, tt2, nt2, ct2, T2, rfl, hW2, rfl, hT2, htt2, .inr ⟨by omega, hG⟩⟩)
theorem free_in (w0 : World) (F : List Atom) (bm g n c : Nat) (W : List Int) (hW : W.length = n) (hc : n ≤ c) (hn : n ≤ 1073741824) (kind : Int) (kd0 : -9223372036854775808 ≤ kind) (kd1 : kind ≤ 9223372036854775807) (h :  inR n (pk (kind.tdiv 3) 34 + 1) 1) :
    CallK Try.prog 30 [.pointer (some ⟨bm, 0, none⟩), .int .i64 kind] w0 (Blk bm (.cells [Value.slice (some ⟨g, 0, none⟩) n c].toArray 81 (0, 0)) :: Own 51 1 (.slice (some ⟨g, 0, none⟩) n c) n (ints .u32 W) :: F) (Gives w0 fun v F2 => ∃ W2, W2.length = n ∧ F2 = Blk bm (.cells [Value.slice (some ⟨g, 0, none⟩) n c].toArray 81 (0, 0)) :: Own 51 1 (.slice (some ⟨g, 0, none⟩) n c) n (ints .u32 W2) :: F ∧ FrS n W kind W2) := by
  refine c_enter Try.func30 rfl rfl rfl ?_
  refine g_seq ?_
  refine g_region ?_
  refine l_move rfl rfl ?_
  have htd3 := tdiv_bd (c := kind) (b := 3) (by omega) kd0 kd1
  refine l_quot rfl rfl rfl (by omega) (w_i64 htd3.1 htd3.2) ?_
  refine l_call rfl Try.call12 rfl (pick_ok _ _ (kind.tdiv 3) 34 (by omega) (by omega) (by omega) (by omega)) ?_; rintro _ F9 ⟨rfl, hF9⟩; rw [hF9]; clear hF9 F9
  have hp34 := pk_lt (kind.tdiv 3) (show (0 : Int) < 34 by omega)
  refine l_assign rfl rfl ?_
  refine l_nil ?_
  refine g_seq ?_
  refine g_region ?_
  refine l_move rfl rfl ?_
  refine l_move rfl rfl ?_
  first | refine l_add rfl rfl rfl (w_i64 (by omega) (by omega)) ?_ | refine l_addw rfl rfl rfl ?_
  refine l_fronto g ?_
  refine l_frontb bm ?_
  refine l_call rfl Try.call60 rfl (read_ok _ _ bm g n c W hW hc hn (pk (kind.tdiv 3) 34 + 1) (by omega) h) ?_; rintro _ _ ⟨rfl, rfl⟩
  refine l_move rfl rfl ?_
  refine l_extract rfl rfl rfl ?_
  refine l_extract rfl rfl rfl ?_
  refine l_assign rfl rfl ?_
  refine l_assign rfl rfl ?_
  refine l_nil ?_
  refine g_seq ?_
  refine g_region ?_
  refine l_move rfl rfl ?_
  refine l_eql rfl rfl rfl ?_
  refine l_move rfl rfl ?_
  refine l_split 19 rfl ?_ ?_
  · intro hbr
    have hbr := of_decide_eq_true hbr
    refine l_guard_yes rfl rfl ?_
    refine l_move rfl rfl ?_
    refine l_guard_yes rfl rfl ?_
    have htd7 := tdiv_bd (c := kind) (b := 7) (by omega) kd0 kd1
    refine l_quot rfl rfl rfl (by omega) (w_i64 htd7.1 htd7.2) ?_
    refine l_guard_yes rfl rfl ?_
    refine l_call rfl Try.call12 rfl (pick_ok _ _ (kind.tdiv 7) 3 (by omega) (by omega) (by omega) (by omega)) ?_; rintro _ F9 ⟨rfl, hF9⟩; rw [hF9]; clear hF9 F9
    refine l_guard_yes rfl rfl ?_
    refine l_eql rfl rfl rfl ?_
    refine l_pick_t rfl rfl rfl ?_
    refine l_nil ?_
    refine g_cond rfl ?_ ?_
    · intro hbr
      have hbr := of_decide_eq_true hbr
      refine g_region ?_
      refine l_move rfl rfl ?_
      refine l_move rfl rfl ?_
      refine l_move rfl rfl ?_
      refine l_fronto g ?_
      refine l_frontb bm ?_
      refine l_call rfl Try.call41 rfl (lfree_ok _ _ bm g n c W hW hc hn (pk (kind.tdiv 3) 34) (by omega) (by omega) (W.getD (pk (kind.tdiv 3) 34 + 1).toNat 0)) ?_; rintro _ _ ⟨e1, W1, rfl, hW1, rfl, hFr⟩
      refine l_nil ?_
      refine g_end Try.func30 rfl .nil ?_
      (first | exact Gives.mki ⟨W1, hW1, rfl, .inl ⟨⟨h, by omega⟩, e1, hFr⟩⟩ | exact Gives.mki ⟨W, hW, rfl, .inr ⟨fun h9 => by have := h9.2; omega, rfl⟩⟩)
    intro hbr
    have hbr := of_decide_eq_false hbr
    refine g_skip ?_
    refine g_end Try.func30 rfl .nil ?_
    (first | exact Gives.mki ⟨W1, hW1, rfl, .inl ⟨⟨h, by omega⟩, e1, hFr⟩⟩ | exact Gives.mki ⟨W, hW, rfl, .inr ⟨fun h9 => by have := h9.2; omega, rfl⟩⟩)
  · intro hbr
    have hbr := of_decide_eq_false hbr
    (exfalso; omega)
theorem free_out (w0 : World) (F : List Atom) (bm g n c : Nat) (W : List Int) (hW : W.length = n) (hc : n ≤ c) (hn : n ≤ 1073741824) (kind : Int) (kd0 : -9223372036854775808 ≤ kind) (kd1 : kind ≤ 9223372036854775807) (h : ¬ inR n (pk (kind.tdiv 3) 34 + 1) 1) :
    CallK Try.prog 30 [.pointer (some ⟨bm, 0, none⟩), .int .i64 kind] w0 (Blk bm (.cells [Value.slice (some ⟨g, 0, none⟩) n c].toArray 81 (0, 0)) :: Own 51 1 (.slice (some ⟨g, 0, none⟩) n c) n (ints .u32 W) :: F) (Gives w0 fun v F2 => ∃ W2, W2.length = n ∧ F2 = Blk bm (.cells [Value.slice (some ⟨g, 0, none⟩) n c].toArray 81 (0, 0)) :: Own 51 1 (.slice (some ⟨g, 0, none⟩) n c) n (ints .u32 W2) :: F ∧ FrS n W kind W2) := by
  refine c_enter Try.func30 rfl rfl rfl ?_
  refine g_seq ?_
  refine g_region ?_
  refine l_move rfl rfl ?_
  have htd3 := tdiv_bd (c := kind) (b := 3) (by omega) kd0 kd1
  refine l_quot rfl rfl rfl (by omega) (w_i64 htd3.1 htd3.2) ?_
  refine l_call rfl Try.call12 rfl (pick_ok _ _ (kind.tdiv 3) 34 (by omega) (by omega) (by omega) (by omega)) ?_; rintro _ F9 ⟨rfl, hF9⟩; rw [hF9]; clear hF9 F9
  have hp34 := pk_lt (kind.tdiv 3) (show (0 : Int) < 34 by omega)
  refine l_assign rfl rfl ?_
  refine l_nil ?_
  refine g_seq ?_
  refine g_region ?_
  refine l_move rfl rfl ?_
  refine l_move rfl rfl ?_
  first | refine l_add rfl rfl rfl (w_i64 (by omega) (by omega)) ?_ | refine l_addw rfl rfl rfl ?_
  refine l_fronto g ?_
  refine l_frontb bm ?_
  refine l_call rfl Try.call60 rfl (read_bad _ _ bm g n c W hW hc hn (pk (kind.tdiv 3) 34 + 1) (by omega) (by omega) h) ?_; rintro _ _ ⟨rfl, rfl⟩
  refine l_move rfl rfl ?_
  refine l_extract rfl rfl rfl ?_
  refine l_extract rfl rfl rfl ?_
  refine l_assign rfl rfl ?_
  refine l_assign rfl rfl ?_
  refine l_nil ?_
  refine g_seq ?_
  refine g_region ?_
  refine l_move rfl rfl ?_
  refine l_eql rfl rfl rfl ?_
  refine l_move rfl rfl ?_
  refine l_split 19 rfl ?_ ?_
  · intro hbr
    have hbr := of_decide_eq_true hbr
    (exfalso; omega)
  intro hbr
  have hbr := of_decide_eq_false hbr
  refine l_guard_no rfl rfl rfl ?_
  refine l_guard_no rfl rfl rfl ?_
  refine l_guard_no rfl rfl rfl ?_
  refine l_guard_no rfl rfl rfl ?_
  refine l_pick_f rfl rfl rfl ?_
  refine l_nil ?_
  first | refine g_cond_f rfl ?_ | refine g_cond_f (congrArg (fun b => some (Value.bool b)) (decide_eq_false hbr)) ?_
  refine g_skip ?_
  refine g_end Try.func30 rfl .nil ?_
  exact Gives.mki ⟨W, hW, rfl, .inr ⟨fun h9 => h h9.1, rfl⟩⟩
theorem free_ok (w0 : World) (F : List Atom) (bm g n c : Nat) (W : List Int) (hW : W.length = n) (hc : n ≤ c) (hn : n ≤ 1073741824) (kind : Int) (kd0 : -9223372036854775808 ≤ kind) (kd1 : kind ≤ 9223372036854775807) : CallK Try.prog 30 [.pointer (some ⟨bm, 0, none⟩), .int .i64 kind] w0 (Blk bm (.cells [Value.slice (some ⟨g, 0, none⟩) n c].toArray 81 (0, 0)) :: Own 51 1 (.slice (some ⟨g, 0, none⟩) n c) n (ints .u32 W) :: F) (Gives w0 fun v F2 => ∃ W2, W2.length = n ∧ F2 = Blk bm (.cells [Value.slice (some ⟨g, 0, none⟩) n c].toArray 81 (0, 0)) :: Own 51 1 (.slice (some ⟨g, 0, none⟩) n c) n (ints .u32 W2) :: F ∧ FrS n W kind W2) := by
  by_cases h : inR n (pk (kind.tdiv 3) 34 + 1) 1
  · exact free_in w0 F bm g n c W hW hc hn kind kd0 kd1 h
  · exact free_out w0 F bm g n c W hW hc hn kind kd0 kd1 h
theorem same_words (w0 : World) (F : List Atom) (a1 a2 : Option Addr) (n c1 c2 : Nat) (W : List Int) (h1 : IR w0 F .u32 a1 n W) (h2 : IR w0 F .u32 a2 n W) (hn : n ≤ 9223372036854775807) :
    CallK Try.prog 24 [.slice a1 n c1, .slice a2 n c2] w0 (F) (Gives w0 fun v F2 => v = .bool true ∧ F2 = F) := by
  have hl := h1.1
  refine c_enter Try.func24 rfl rfl rfl ?_
  refine g_seq ?_
  refine g_region ?_
  refine l_assign rfl rfl ?_
  refine l_nil ?_
  refine g_seq ?_
  refine g_seq ?_
  refine g_region ?_
  refine l_move rfl rfl ?_
  refine l_len rfl Try.underlying38 rfl ?_
  refine l_move rfl rfl ?_
  refine l_len rfl Try.underlying38 rfl ?_
  refine l_neq rfl rfl rfl ?_
  refine l_nil ?_
  refine g_cond rfl ?_ ?_
  · intro hbr
    have hbr := of_decide_eq_true hbr
    (exfalso; omega)
  intro hbr
  have hbr := of_decide_eq_false hbr
  refine g_skip ?_
  refine g_seq ?_
  refine g_seq ?_
  refine g_region ?_
  refine l_assign rfl rfl ?_
  refine l_nil ?_
  refine g_block ?_
  refine g_loopc (X := Int) [(0, _), (1, _)] (.cons rfl (.cons rfl (.nil))) (fun i => 0 ≤ i ∧ i ≤ n) (fun i => (n - i).toNat) (fun i => [(5, .int .i64 i)]) (0) (by omega) (.cons rfl .nil) ?_
  rintro i ⟨i0, i1⟩ ih
  dsimp only [List.cons_append, List.nil_append] at ih ⊢
  refine g_seq ?_
  refine g_seq ?_
  refine g_region ?_
  refine l_move rfl rfl ?_
  refine l_move rfl rfl ?_
  refine l_len rfl Try.underlying38 rfl ?_
  refine l_lss rfl rfl rfl ?_
  refine l_nil ?_
  refine g_cond rfl ?_ ?_
  · intro hbr
    have hbr := of_decide_eq_true hbr
    refine g_skip ?_
    refine g_seq ?_
    refine g_block ?_
    refine g_seq ?_
    refine gp_start mo (by kernel_rfl) (by kernel_rfl) ?_
    refine gp_quiet 0 rfl rfl rfl rfl rfl rfl (q_move rfl) ?_
    refine gp_quiet 1 rfl rfl rfl rfl rfl rfl (q_move rfl) ?_
    obtain ⟨b1, o1, rfl, hr1⟩ := h1.some (i := i.toNat) (by omega)
    refine gp_quiet 2 rfl rfl rfl rfl rfl rfl (q_ixs Try.underlying38 Try.sizeOf51 rfl rfl (by omega) (by omega)) ?_
    refine gp_quiet 3 rfl rfl rfl rfl rfl rfl (q_loadc Try.isAgg51 rfl (word_any hr1 (by omega))) ?_
    refine gp_quiet 4 rfl rfl rfl rfl rfl rfl (q_move rfl) ?_
    refine gp_quiet 5 rfl rfl rfl rfl rfl rfl (q_move rfl) ?_
    obtain ⟨b2, o2, rfl, hr2⟩ := h2.some (i := i.toNat) (by omega)
    refine gp_quiet 6 rfl rfl rfl rfl rfl rfl (q_ixs Try.underlying38 Try.sizeOf51 rfl rfl (by omega) (by omega)) ?_
    refine gp_quiet 7 rfl rfl rfl rfl rfl rfl (q_loadc Try.isAgg51 rfl (word_any hr2 (by omega))) ?_
    refine gp_quiet 8 rfl rfl rfl rfl rfl rfl (q_neq rfl rfl) ?_
    refine gp_end rfl rfl ?_
    refine g_cond rfl ?_ ?_
    · intro hbr
      have hbr := of_decide_eq_true hbr
      (exfalso; omega)
    intro hbr
    have hbr := of_decide_eq_false hbr
    refine g_skip ?_
    refine g_inBlock ?_
    refine g_region ?_
    refine l_move rfl rfl ?_
    first | refine l_add rfl rfl rfl (w_i64 (by omega) (by omega)) ?_ | refine l_addw rfl rfl rfl ?_
    refine l_assign rfl rfl ?_
    refine l_nil ?_
    exact g_againi (ih (i + 1) (by omega) (by omega)) (.cons rfl (.cons rfl (.cons rfl (.nil))))
  intro hbr
  have hbr := of_decide_eq_false hbr
  refine g_exit rfl ?_
  refine g_seq ?_
  refine g_region ?_
  refine l_assign rfl rfl ?_
  refine l_nil ?_
  refine g_ret Try.func24 rfl (.tmp rfl .nil) ?_
  exact Gives.mki ⟨rfl, rfl⟩
end Go.Proofs.Ythemlddepepekaa.Fw
