import Derived.Test.YthemlddepepekaaMem
namespace Go.Proofs.Ythemlddepepekaa.Fw
open Go Go.Proofs
set_option linter.unusedVariables false
set_option linter.unusedSimpArgs false
set_option maxRecDepth 10000
theorem mo : Try.prog.follows .mixedOrders = true := by kernel_rfl
/- Locks: what a call finds and leaves. -/
def nx (W : List Int) (a : Int) : Int := W.getD a.toNat 0
def tn (W : List Int) (a : Int) : Int := W.getD (a + 1).toNat 0
theorem two_w {W : List Int} {a : Int} (h0 : 0 ≤ a) (h : a + 2 ≤ W.length) : ((W.drop a.toNat).take (2 : Int).toNat).getD 0 0 = nx W a ∧ ((W.drop a.toNat).take (2 : Int).toNat).getD 1 0 = tn W a := by
  have e : (a + 1).toNat = a.toNat + 1 := by omega
  unfold nx tn
  rw [e]
  constructor <;> simp [List.getD_eq_getElem?_getD, List.getElem?_take, List.getElem?_drop]
def RdG (W : List Int) (n : Nat) (a x y e : Int) : Prop := (e = 0 ∧ inR n a 2 ∧ x = nx W a ∧ y = tn W a) ∨ (e = 51 ∧ ¬ inR n a 2 ∧ x = 0 ∧ y = 0)
def TakG (W : List Int) (n : Nat) (a k e : Int) (W2 : List Int) : Prop :=
  (e = 51 ∧ ¬ inR n a 2 ∧ k = 0 ∧ W2 = W) ∨ (e = 170 ∧ inR n a 2 ∧ (nx W a - tn W a) % 4294967296 = 4294967295 ∧ k = 0 ∧ W2 = W) ∨ (e = 0 ∧ inR n a 2 ∧ (nx W a - tn W a) % 4294967296 ≠ 4294967295 ∧ k = nx W a ∧ W2 = W.set a.toNat ((nx W a + 1) % 4294967296))
def MinG (W : List Int) (n : Nat) (a t : Int) (b : Bool) (e : Int) : Prop := (e = 51 ∧ ¬ inR n a 2 ∧ b = false) ∨ (e = 0 ∧ inR n a 2 ∧ b = decide (t = tn W a))
def FreG (W : List Int) (n : Nat) (a t e : Int) (W2 : List Int) : Prop :=
  (e = 51 ∧ ¬ inR n a 2 ∧ W2 = W) ∨ (e = 170 ∧ inR n a 2 ∧ (nx W a = tn W a ∨ t ≠ tn W a) ∧ W2 = W) ∨ (e = 0 ∧ inR n a 2 ∧ nx W a ≠ tn W a ∧ t = tn W a ∧ W2 = W.set (a + 1).toNat ((tn W a + 1) % 4294967296))
theorem RdG.in1 {W : List Int} {n : Nat} {a x y e : Int} (h : RdG W n a x y e) (he : e = 0) (b : Int) (hb : b = a ∨ b = a + 1) : inR n b 1 := by
  rcases h with ⟨_, h, _⟩ | ⟨h, _⟩
  · unfold inR at h ⊢; omega
  · omega
theorem RdG.bd {W : List Int} {n : Nat} {a x y e : Int} (h : RdG W n a x y e) (he : e = 0) : 0 ≤ a ∧ a + 2 ≤ n := by
  rcases h with ⟨_, h, _⟩ | ⟨h, _⟩
  · unfold inR at h; omega
  · omega
section
variable {W : List Int} {n : Nat} {a x y e t : Int}
theorem RdG.tak0 (h : RdG W n a x y e) (he : e ≠ 0) : TakG W n a 0 e W := by
  rcases h with ⟨h, _⟩ | ⟨h, h1, _⟩
  · exact absurd h he
  · exact .inl ⟨h, h1, rfl, rfl⟩
theorem RdG.tak1 (h : RdG W n a x y e) (he : e = 0) (hx : (x - y) % 4294967296 = 4294967295) : TakG W n a 0 170 W := by
  rcases h with ⟨_, h1, h2, h3⟩ | ⟨h, h1, _⟩
  · subst h2 h3; exact .inr (.inl ⟨rfl, h1, hx, rfl, rfl⟩)
  · omega
theorem RdG.tak2 (h : RdG W n a x y e) (he : e = 0) (hx : (x - y) % 4294967296 ≠ 4294967295) : TakG W n a x 0 (W.set a.toNat ((x + 1) % 4294967296)) := by
  rcases h with ⟨_, h1, h2, h3⟩ | ⟨h, h1, _⟩
  · subst h2 h3; exact .inr (.inr ⟨rfl, h1, hx, rfl, rfl⟩)
  · omega
theorem RdG.min1 (h : RdG W n a x y e) (he : e = 0) : MinG W n a t (decide (t = y)) e := by
  rcases h with ⟨h, h1, h2, h3⟩ | ⟨h, h1, _⟩
  · subst h2 h3; exact .inr ⟨h, h1, rfl⟩
  · omega
theorem RdG.min0 (h : RdG W n a x y e) (he : e ≠ 0) : MinG W n a t false e := by
  rcases h with ⟨h, _⟩ | ⟨h, h1, _⟩
  · exact absurd h he
  · exact .inl ⟨h, h1, rfl⟩
theorem RdG.fre0 (h : RdG W n a x y e) (he : e ≠ 0) : FreG W n a t e W := by
  rcases h with ⟨h, _⟩ | ⟨h, h1, _⟩
  · exact absurd h he
  · exact .inl ⟨h, h1, rfl⟩
theorem RdG.fre1 (h : RdG W n a x y e) (he : e = 0) (hx : x = y ∨ t ≠ y) : FreG W n a t 170 W := by
  rcases h with ⟨_, h1, h2, h3⟩ | ⟨h, h1, _⟩
  · subst h2 h3; exact .inr (.inl ⟨rfl, h1, hx, rfl⟩)
  · omega
theorem RdG.fre2 (h : RdG W n a x y e) (he : e = 0) (hx : x ≠ y) (ht : t = y) : FreG W n a t 0 (W.set (a + 1).toNat ((y + 1) % 4294967296)) := by
  rcases h with ⟨_, h1, h2, h3⟩ | ⟨h, h1, _⟩
  · subst h2 h3; exact .inr (.inr ⟨rfl, h1, hx, ht, rfl⟩)
  · omega
end

theorem lwords_in (w0 : World) (F : List Atom) (bm g n c : Nat) (W : List Int) (hW : W.length = n) (hc : n ≤ c) (hn : n ≤ 1073741824) (at_ : Int) (at_0 : -9223372036854775808 ≤ at_) (at_1 : at_ ≤ 9223372036854775807) (h : inR n at_ 2) :
    CallK Try.prog 36 [.pointer (some ⟨bm, 0, none⟩), .int .i64 at_] w0 (Blk bm (.cells [Value.slice (some ⟨g, 0, none⟩) n c].toArray 81 (0, 0)) :: Own 51 1 (.slice (some ⟨g, 0, none⟩) n c) n (ints .u32 W) :: F) (Gives w0 fun v F2 => v = .tuple #[.int .u32 (nx W at_), .int .u32 (tn W at_), .int .i64 0] ∧ F2 = Blk bm (.cells [Value.slice (some ⟨g, 0, none⟩) n c].toArray 81 (0, 0)) :: Own 51 1 (.slice (some ⟨g, 0, none⟩) n c) n (ints .u32 W) :: F) := by
  have h9 := h
  unfold inR at h9
  refine c_enter Try.func36 rfl rfl rfl ?_
  refine g_seq ?_
  refine g_region ?_
  refine l_assign rfl rfl ?_
  refine l_assign rfl rfl ?_
  refine l_assign rfl rfl ?_
  refine l_nil ?_
  refine g_seq ?_
  refine g_region ?_
  refine l_move rfl rfl ?_
  refine l_move rfl rfl ?_
  refine l_call rfl Try.call61 rfl (take_ok _ _ bm g n c W hW hc hn at_ 2 (by omega) (by omega) h) ?_; rintro _ _ ⟨qa, rfl, rfl⟩
  refine l_move rfl rfl ?_
  refine l_extract rfl rfl rfl ?_
  refine l_extract rfl rfl rfl ?_
  refine l_assign rfl rfl ?_
  refine l_assign rfl rfl ?_
  refine l_nil ?_
  refine g_seq ?_
  refine g_seq ?_
  refine g_region ?_
  refine l_move rfl rfl ?_
  refine l_neq rfl rfl rfl ?_
  refine l_nil ?_
  refine g_cond rfl ?_ ?_
  · intro hbr
    have hbr := of_decide_eq_true hbr
    (exfalso; omega)
  intro hbr
  have hbr := of_decide_eq_false hbr
  refine g_skip ?_
  refine g_seq ?_
  refine gp_start mo (by kernel_rfl) (by kernel_rfl) ?_
  refine gp_quiet 0 rfl rfl rfl rfl rfl rfl (q_move rfl) ?_
  refine gp_quiet 1 rfl rfl rfl rfl rfl rfl (q_ixs Try.underlying38 Try.sizeOf51 rfl rfl (by omega) (by omega)) ?_
  refine gp_quiet 2 rfl rfl rfl rfl rfl rfl (q_loadc Try.isAgg51 rfl (word_at (mem_getO 0 rfl) (by rw [List.length_take, List.length_drop]; show _ < min (2 : Int).toNat _; omega))) ?_
  refine gp_quiet 3 rfl rfl rfl rfl rfl rfl (q_move rfl) ?_
  refine gp_quiet 4 rfl rfl rfl rfl rfl rfl (q_ixs Try.underlying38 Try.sizeOf51 rfl rfl (by omega) (by omega)) ?_
  refine gp_quiet 5 rfl rfl rfl rfl rfl rfl (q_loadc Try.isAgg51 rfl (word_at (mem_getO 0 rfl) (by rw [List.length_take, List.length_drop]; show _ < min (2 : Int).toNat _; omega))) ?_
  refine gp_quiet 6 rfl rfl rfl rfl rfl rfl (q_assign rfl) ?_
  refine gp_quiet 7 rfl rfl rfl rfl rfl rfl (q_assign rfl) ?_
  refine gp_quiet 8 rfl rfl rfl rfl rfl rfl (q_assign rfl) ?_
  refine gp_end rfl rfl ?_
  refine g_ret Try.func36 rfl (.tmp rfl (.tmp rfl (.tmp rfl .nil))) ?_
  exact Gives.mki ⟨by rw [← (two_w (W := W) (a := at_) (by omega) (by omega)).1, ← (two_w (W := W) (a := at_) (by omega) (by omega)).2]; rfl, rfl⟩
theorem lwords_out (w0 : World) (F : List Atom) (bm g n c : Nat) (W : List Int) (hW : W.length = n) (hc : n ≤ c) (hn : n ≤ 1073741824) (at_ : Int) (at_0 : -9223372036854775808 ≤ at_) (at_1 : at_ ≤ 9223372036854775807) (h : ¬ inR n at_ 2) :
    CallK Try.prog 36 [.pointer (some ⟨bm, 0, none⟩), .int .i64 at_] w0 (Blk bm (.cells [Value.slice (some ⟨g, 0, none⟩) n c].toArray 81 (0, 0)) :: Own 51 1 (.slice (some ⟨g, 0, none⟩) n c) n (ints .u32 W) :: F) (Gives w0 fun v F2 => v = .tuple #[.int .u32 0, .int .u32 0, .int .i64 51] ∧ F2 = Blk bm (.cells [Value.slice (some ⟨g, 0, none⟩) n c].toArray 81 (0, 0)) :: Own 51 1 (.slice (some ⟨g, 0, none⟩) n c) n (ints .u32 W) :: F) := by
  refine c_enter Try.func36 rfl rfl rfl ?_
  refine g_seq ?_
  refine g_region ?_
  refine l_assign rfl rfl ?_
  refine l_assign rfl rfl ?_
  refine l_assign rfl rfl ?_
  refine l_nil ?_
  refine g_seq ?_
  refine g_region ?_
  refine l_move rfl rfl ?_
  refine l_move rfl rfl ?_
  refine l_call rfl Try.call61 rfl (take_bad _ _ bm g n c W hW hc hn at_ 2 (by omega) (by omega) (by omega) (by omega) h) ?_; rintro _ _ ⟨rfl, rfl⟩
  refine l_move rfl rfl ?_
  refine l_extract rfl rfl rfl ?_
  refine l_extract rfl rfl rfl ?_
  refine l_assign rfl rfl ?_
  refine l_assign rfl rfl ?_
  refine l_nil ?_
  refine g_seq ?_
  refine g_seq ?_
  refine g_region ?_
  refine l_move rfl rfl ?_
  refine l_neq rfl rfl rfl ?_
  refine l_nil ?_
  refine g_cond rfl ?_ ?_
  · intro hbr
    have hbr := of_decide_eq_true hbr
    refine g_seq ?_
    refine g_region ?_
    refine l_move rfl rfl ?_
    refine l_assign rfl rfl ?_
    refine l_assign rfl rfl ?_
    refine l_assign rfl rfl ?_
    refine l_nil ?_
    refine g_ret Try.func36 rfl (.tmp rfl (.tmp rfl (.tmp rfl .nil))) ?_
    exact Gives.mki ⟨rfl, rfl⟩
  · intro hbr
    have hbr := of_decide_eq_false hbr
    (exfalso; omega)
theorem lwords_ok (w0 : World) (F : List Atom) (bm g n c : Nat) (W : List Int) (hW : W.length = n) (hc : n ≤ c) (hn : n ≤ 1073741824) (at_ : Int) (at_0 : -9223372036854775808 ≤ at_) (at_1 : at_ ≤ 9223372036854775807) : CallK Try.prog 36 [.pointer (some ⟨bm, 0, none⟩), .int .i64 at_] w0 (Blk bm (.cells [Value.slice (some ⟨g, 0, none⟩) n c].toArray 81 (0, 0)) :: Own 51 1 (.slice (some ⟨g, 0, none⟩) n c) n (ints .u32 W) :: F) (Gives w0 fun v F2 => ∃ x y e, v = .tuple #[.int .u32 x, .int .u32 y, .int .i64 e] ∧ F2 = Blk bm (.cells [Value.slice (some ⟨g, 0, none⟩) n c].toArray 81 (0, 0)) :: Own 51 1 (.slice (some ⟨g, 0, none⟩) n c) n (ints .u32 W) :: F ∧ RdG W n at_ x y e) := by
  by_cases h : inR n at_ 2
  · refine (lwords_in w0 F bm g n c W hW hc hn at_ at_0 at_1 h).mono ?_
    rintro r F1 ⟨v, F2, rfl, ⟨rfl, rfl⟩, hh⟩
    exact ⟨_, _, rfl, ⟨_, _, 0, rfl, rfl, .inl ⟨rfl, h, rfl, rfl⟩⟩, hh⟩
  · refine (lwords_out w0 F bm g n c W hW hc hn at_ at_0 at_1 h).mono ?_
    rintro r F1 ⟨v, F2, rfl, ⟨rfl, rfl⟩, hh⟩
    exact ⟨_, _, rfl, ⟨0, 0, 51, rfl, rfl, .inr ⟨rfl, h, rfl, rfl⟩⟩, hh⟩
theorem ltake_ok (w0 : World) (F : List Atom) (bm g n c : Nat) (W : List Int) (hW : W.length = n) (hc : n ≤ c) (hn : n ≤ 1073741824) (at_ : Int) (at_0 : -9223372036854775808 ≤ at_) (at_1 : at_ ≤ 9223372036854775807) :
    CallK Try.prog 26 [.pointer (some ⟨bm, 0, none⟩), .int .i64 at_] w0 (Blk bm (.cells [Value.slice (some ⟨g, 0, none⟩) n c].toArray 81 (0, 0)) :: Own 51 1 (.slice (some ⟨g, 0, none⟩) n c) n (ints .u32 W) :: F) (Gives w0 fun v F2 => ∃ k e W2, v = .tuple #[.int .u32 k, .int .i64 e] ∧ W2.length = n ∧ F2 = Blk bm (.cells [Value.slice (some ⟨g, 0, none⟩) n c].toArray 81 (0, 0)) :: Own 51 1 (.slice (some ⟨g, 0, none⟩) n c) n (ints .u32 W2) :: F ∧ TakG W n at_ k e W2) := by
  refine c_enter Try.func26 rfl rfl rfl ?_
  refine g_seq ?_
  refine g_region ?_
  refine l_assign rfl rfl ?_
  refine l_assign rfl rfl ?_
  refine l_nil ?_
  refine g_seq ?_
  refine g_region ?_
  refine l_move rfl rfl ?_
  refine l_move rfl rfl ?_
  refine l_call rfl Try.call36 rfl (lwords_ok _ _ bm g n c W hW hc hn at_ at_0 at_1) ?_; rintro _ _ ⟨x, y, e, rfl, rfl, hR⟩
  refine l_move rfl rfl ?_
  refine l_extract rfl rfl rfl ?_
  refine l_extract rfl rfl rfl ?_
  refine l_extract rfl rfl rfl ?_
  refine l_assign rfl rfl ?_
  refine l_assign rfl rfl ?_
  refine l_assign rfl rfl ?_
  refine l_nil ?_
  refine g_seq ?_
  refine g_seq ?_
  refine g_region ?_
  refine l_move rfl rfl ?_
  refine l_neq rfl rfl rfl ?_
  refine l_nil ?_
  refine g_cond rfl ?_ ?_
  · intro hbr
    have hbr := of_decide_eq_true hbr
    refine g_seq ?_
    refine g_region ?_
    refine l_move rfl rfl ?_
    refine l_assign rfl rfl ?_
    refine l_assign rfl rfl ?_
    refine l_nil ?_
    refine g_ret Try.func26 rfl (.tmp rfl (.tmp rfl .nil)) ?_
    (first | exact Gives.mki ⟨0, e, W, rfl, hW, rfl, hR.tak0 (by omega)⟩ | exact Gives.mki ⟨0, 170, W, rfl, hW, rfl, hR.tak1 (by omega) (by omega)⟩ | exact Gives.mki ⟨x, 0, _, rfl, by rw [List.length_set]; exact hW, rfl, hR.tak2 (by omega) (by omega)⟩)
  intro hbr
  have hbr := of_decide_eq_false hbr
  refine g_skip ?_
  refine g_seq ?_
  refine g_seq ?_
  refine g_region ?_
  refine l_move rfl rfl ?_
  refine l_move rfl rfl ?_
  refine l_subm (m := 4294967296) rfl wr_u32 rfl rfl ?_
  refine l_eql rfl rfl rfl ?_
  refine l_nil ?_
  refine g_cond rfl ?_ ?_
  · intro hbr
    have hbr := of_decide_eq_true hbr
    refine g_seq ?_
    refine g_region ?_
    refine l_assign rfl rfl ?_
    refine l_assign rfl rfl ?_
    refine l_nil ?_
    refine g_ret Try.func26 rfl (.tmp rfl (.tmp rfl .nil)) ?_
    (first | exact Gives.mki ⟨0, e, W, rfl, hW, rfl, hR.tak0 (by omega)⟩ | exact Gives.mki ⟨0, 170, W, rfl, hW, rfl, hR.tak1 (by omega) (by omega)⟩ | exact Gives.mki ⟨x, 0, _, rfl, by rw [List.length_set]; exact hW, rfl, hR.tak2 (by omega) (by omega)⟩)
  intro hbr
  have hbr := of_decide_eq_false hbr
  refine g_skip ?_
  refine g_seq ?_
  refine g_region ?_
  refine l_move rfl rfl ?_
  refine l_move rfl rfl ?_
  refine l_move rfl rfl ?_
  refine l_move rfl rfl ?_
  refine l_addm (m := 4294967296) rfl wr_u32 rfl rfl ?_
  have h1 : inR n at_ 1 := hR.in1 (by omega) at_ (by omega)
  refine l_call rfl Try.call44 rfl (write_ok _ _ bm g n c W hW hc hn at_ ((x + 1) % 4294967296) (by unfold inR at h1; omega) h1) ?_; rintro _ _ ⟨rfl, rfl⟩
  refine l_assign rfl rfl ?_
  refine l_assign rfl rfl ?_
  refine l_nil ?_
  refine g_ret Try.func26 rfl (.tmp rfl (.tmp rfl .nil)) ?_
  (first | exact Gives.mki ⟨0, e, W, rfl, hW, rfl, hR.tak0 (by omega)⟩ | exact Gives.mki ⟨0, 170, W, rfl, hW, rfl, hR.tak1 (by omega) (by omega)⟩ | exact Gives.mki ⟨x, 0, _, rfl, by rw [List.length_set]; exact hW, rfl, hR.tak2 (by omega) (by omega)⟩)
theorem lmine_ok (w0 : World) (F : List Atom) (bm g n c : Nat) (W : List Int) (hW : W.length = n) (hc : n ≤ c) (hn : n ≤ 1073741824) (at_ : Int) (at_0 : -9223372036854775808 ≤ at_) (at_1 : at_ ≤ 9223372036854775807) (t : Int) :
    CallK Try.prog 39 [.pointer (some ⟨bm, 0, none⟩), .int .i64 at_, .int .u32 t] w0 (Blk bm (.cells [Value.slice (some ⟨g, 0, none⟩) n c].toArray 81 (0, 0)) :: Own 51 1 (.slice (some ⟨g, 0, none⟩) n c) n (ints .u32 W) :: F) (Gives w0 fun v F2 => ∃ b e, v = .tuple #[.bool b, .int .i64 e] ∧ F2 = Blk bm (.cells [Value.slice (some ⟨g, 0, none⟩) n c].toArray 81 (0, 0)) :: Own 51 1 (.slice (some ⟨g, 0, none⟩) n c) n (ints .u32 W) :: F ∧ MinG W n at_ t b e) := by
  refine c_enter Try.func39 rfl rfl rfl ?_
  refine g_seq ?_
  refine g_region ?_
  refine l_assign rfl rfl ?_
  refine l_assign rfl rfl ?_
  refine l_nil ?_
  refine g_seq ?_
  refine g_region ?_
  refine l_move rfl rfl ?_
  refine l_move rfl rfl ?_
  refine l_call rfl Try.call36 rfl (lwords_ok _ _ bm g n c W hW hc hn at_ at_0 at_1) ?_; rintro _ _ ⟨x, y, e, rfl, rfl, hR⟩
  refine l_move rfl rfl ?_
  refine l_extract rfl rfl rfl ?_
  refine l_extract rfl rfl rfl ?_
  refine l_extract rfl rfl rfl ?_
  refine l_assign rfl rfl ?_
  refine l_assign rfl rfl ?_
  refine l_assign rfl rfl ?_
  refine l_nil ?_
  refine g_seq ?_
  refine g_region ?_
  refine l_move rfl rfl ?_
  refine l_eql rfl rfl rfl ?_
  refine l_move rfl rfl ?_
  refine l_split 20 rfl ?_ ?_
  · intro hbr
    have hbr := of_decide_eq_true hbr
    refine l_guard_yes rfl rfl ?_
    refine l_move rfl rfl ?_
    refine l_guard_yes rfl rfl ?_
    refine l_move rfl rfl ?_
    refine l_guard_yes rfl rfl ?_
    refine l_eql rfl rfl rfl ?_
    refine l_pick_t rfl rfl rfl ?_
    refine l_move rfl rfl ?_
    refine l_assign rfl rfl ?_
    refine l_assign rfl rfl ?_
    refine l_nil ?_
    refine g_ret Try.func39 rfl (.tmp rfl (.tmp rfl .nil)) ?_
    (first | exact Gives.mki ⟨_, e, rfl, rfl, hR.min1 (by omega)⟩ | exact Gives.mki ⟨_, e, rfl, rfl, hR.min0 (by omega)⟩)
  intro hbr
  have hbr := of_decide_eq_false hbr
  refine l_guard_no rfl rfl rfl ?_
  refine l_guard_no rfl rfl rfl ?_
  refine l_guard_no rfl rfl rfl ?_
  refine l_pick_f rfl rfl rfl ?_
  refine l_move rfl rfl ?_
  refine l_assign rfl rfl ?_
  refine l_assign rfl rfl ?_
  refine l_nil ?_
  refine g_ret Try.func39 rfl (.tmp rfl (.tmp rfl .nil)) ?_
  (first | exact Gives.mki ⟨_, e, rfl, rfl, hR.min1 (by omega)⟩ | exact Gives.mki ⟨_, e, rfl, rfl, hR.min0 (by omega)⟩)
theorem lfree_ok (w0 : World) (F : List Atom) (bm g n c : Nat) (W : List Int) (hW : W.length = n) (hc : n ≤ c) (hn : n ≤ 1073741824) (at_ : Int) (at_0 : -9223372036854775808 ≤ at_) (at_1 : at_ ≤ 9223372036854775807) (t : Int) :
    CallK Try.prog 41 [.pointer (some ⟨bm, 0, none⟩), .int .i64 at_, .int .u32 t] w0 (Blk bm (.cells [Value.slice (some ⟨g, 0, none⟩) n c].toArray 81 (0, 0)) :: Own 51 1 (.slice (some ⟨g, 0, none⟩) n c) n (ints .u32 W) :: F) (Gives w0 fun v F2 => ∃ e W2, v = .int .i64 e ∧ W2.length = n ∧ F2 = Blk bm (.cells [Value.slice (some ⟨g, 0, none⟩) n c].toArray 81 (0, 0)) :: Own 51 1 (.slice (some ⟨g, 0, none⟩) n c) n (ints .u32 W2) :: F ∧ FreG W n at_ t e W2) := by
  refine c_enter Try.func41 rfl rfl rfl ?_
  refine g_seq ?_
  refine g_region ?_
  refine l_assign rfl rfl ?_
  refine l_nil ?_
  refine g_seq ?_
  refine g_region ?_
  refine l_move rfl rfl ?_
  refine l_move rfl rfl ?_
  refine l_call rfl Try.call36 rfl (lwords_ok _ _ bm g n c W hW hc hn at_ at_0 at_1) ?_; rintro _ _ ⟨x, y, e, rfl, rfl, hR⟩
  refine l_move rfl rfl ?_
  refine l_extract rfl rfl rfl ?_
  refine l_extract rfl rfl rfl ?_
  refine l_extract rfl rfl rfl ?_
  refine l_assign rfl rfl ?_
  refine l_assign rfl rfl ?_
  refine l_assign rfl rfl ?_
  refine l_nil ?_
  refine g_seq ?_
  refine g_seq ?_
  refine g_region ?_
  refine l_move rfl rfl ?_
  refine l_neq rfl rfl rfl ?_
  refine l_nil ?_
  refine g_cond rfl ?_ ?_
  · intro hbr
    have hbr := of_decide_eq_true hbr
    refine g_seq ?_
    refine g_region ?_
    refine l_move rfl rfl ?_
    refine l_assign rfl rfl ?_
    refine l_nil ?_
    refine g_ret Try.func41 rfl (.tmp rfl .nil) ?_
    (first | exact Gives.mki ⟨e, W, rfl, hW, rfl, hR.fre0 (by omega)⟩ | exact Gives.mki ⟨170, W, rfl, hW, rfl, hR.fre1 (by omega) (by omega)⟩ | exact Gives.mki ⟨0, _, rfl, by rw [List.length_set]; exact hW, rfl, hR.fre2 (by omega) (by omega) (by omega)⟩)
  intro hbr
  have hbr := of_decide_eq_false hbr
  refine g_skip ?_
  refine g_seq ?_
  refine g_seq ?_
  refine g_region ?_
  refine l_move rfl rfl ?_
  refine l_move rfl rfl ?_
  refine l_eql rfl rfl rfl ?_
  refine l_move rfl rfl ?_
  refine l_split 23 rfl ?_ ?_
  · intro hbr
    have hbr := of_decide_eq_true hbr
    refine l_guard_no rfl rfl rfl ?_
    refine l_guard_no rfl rfl rfl ?_
    refine l_guard_no rfl rfl rfl ?_
    refine l_pick_t rfl rfl rfl ?_
    refine l_nil ?_
    first | refine g_cond_t rfl ?_ | refine g_cond_t (congrArg (fun b => some (Value.bool b)) (decide_eq_true hbr)) ?_
    refine g_seq ?_
    refine g_region ?_
    refine l_assign rfl rfl ?_
    refine l_nil ?_
    refine g_ret Try.func41 rfl (.tmp rfl .nil) ?_
    (first | exact Gives.mki ⟨e, W, rfl, hW, rfl, hR.fre0 (by omega)⟩ | exact Gives.mki ⟨170, W, rfl, hW, rfl, hR.fre1 (by omega) (by omega)⟩ | exact Gives.mki ⟨0, _, rfl, by rw [List.length_set]; exact hW, rfl, hR.fre2 (by omega) (by omega) (by omega)⟩)
  intro hbr
  have hbr := of_decide_eq_false hbr
  refine l_guard_yes rfl rfl ?_
  refine l_move rfl rfl ?_
  refine l_guard_yes rfl rfl ?_
  refine l_move rfl rfl ?_
  refine l_guard_yes rfl rfl ?_
  refine l_neq rfl rfl rfl ?_
  refine l_pick_f rfl rfl rfl ?_
  refine l_nil ?_
  refine g_cond rfl ?_ ?_
  · intro hbr
    have hbr := of_decide_eq_true hbr
    refine g_seq ?_
    refine g_region ?_
    refine l_assign rfl rfl ?_
    refine l_nil ?_
    refine g_ret Try.func41 rfl (.tmp rfl .nil) ?_
    (first | exact Gives.mki ⟨e, W, rfl, hW, rfl, hR.fre0 (by omega)⟩ | exact Gives.mki ⟨170, W, rfl, hW, rfl, hR.fre1 (by omega) (by omega)⟩ | exact Gives.mki ⟨0, _, rfl, by rw [List.length_set]; exact hW, rfl, hR.fre2 (by omega) (by omega) (by omega)⟩)
  intro hbr
  have hbr := of_decide_eq_false hbr
  refine g_skip ?_
  refine g_seq ?_
  refine g_region ?_
  refine l_move rfl rfl ?_
  refine l_move rfl rfl ?_
  have hi9 := hR.bd (by omega)
  first | refine l_add rfl rfl rfl (w_i64 (by omega) (by omega)) ?_ | refine l_addw rfl rfl rfl ?_
  refine l_move rfl rfl ?_
  refine l_addm (m := 4294967296) rfl wr_u32 rfl rfl ?_
  have h1 : inR n (at_ + 1) 1 := hR.in1 (by omega) (at_ + 1) (by omega)
  refine l_call rfl Try.call44 rfl (write_ok _ _ bm g n c W hW hc hn (at_ + 1) ((y + 1) % 4294967296) (by unfold inR at h1; omega) h1) ?_; rintro _ _ ⟨rfl, rfl⟩
  refine l_assign rfl rfl ?_
  refine l_nil ?_
  refine g_ret Try.func41 rfl (.tmp rfl .nil) ?_
  (first | exact Gives.mki ⟨e, W, rfl, hW, rfl, hR.fre0 (by omega)⟩ | exact Gives.mki ⟨170, W, rfl, hW, rfl, hR.fre1 (by omega) (by omega)⟩ | exact Gives.mki ⟨0, _, rfl, by rw [List.length_set]; exact hW, rfl, hR.fre2 (by omega) (by omega) (by omega)⟩)
end Go.Proofs.Ythemlddepepekaa.Fw
