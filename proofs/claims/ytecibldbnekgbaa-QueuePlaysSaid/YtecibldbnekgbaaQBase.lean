import Derived.Test.YtecibldbnekgbaaNils
import Derived.Test.YtecibldbnekgbaaFw24
namespace Go.Proofs.Ytecibldbnekgbaa.Fw
open Go Go.Proofs
set_option linter.unusedVariables false
set_option linter.unusedSimpArgs false
set_option maxRecDepth 10000
theorem fa_61_0 (a : Addr) (w : World) : (Instr.fieldAt 61 (.pointer (some a)) 0).run Try.prog w = .ok (.pointer (some (a.add 0))) w := by
  simp [Instr.fieldAt, Try.runUnderlying61, Instr.sureAddr, fieldPlace, Try.sizeOf3, Sem.run_bind, Sem.run_pure]
theorem fa_61_1 (a : Addr) (w : World) : (Instr.fieldAt 61 (.pointer (some a)) 1).run Try.prog w = .ok (.pointer (some (a.add 1))) w := by
  simp [Instr.fieldAt, Try.runUnderlying61, Instr.sureAddr, fieldPlace, Try.sizeOf3, Sem.run_bind, Sem.run_pure]
def W32s (W : List Int) : Prop := ∀ i, 0 ≤ W.getD i 0 ∧ W.getD i 0 ≤ 4294967295
theorem getD_part {W : List Int} {a m i : Nat} : ((W.drop a).take m).getD i 0 = if i < m then W.getD (a + i) 0 else 0 := by
  simp only [List.getD_eq_getElem?_getD, List.getElem?_take, List.getElem?_drop]
  split <;> simp
theorem W32s.part {W : List Int} (h : W32s W) (a m : Nat) : W32s ((W.drop a).take m) := by
  intro i
  rw [getD_part]
  split
  · exact h _
  · decide
theorem W32s.drop {W : List Int} (h : W32s W) (a : Nat) : W32s (W.drop a) := by
  intro i
  have e : (W.drop a).getD i 0 = W.getD (a + i) 0 := by simp [List.getD_eq_getElem?_getD]
  rw [e]; exact h _
theorem g_wnil {P : Program} {f : FuncId} {w0 : World} {K : Post} {n : Nat} {d : List Deferred} {k : List Item} {e : Env} {F : List Atom} (E : Nat) (kd : IntKind) (h : G P f w0 K n d k e (Own E 1 (.slice none 0 0) 0 (ints kd []) :: F)) : G P f w0 K n d k e F := g_own_nil E 1 h
theorem l_wnil {P : Program} {f : FuncId} {w0 : World} {K : Post} {n : Nat} {d : List Deferred} {ops : Array Oper} {rest : List Oper} {k : List Item} {e : Env} {F : List Atom} (E : Nat) (kd : IntKind) (h : GL P f w0 K n d ops rest k e (Own E 1 (.slice none 0 0) 0 (ints kd []) :: F)) : GL P f w0 K n d ops rest k e F := l_own_nil E 1 h
def AllZ (l : List Int) : Prop := ∀ i, i < l.length → l.getD i 0 = 0
open Classical in
/-- What a place holds; none: it is not right. -/
noncomputable def plV (l : List Int) : Option (List Int) := if l.getD 0 0 + 1 ≤ l.length ∧ ∀ i, 1 + (l.getD 0 0).toNat ≤ i → i < l.length → l.getD i 0 = 0 then some ((l.drop 1).take (l.getD 0 0).toNat) else none
theorem plV_some {l : List Int} (h1 : l.getD 0 0 + 1 ≤ l.length) (h2 : ∀ i, 1 + (l.getD 0 0).toNat ≤ i → i < l.length → l.getD i 0 = 0) : plV l = some ((l.drop 1).take (l.getD 0 0).toNat) := by unfold plV; rw [if_pos ⟨h1, h2⟩]
theorem plV_long {l : List Int} (h1 : ¬ l.getD 0 0 + 1 ≤ l.length) : plV l = none := by unfold plV; rw [if_neg fun h => h1 h.1]
theorem plV_not {l : List Int} {i : Nat} (h1 : 1 + (l.getD 0 0).toNat ≤ i) (h2 : i < l.length) (h3 : l.getD i 0 ≠ 0) : plV l = none := by unfold plV; rw [if_neg fun h => h3 (h.2 i h1 h2)]
theorem plV_len {l T : List Int} (h : plV l = some T) : T.length + 1 ≤ l.length ∨ l = [] := by
  unfold plV at h
  split at h
  · rename_i hc
    injection h with h
    rw [← h, List.length_take, List.length_drop]
    rcases Nat.eq_zero_or_pos l.length with h0 | h0
    · exact .inr (List.length_eq_zero_iff.1 h0)
    · exact .inl (by omega)
  · cases h
theorem plV_u {l T : List Int} (h : plV l = some T) (hU : W32s l) : W32s T := by
  unfold plV at h
  split at h
  · injection h with h; rw [← h]; exact hU.part 1 _
  · cases h
/-- The words of a place. -/
def pieceW (L : List Int) (wd k : Nat) : List Int := (L.drop (k * (1 + wd))).take (1 + wd)
noncomputable def pieceV (L : List Int) (wd dp first i : Nat) : Option (List Int) := plV (pieceW L wd ((first + i) % dp))
def RowC (L : List Int) (wd dp first many i : Nat) : Prop := ∀ j, j < i → ∃ T, pieceV L wd dp first j = some T ∧ (0 < T.length ↔ j < many)
noncomputable def rowT (L : List Int) (wd dp first k : Nat) : List (List Int) := (List.range k).map fun j => (pieceV L wd dp first j).getD []
theorem rowT_len (L : List Int) (wd dp first k : Nat) : (rowT L wd dp first k).length = k := by simp [rowT]
theorem rowT_succ {L : List Int} {wd dp first k : Nat} {T : List Int} (h : pieceV L wd dp first k = some T) : rowT L wd dp first k ++ [T] = rowT L wd dp first (k + 1) := by simp [rowT, List.range_succ, h]
/-- What a row of places holds. -/
def RowR (L : List Int) (wd dp first many : Nat) (Ts : List (List Int)) (ok : Bool) : Prop := (ok = true ∧ many ≤ dp ∧ first < dp ∧ RowC L wd dp first many dp ∧ Ts = rowT L wd dp first many) ∨ (ok = false ∧ Ts = [] ∧ ¬ (many ≤ dp ∧ first < dp ∧ RowC L wd dp first many dp))
theorem lat_last (ms : List LV) (x : LV) : lat (ms ++ [x]) ms.length = x := by simp [lat]
theorem lat_init {ms : List LV} {x : LV} {j : Nat} (h : j < ms.length) : lat (ms ++ [x]) j = lat ms j := by simp [lat, List.getD_eq_getElem?_getD, List.getElem?_append_left h]
def tat (Ts : List (List Int)) (j : Nat) : List Int := Ts.getD j []
theorem tat_last (Ts : List (List Int)) (x : List Int) : tat (Ts ++ [x]) Ts.length = x := by simp [tat]
theorem tat_init {Ts : List (List Int)} {x : List Int} {j : Nat} (h : j < Ts.length) : tat (Ts ++ [x]) j = tat Ts j := by simp [tat, List.getD_eq_getElem?_getD, List.getElem?_append_left h]
def MsOk (ms : List LV) (Ts : List (List Int)) : Prop := ms.length = Ts.length ∧ ∀ j, j < ms.length → (tat Ts j).length = (lat ms j).n ∧ ((lat ms j).n = 0 ∨ ∃ g, (lat ms j).a = some ⟨g, 0, none⟩)
theorem MsOk.nil : MsOk [] [] := ⟨rfl, fun j h => by simp at h⟩
theorem MsOk.snoc {ms : List LV} {Ts : List (List Int)} {x : LV} {T : List Int} (H : MsOk ms Ts) (h1 : T.length = x.n) (h2 : x.n = 0 ∨ ∃ g, x.a = some ⟨g, 0, none⟩) : MsOk (ms ++ [x]) (Ts ++ [T]) := by
  refine ⟨by simp [H.1], fun j hj => ?_⟩
  simp only [List.length_append, List.length_singleton] at hj
  by_cases h : j < ms.length
  · rw [lat_init h, tat_init (by rw [← H.1]; exact h)]; exact H.2 j h
  · obtain rfl : j = ms.length := by omega
    rw [lat_last]
    have := tat_last Ts T
    rw [← H.1] at this
    rw [this]; exact ⟨h1, h2⟩
theorem row_sub {w0 : World} {F : List Atom} {g o o' : Nat} {kd : IntKind} {cap : Nat} {i : Int} {W : List Int} (h : RowAt w0 F g o (ints kd W)) (ho : i < cap ∧ o' = o + i.toNat * 1 ∨ cap ≤ i ∧ o' = o) (hl : W.length ≤ cap) : RowAt w0 F g o' (ints kd (W.drop i.toNat)) := by
  rcases ho with ⟨_, h2⟩ | ⟨h1, h2⟩
  · have := h.mid i.toNat W.length
    rw [ints_drop, ints_take, List.take_of_length_le (by rw [List.length_drop]; omega)] at this
    rw [h2, Nat.mul_one]; exact this
  · rw [List.drop_eq_nil_of_le (by omega)]
    intro w hw j u hu
    simp [ints] at hu
theorem row_sub2 {w0 : World} {F : List Atom} {g o o' m : Nat} {kd : IntKind} {cap : Nat} {i : Int} {W : List Int} (h : RowAt w0 F g o (ints kd W)) (ho : i < cap ∧ o' = o + i.toNat * 1 ∨ cap ≤ i ∧ o' = o) (hl : W.length ≤ cap) : RowAt w0 F g o' (ints kd ((W.drop i.toNat).take m)) := by
  have := (row_sub h ho hl).mid 0 m
  rw [List.drop_zero, ints_take, Nat.add_zero] at this
  exact this
theorem big_snoc {w0 : World} {F : List Atom} {w : World} {N : Nat} {A C : Nat → Atom} {B X : Atom} (h : Holds w0 (B :: BigF N A :: X :: F) w) (h1 : C N = B) (k1 : ∀ k, k < N → C k = A k) : Holds w0 (X :: BigF (N + 1) C :: F) w := SPI.holds (BigF.snoc h h1 k1)
theorem piece_len {L : List Int} {wd k dp : Nat} (hL : L.length = dp * (1 + wd)) (hk : k < dp) : (pieceW L wd k).length = 1 + wd := by
  unfold pieceW
  have : (k + 1) * (1 + wd) ≤ dp * (1 + wd) := Nat.mul_le_mul_right _ hk
  rw [Nat.add_mul] at this
  rw [List.length_take, List.length_drop]; omega
theorem piece_bd {wd k dp : Nat} (h1 : 1 ≤ wd) (h2 : wd ≤ 16) (h3 : dp ≤ 8) (hk : k < dp) : 0 ≤ (k : Int) * (1 + (wd : Int)) ∧ ((k : Int) + 1) * (1 + (wd : Int)) ≤ ((dp * (1 + wd) : Nat) : Int) ∧ ((k : Int) + 1) * (1 + (wd : Int)) = (k : Int) * (1 + (wd : Int)) + (1 + (wd : Int)) ∧ dp * (1 + wd) ≤ 136 ∧ ((k : Int) * (1 + (wd : Int))).toNat = k * (1 + wd) := by
  have a : (k + 1) * (1 + wd) ≤ dp * (1 + wd) := Nat.mul_le_mul_right _ hk
  have b : dp * (1 + wd) ≤ 8 * 17 := Nat.mul_le_mul h3 (by omega)
  refine ⟨Int.mul_nonneg (by omega) (by omega), by exact_mod_cast a, by rw [Int.add_mul, Int.one_mul], b, ?_⟩
  exact Int.toNat_natCast (k * (1 + wd))
theorem zero1 {w0 : World} {F : List Atom} {w : World} {X : Atom} (h : Holds w0 (X :: F) w) (A : Nat → Atom) : Holds w0 (X :: BigF 0 A :: F) w := SPI.holds (BigF.zero h A)
theorem mod_nat {first dp : Nat} {i : Int} (h0 : 0 ≤ i) (hd : 0 < dp) : ((first : Int) + i) % (dp : Int) = (((first + i.toNat) % dp : Nat) : Int) ∧ (first + i.toNat) % dp < dp := by
  obtain ⟨j, rfl⟩ := Int.eq_ofNat_of_zero_le h0
  refine ⟨?_, Nat.mod_lt _ hd⟩
  rw [Int.toNat_natCast]
  exact (Int.natCast_emod (first + j) dp).symm
theorem tat_at {Ts : List (List Int)} {x : List Int} {n : Nat} (h : n = Ts.length) : tat (Ts ++ [x]) n = x := by subst h; exact tat_last Ts x
theorem RowC.succ {L : List Int} {wd dp first many : Nat} {i : Int} {T : List Int} (H : RowC L wd dp first many i.toNat) (i0 : 0 ≤ i) (hp : pieceV L wd dp first i.toNat = some T) (hT : 0 < T.length ↔ i < many) : RowC L wd dp first many (i + 1).toNat := by
  intro j hj
  rcases (show j < i.toNat ∨ j = i.toNat by omega) with h | rfl
  · exact H j h
  · exact ⟨T, hp, by rw [hT]; omega⟩
theorem RowC.ok {L : List Int} {wd dp first many : Nat} (H : RowC L wd dp first many dp) (hm : many ≤ dp) (hf : first < dp) : RowR L wd dp first many (rowT L wd dp first many) true := .inl ⟨rfl, hm, hf, H, rfl⟩
theorem RowR.no1 {L : List Int} {wd dp first many : Nat} (h : dp < many ∨ dp ≤ first) : RowR L wd dp first many [] false := .inr ⟨rfl, rfl, fun ⟨h1, h2, _⟩ => by omega⟩
theorem RowR.no2 {L : List Int} {wd dp first many i : Nat} (hi : i < dp) (h : pieceV L wd dp first i = none) : RowR L wd dp first many [] false := .inr ⟨rfl, rfl, fun ⟨_, _, h3⟩ => by obtain ⟨T, h4, _⟩ := h3 i hi; rw [h] at h4; cases h4⟩
theorem RowR.no3 {L T : List Int} {wd dp first many i : Nat} (hi : i < dp) (h : pieceV L wd dp first i = some T) (hn : ¬ (0 < T.length ↔ i < many)) : RowR L wd dp first many [] false := .inr ⟨rfl, rfl, fun ⟨_, _, h3⟩ => by obtain ⟨T2, h4, h5⟩ := h3 i hi; rw [h] at h4; injection h4 with h4; subst h4; exact hn h5⟩
theorem RowAt.big {w0 : World} {F : List Atom} {N j : Nat} {A : Nat → Atom} {E sz b n cap : Nat} {xs : List Value} (hm : BigF N A ∈ F) (hj : j < N) (hA : A j = Own E sz (.slice (some ⟨b, 0, none⟩) n cap) n xs) : RowAt w0 F b 0 xs := fun w hw i u hu => by
  have h := (hw.ok _ hm).1 j hj
  rw [hA] at h
  obtain ⟨h1, h2⟩ := h
  rcases h2 with ⟨h2, _⟩ | ⟨g, cap2, cur, hv, hg, h3, h4, h5, h6⟩
  · cases h2
  · cases hv
    rw [← h6, List.getElem?_take] at hu
    split at hu
    · rw [Nat.zero_add]
      exact cell_of_has hg hu
    · cases hu
theorem IR.big {w0 : World} {F : List Atom} {N j : Nat} {A : Nat → Atom} {kd : IntKind} {E n cap : Nat} {a : Option Addr} {W : List Int} (hm : BigF N A ∈ F) (hj : j < N) (hA : A j = Own E 1 (.slice a n cap) n (ints kd W)) (hW : W.length = n) (ha : n = 0 ∨ ∃ g, a = Option.some ⟨g, 0, none⟩) : IR w0 F kd a n W :=
  ⟨hW, ha.imp id fun ⟨g, h⟩ => ⟨g, 0, h, by subst h; exact RowAt.big hm hj hA⟩⟩

theorem place_ok (w0 : World) (F : List Atom) (wd dp : Int) (w0_ : 0 ≤ wd) (w1_ : wd ≤ 16) :
    CallK Try.prog 47 [.agg #[.int .i64 wd, .int .i64 dp]] w0 (F) (Gives w0 fun v F2 => v = .int .i64 (1 + wd) ∧ F2 = F) := by
  refine c_enter Try.func47 rfl rfl rfl ?_
  refine g_seq ?_
  refine g_region ?_
  refine l_boxs rfl rfl ?_; intro b1
  refine l_assign rfl rfl ?_
  refine l_nil ?_
  refine g_seq ?_
  refine g_region ?_
  refine l_fieldAddr rfl fa_61_0 rfl ?_
  first | refine l_ld rfl Try.isAgg3 rfl rfl ?_ | refine l_ldw rfl Try.isAgg3 rfl (by omega) ?_
  first | refine l_add rfl rfl rfl (w_i64 (by omega) (by omega)) ?_ | refine l_addw rfl rfl rfl ?_
  refine l_assign rfl rfl ?_
  refine l_nil ?_
  refine g_ret Try.func47 rfl (.tmp rfl .nil) ?_
  exact Gives.mki ⟨rfl, rfl⟩
theorem all_ok (w0 : World) (F : List Atom) (wd dp h : Int) (w0_ : 0 ≤ wd) (w1_ : wd ≤ 16) (d0_ : 0 ≤ dp) (d1_ : dp ≤ 8) (h0_ : 0 ≤ h) (h1_ : h ≤ 3) :
    CallK Try.prog 46 [.agg #[.int .i64 wd, .int .i64 dp], .int .i64 h] w0 (F) (Gives w0 fun v F2 => v = .int .i64 (h + dp * (1 + wd)) ∧ F2 = F) := by
  have hb : 0 ≤ dp * (1 + wd) ∧ dp * (1 + wd) ≤ 8 * (1 + wd) := ⟨Int.mul_nonneg (by omega) (by omega), Int.mul_le_mul_of_nonneg_right (by omega) (by omega)⟩
  refine c_enter Try.func46 rfl rfl rfl ?_
  refine g_seq ?_
  refine g_region ?_
  refine l_boxs rfl rfl ?_; intro b2
  refine l_assign rfl rfl ?_
  refine l_nil ?_
  refine g_seq ?_
  refine gp_start mo (by kernel_rfl) (by kernel_rfl) ?_
  refine gp_quiet 0 rfl rfl rfl rfl rfl rfl (q_move rfl) ?_
  refine gp_quiet 1 rfl rfl rfl rfl rfl rfl (q_fieldAddr fa_61_1 rfl) ?_
  first | refine gp_quiet 2 rfl rfl rfl rfl rfl rfl (q_ld Try.isAgg3 rfl rfl) ?_ | refine gp_quiet 2 rfl rfl rfl rfl rfl rfl (q_ldw Try.isAgg3 rfl (by omega)) ?_
  refine gp_quiet 3 rfl rfl rfl rfl rfl rfl (q_lds Try.isAgg61 Try.sizeOf61 rfl rfl) ?_
  refine gp_effa 4 [3] [2, 1, 0] rfl rfl rfl rfl rfl rfl rfl (does_call Try.call47 rfl (place_ok _ _ wd dp (by omega) (by omega))) ?_
  rintro _ _ ⟨rfl, rfl⟩
  refine ⟨?_, ?_⟩
  · first | refine .cons rfl rfl rfl rfl rfl (q_ld Try.isAgg3 rfl rfl) ?_ | refine .cons rfl rfl rfl rfl rfl (q_ldw Try.isAgg3 rfl (by omega)) ?_
    refine .cons rfl rfl rfl rfl rfl (q_fieldAddr fa_61_1 rfl) ?_
    refine .cons rfl rfl rfl rfl rfl (q_move rfl) ?_
    exact .nil
  first | refine gp_quiet 5 rfl rfl rfl rfl rfl rfl (q_mul rfl rfl (w_i64 (by omega) (by omega))) ?_ | refine gp_quiet 5 rfl rfl rfl rfl rfl rfl (q_mulw rfl rfl) ?_
  first | refine gp_quiet 6 rfl rfl rfl rfl rfl rfl (q_add rfl rfl (w_i64 (by omega) (by omega))) ?_ | refine gp_quiet 6 rfl rfl rfl rfl rfl rfl (q_addw rfl rfl) ?_
  refine gp_quiet 7 rfl rfl rfl rfl rfl rfl (q_assign rfl) ?_
  refine gp_end rfl rfl ?_
  refine g_ret Try.func46 rfl (.tmp rfl .nil) ?_
  exact Gives.mki ⟨rfl, rfl⟩
set_option maxHeartbeats 4000000 in
theorem message_ok (w0 : World) (F : List Atom) (b o n c : Nat) (L : List Int) (hL : L.length = n) (hc : n ≤ c) (hr : RowAt w0 F b o (ints .u32 L)) (hU : W32s L) (h1 : 1 ≤ n) (hn : n ≤ 1000) :
    CallK Try.prog 60 [.slice (some ⟨b, o, none⟩) n c] w0 (F) (Gives w0 fun v F2 => ∃ a q c2 T ok, v = .tuple #[.slice a q c2, .bool ok] ∧ T.length = q ∧ (q = 0 ∨ ∃ g2, a = some ⟨g2, 0, none⟩) ∧ F2 = Own 33 1 (.slice a q c2) q (ints .u32 T) :: F ∧ ((ok = true ∧ plV L = some T) ∨ (ok = false ∧ T = [] ∧ plV L = none))) := by
  obtain ⟨k, hk⟩ := Int.eq_ofNat_of_zero_le (hU 0).1
  have hkb := (hU 0).2
  rw [hk] at hkb
  refine c_enter Try.func60 rfl rfl rfl ?_
  refine g_seq ?_
  refine g_region ?_
  refine l_assign rfl rfl ?_
  refine l_assign rfl rfl ?_
  refine l_nil ?_
  refine g_seq ?_
  refine g_region ?_
  refine l_move rfl rfl ?_
  refine l_ixs rfl Try.underlying29 Try.sizeOf33 rfl rfl (by omega) (by omega) ?_
  refine l_loadc rfl Try.isAgg33 rfl (word_any hr (by omega)) ?_
  rw [show L.getD (0 : Int).toNat 0 = (k : Int) from hk]
  refine l_assign rfl rfl ?_
  refine l_nil ?_
  refine g_seq ?_
  refine g_seq ?_
  refine g_region ?_
  refine l_move rfl rfl ?_
  refine l_move rfl rfl ?_
  refine l_len rfl Try.underlying29 rfl ?_
  first | refine l_sub_ rfl rfl rfl (w_i64 (by omega) (by omega)) ?_ | refine l_subw rfl rfl rfl ?_
  first | refine l_conv rfl Try.underlying3 Try.underlying33 rfl (w_u32 (by omega) (by omega)) ?_ | refine l_convm (m := 4294967296) rfl wr_u32 Try.underlying3 Try.underlying33 rfl ?_
  refine l_gtr rfl rfl rfl ?_
  refine l_nil ?_
  refine g_cond rfl ?_ ?_
  · intro hbr
    have hbr := of_decide_eq_true hbr
    refine g_seq ?_
    refine g_region ?_
    refine l_assign rfl rfl ?_
    refine l_assign rfl rfl ?_
    refine l_nil ?_
    refine g_wnil 33 .u32 ?_
    refine g_ret Try.func60 rfl (.tmp rfl (.tmp rfl .nil)) ?_
    (first | exact Gives.mki ⟨none, 0, 0, [], false, rfl, rfl, .inl rfl, rfl, .inr ⟨rfl, rfl, plV_long (by rw [hk]; omega)⟩⟩ | exact Gives.mki ⟨none, 0, 0, [], false, rfl, rfl, .inl rfl, rfl, .inr ⟨rfl, rfl, plV_not (i := 1 + k + i.toNat) (by rw [hk]; omega) (by omega) (by omega)⟩⟩ | exact Gives.mki ⟨a32, k, c32, (L.drop 1).take k, true, rfl, by rw [List.length_take, List.length_drop]; omega, ha32, rfl, .inl ⟨rfl, by rw [plV_some (by rw [hk]; omega) (fun j h1 h2 => by rw [hk] at h1; have h9 := hz (j - (1 + k)) (by omega); rwa [show 1 + k + (j - (1 + k)) = j by omega] at h9), hk]; rfl⟩⟩)
  intro hbr
  have hbr := of_decide_eq_false hbr
  refine g_skip ?_
  refine g_seq ?_
  refine g_seq ?_
  refine g_region ?_
  refine l_move rfl rfl ?_
  refine l_move rfl rfl ?_
  first | refine l_add rfl rfl rfl (w_u32 (by omega) (by omega)) ?_ | refine l_addm (m := 4294967296) rfl wr_u32 rfl rfl ?_
  refine l_slice_lo rfl Try.underlying29 Try.sizeOf33 rfl rfl (by omega) (by omega) (by omega) ?_; intro o19 ho19
  refine l_len rfl Try.underlying29 rfl ?_
  refine l_move rfl rfl ?_
  refine l_nil ?_
  refine g_block ?_
  refine g_loopc (X := Int) [(0, _), (4, _), (19, _), (20, _)] (.cons rfl (.cons rfl (.cons rfl (.cons rfl (.nil))))) (fun i => 0 ≤ i ∧ i ≤ ((n - (1 + (k : Int)).toNat : Nat) : Int) ∧ ∀ j : Nat, j < i → L.getD (1 + k + j) 0 = 0) (fun i => (((n - (1 + (k : Int)).toNat : Nat) : Int) - i).toNat) (fun i => [(21, .int .i64 i)]) (0) (⟨by omega, by omega, fun j hj => by omega⟩) (.cons rfl .nil) ?_
  rintro i ⟨i0, i1, hz⟩ ih
  dsimp only [List.cons_append, List.nil_append] at ih ⊢
  refine g_seq ?_
  refine g_region ?_
  refine l_lss rfl rfl rfl ?_
  refine l_nil ?_
  refine g_seq ?_
  refine g_cond rfl ?_ ?_
  · intro hbr
    have hbr := of_decide_eq_true hbr
    refine g_skip ?_
    refine g_seq ?_
    refine g_block ?_
    refine g_seq ?_
    refine g_region ?_
    refine l_ixs rfl Try.underlying29 Try.sizeOf33 rfl rfl (by omega) (by omega) ?_
    refine l_loadc (v := .int .u32 (L.getD (1 + k + i.toNat) 0)) rfl Try.isAgg33 rfl (by rw [show L.getD (1 + k + i.toNat) 0 = (L.drop (1 + (k : Int)).toNat).getD i.toNat 0 by rw [List.getD_eq_getElem?_getD, List.getD_eq_getElem?_getD, List.getElem?_drop, show (1 + (k : Int)).toNat + i.toNat = 1 + k + i.toNat by omega]]; exact word_any (row_sub hr ho19 (by omega)) (by rw [List.length_drop]; omega)) ?_
    refine l_assign rfl rfl ?_
    refine l_nil ?_
    refine g_seq ?_
    refine g_region ?_
    refine l_move rfl rfl ?_
    refine l_neq rfl rfl rfl ?_
    refine l_nil ?_
    refine g_cond rfl ?_ ?_
    · intro hbr
      have hbr := of_decide_eq_true hbr
      refine g_seq ?_
      refine g_region ?_
      refine l_assign rfl rfl ?_
      refine l_assign rfl rfl ?_
      refine l_nil ?_
      refine g_wnil 33 .u32 ?_
      refine g_ret Try.func60 rfl (.tmp rfl (.tmp rfl .nil)) ?_
      (first | exact Gives.mki ⟨none, 0, 0, [], false, rfl, rfl, .inl rfl, rfl, .inr ⟨rfl, rfl, plV_long (by rw [hk]; omega)⟩⟩ | exact Gives.mki ⟨none, 0, 0, [], false, rfl, rfl, .inl rfl, rfl, .inr ⟨rfl, rfl, plV_not (i := 1 + k + i.toNat) (by rw [hk]; omega) (by omega) (by omega)⟩⟩ | exact Gives.mki ⟨a32, k, c32, (L.drop 1).take k, true, rfl, by rw [List.length_take, List.length_drop]; omega, ha32, rfl, .inl ⟨rfl, by rw [plV_some (by rw [hk]; omega) (fun j h1 h2 => by rw [hk] at h1; have h9 := hz (j - (1 + k)) (by omega); rwa [show 1 + k + (j - (1 + k)) = j by omega] at h9), hk]; rfl⟩⟩)
    intro hbr
    have hbr := of_decide_eq_false hbr
    refine g_skip ?_
    refine g_inBlock ?_
    refine g_region ?_
    first | refine l_add rfl rfl rfl (w_i64 (by omega) (by omega)) ?_ | refine l_addw rfl rfl rfl ?_
    refine l_move rfl rfl ?_
    refine l_nil ?_
    exact g_againi (ih (i + 1) ⟨by omega, by omega, fun j hj => by rcases (show (j : Int) < i ∨ j = i.toNat by omega) with h | rfl; exact hz j h; omega⟩ (by omega)) (.cons rfl (.cons rfl (.cons rfl (.cons rfl (.cons rfl (.nil))))))
  intro hbr
  have hbr := of_decide_eq_false hbr
  refine g_exit rfl ?_
  obtain rfl : i = ((n - (1 + (k : Int)).toNat : Nat) : Int) := by omega
  refine g_seq ?_
  refine g_region ?_
  refine l_move rfl rfl ?_
  refine l_move rfl rfl ?_
  first | refine l_add rfl rfl rfl (w_u32 (by omega) (by omega)) ?_ | refine l_addm (m := 4294967296) rfl wr_u32 rfl rfl ?_
  refine l_slice_lh rfl Try.underlying29 Try.sizeOf33 rfl rfl rfl (by omega) (by omega) (by omega) ?_; intro o31 ho31
  refine l_wnil 33 .u32 ?_
  refine l_does rfl (does_apps 0 (by_ := 4) (kd := .u32) (V := []) (W := (L.drop (1 : Int).toNat).take ((1 + (k : Int)).toNat - (1 : Int).toNat)) (m := 0) (m2 := (1 + (k : Int)).toNat - (1 : Int).toNat) (m3 := k) (V3 := (L.drop 1).take k) Try.underlying29 Try.type33 rfl rfl rfl rfl rfl rfl rfl ⟨by rw [ints_length, List.length_take, List.length_drop]; omega, .inl ⟨_, _, _, rfl, (row_sub2 hr ho31 (by omega)).ex⟩⟩ (by omega) (by simp only [maxLen]; omega) (by omega) (by rw [List.nil_append, show (1 + (k : Int)).toNat - (1 : Int).toNat = k by omega]; rfl) (fun _ _ => rfl)) ?_
  rintro _ _ ⟨a32, c32, ha32, hn32, rfl, rfl⟩
  refine l_assign rfl rfl ?_
  refine l_assign rfl rfl ?_
  refine l_nil ?_
  refine g_wnil 33 .u32 ?_
  refine g_ret Try.func60 rfl (.tmp rfl (.tmp rfl .nil)) ?_
  (first | exact Gives.mki ⟨none, 0, 0, [], false, rfl, rfl, .inl rfl, rfl, .inr ⟨rfl, rfl, plV_long (by rw [hk]; omega)⟩⟩ | exact Gives.mki ⟨none, 0, 0, [], false, rfl, rfl, .inl rfl, rfl, .inr ⟨rfl, rfl, plV_not (i := 1 + k + i.toNat) (by rw [hk]; omega) (by omega) (by omega)⟩⟩ | exact Gives.mki ⟨a32, k, c32, (L.drop 1).take k, true, rfl, by rw [List.length_take, List.length_drop]; omega, ha32, rfl, .inl ⟨rfl, by rw [plV_some (by rw [hk]; omega) (fun j h1 h2 => by rw [hk] at h1; have h9 := hz (j - (1 + k)) (by omega); rwa [show 1 + k + (j - (1 + k)) = j by omega] at h9), hk]; rfl⟩⟩)
end Go.Proofs.Ytecibldbnekgbaa.Fw
