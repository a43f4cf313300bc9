import Derived.Test.YtecibldbnekgbaaQPut
namespace Go.Proofs.Ytecibldbnekgbaa.Fw
open Go Go.Proofs
set_option linter.unusedVariables false
set_option linter.unusedSimpArgs false
set_option maxRecDepth 10000

def PtdR (W : List Int) (at_ : Int) (wd dp : Nat) (fi ls : Int) (Ts : List (List Int)) (e : Int) : Prop := (e = 201 ∧ Ts = [] ∧ fi = 0 ∧ ls = 0 ∧ ∃ Ts2, PrtR W at_ wd dp Ts2 false) ∨ (e = 0 ∧ PrtR W at_ wd dp Ts true ∧ fi = W.getD at_.toNat 0 ∧ ls = W.getD (at_.toNat + 2) 0)
theorem PrtR.row {W : List Int} {at_ : Int} {wd dp : Nat} {Ts : List (List Int)} (H : PrtR W at_ wd dp Ts true) : RowR ((stL W at_ (3 + dp * (1 + wd))).drop 3) wd dp (W.getD at_.toNat 0).toNat (W.getD (at_.toNat + 1) 0).toNat Ts true := by
  obtain ⟨r, h1, h2⟩ := H
  have := (h2.1 rfl).1
  subst this
  exact h1
def LookQ (W : List Int) (at_ : Int) (wd dp : Nat) (T : List Int) (th : Bool) (e : Int) : Prop := (th = false ∧ T = [] ∧ ((e = 201 ∧ ∃ Ts, PrtR W at_ wd dp Ts false) ∨ (e = 0 ∧ PrtR W at_ wd dp [] true))) ∨ (th = true ∧ e = 0 ∧ ∃ Ts, PrtR W at_ wd dp Ts true ∧ 0 < Ts.length ∧ T = tat Ts 0)
def CntQ (W : List Int) (at_ : Int) (wd dp : Nat) (k ls e : Int) : Prop := (e = 201 ∧ k = 0 ∧ ls = 0 ∧ ∃ Ts, PrtR W at_ wd dp Ts false) ∨ (e = 0 ∧ ∃ Ts, PrtR W at_ wd dp Ts true ∧ k = Ts.length ∧ ls = W.getD (at_.toNat + 2) 0)
def frst (m first : Nat) : Nat := if m = 0 then 0 else first
/-- A port's words. -/
def portL (wd dp first : Nat) (ls : Int) (Ts : List (List Int)) (m : Nat) : List Int := layN wd dp [(frst m first : Int), (m : Int), ls] (frst m first) Ts m
def TakQ (W : List Int) (at_ : Int) (wd dp : Nat) (ok : Bool) (e : Int) (W2 : List Int) : Prop := (ok = false ∧ W2 = W ∧ ((e = 201 ∧ ∃ Ts, PrtR W at_ wd dp Ts false) ∨ (e = 0 ∧ PrtR W at_ wd dp [] true))) ∨
  (ok = true ∧ e = 0 ∧ ∃ Ts, PrtR W at_ wd dp Ts true ∧ 0 < Ts.length ∧ W2 = spl at_.toNat (portL wd dp (((W.getD at_.toNat 0).toNat + 1) % dp) (W.getD (at_.toNat + 2) 0) (Ts.drop 1) (Ts.length - 1)) W)
theorem lat_drop (ms : List LV) (j : Nat) : lat (ms.drop 1) j = lat ms (j + 1) := by simp [lat, List.getD_eq_getElem?_getD, Nat.add_comm]
theorem tat_drop (Ts : List (List Int)) (j : Nat) : tat (Ts.drop 1) j = tat Ts (j + 1) := by simp [tat, List.getD_eq_getElem?_getD, Nat.add_comm]
theorem MsRd.drop {w0 : World} {F : List Atom} {wd : Nat} {ms : List LV} {Ts : List (List Int)} (H : MsRd w0 F wd ms Ts) : MsRd w0 F wd (ms.drop 1) (Ts.drop 1) := fun j hj => by
  rw [List.length_drop] at hj
  rw [lat_drop, tat_drop]
  exact H (j + 1) (by omega)
theorem lv_sub {w0 : World} {F : List Atom} {g o : Nat} {cap : Nat} {l : List Value} (h : RowAt w0 F g 0 l) (ho : (1 : Int) < cap ∧ o = 0 + (1 : Int).toNat * 1 ∨ (cap : Int) ≤ 1 ∧ o = 0) (hl : l.length ≤ cap) : RowAt w0 F g o (l.drop 1) := by
  rcases ho with ⟨_, h2⟩ | ⟨h1, h2⟩
  · have := h.mid 1 l.length
    rw [List.take_of_length_le (by rw [List.length_drop]; omega)] at this
    rw [h2]; exact this
  · rw [List.drop_eq_nil_of_le (by omega)]
    intro w hw j u hu
    simp at hu
theorem portL_len {wd dp first : Nat} {ls : Int} {Ts : List (List Int)} {m : Nat} (hd : 0 < dp) (h : ∀ j, j < m → (tat Ts j).length ≤ wd) : (portL wd dp first ls Ts m).length = 3 + dp * (1 + wd) := layN_len hd m h
theorem lat_get {ms : List LV} {j : Nat} (h : j < ms.length) : (ms.map lvV)[j]? = some (.slice (lat ms j).a (lat ms j).n (lat ms j).c) := by simp [lat, lvV, h]

set_option maxHeartbeats 1000000 in
theorem layport_zero (w0 : World) (F : List Atom) (wd dp : Nat) (w1 : 1 ≤ wd) (w2 : wd ≤ 16) (d1 : 1 ≤ dp) (d2 : dp ≤ 8) (b g n c : Nat) (W : List Int) (hW : W.length = n) (hc : n ≤ c) (hn : n ≤ 1073741824) (at_ : Int) (hi : inR n at_ ((3 + dp * (1 + wd) : Nat) : Int)) (first : Nat) (hf : first < dp) (ls : Int) (ao : Option Addr) (m co : Nat) (ms : List LV) (Ts : List (List Int)) (hml : ms.length = m) (hm : m ≤ dp) (hrow : m = 0 ∨ ∃ g o, ao = some ⟨g, o, none⟩ ∧ RowAt w0 F g o (ms.map lvV)) (hms : MsRd w0 F wd ms Ts) (h0 : m = 0) :
    CallK Try.prog 29 [.agg #[.int .i64 (wd : Int), .int .i64 (dp : Int)], .pointer (some ⟨b, 0, none⟩), .int .i64 at_, .agg #[.int .u32 (first : Int), .int .u32 ls, .slice ao m co]] w0 (Blk b (.cells [Value.slice (some ⟨g, 0, none⟩) n c].toArray 76 (0, 0)) :: Own 33 1 (.slice (some ⟨g, 0, none⟩) n c) n (ints .u32 W) :: F) (Gives w0 fun v F2 => F2 = Blk b (.cells [Value.slice (some ⟨g, 0, none⟩) n c].toArray 76 (0, 0)) :: Own 33 1 (.slice (some ⟨g, 0, none⟩) n c) n (ints .u32 (spl at_.toNat (portL wd dp first ls Ts m) W)) :: F) := by
  refine c_enter Try.func29 rfl rfl rfl ?_
  refine g_seq ?_
  refine g_region ?_
  refine l_boxs rfl rfl ?_; intro b4
  refine l_boxs rfl rfl ?_; intro b7
  refine l_nil ?_
  refine g_seq ?_
  refine g_seq ?_
  refine g_region ?_
  refine l_fieldAddr rfl fa_64_2 rfl ?_
  refine l_ld rfl Try.isAgg40 rfl rfl ?_
  refine l_len rfl Try.underlying40 rfl ?_
  refine l_eql rfl rfl rfl ?_
  refine l_nil ?_
  refine g_cond rfl ?_ ?_
  · intro hbr
    have hbr := of_decide_eq_true hbr
    refine g_region ?_
    refine l_fieldAddr rfl fa_64_0 rfl ?_
    first | refine l_st Try.sizeOf33 rfl rfl rfl rfl ?_ | refine l_stw Try.sizeOf33 rfl rfl (by omega) ?_
    refine l_nil ?_
    refine g_region ?_
    refine l_lds rfl Try.isAgg61 Try.sizeOf61 rfl rfl ?_
    refine l_move rfl rfl ?_
    refine l_move rfl rfl ?_
    refine l_lds rfl Try.isAgg64 Try.sizeOf64 rfl rfl ?_
    refine l_fieldAddr rfl fa_64_0 rfl ?_
    first | refine l_ld rfl Try.isAgg33 rfl rfl ?_ | refine l_ldw rfl Try.isAgg33 rfl (by omega) ?_
    refine l_fieldAddr rfl fa_64_2 rfl ?_
    refine l_ld rfl Try.isAgg40 rfl rfl ?_
    refine l_len rfl Try.underlying40 rfl ?_
    refine l_conv rfl Try.underlying3 Try.underlying33 rfl (w_u32 (by omega) (by omega)) ?_
    refine l_fieldAddr rfl fa_64_1 rfl ?_
    first | refine l_ld rfl Try.isAgg33 rfl rfl ?_ | refine l_ldw rfl Try.isAgg33 rfl (by omega) ?_
    refine l_buildSlice rfl Try.underlying29 Try.sizeOf33 Try.zeroValue33 rfl rfl rfl rfl rfl rfl ?_; intro b25
    refine l_fronto g ?_
    refine l_frontb b ?_
    refine l_call rfl Try.call25 rfl (lay_row _ _ wd dp w1 w2 d1 d2 b g n c W hW hc hn at_ 3 3 b25 0 [((0 : Nat) : Int), (m : Int), ls] rfl (by omega) (by omega) (by omega) (.own (E := 33) (sz := 1) (n := 3) (cap := 3) (by first | exact mem_getO 0 rfl | exact mem_getO 1 rfl | exact mem_getO 2 rfl | exact mem_getO 3 rfl | exact mem_getO 4 rfl | exact mem_getO 5 rfl)) hi 0 (by omega) ls ao m co ms Ts hml hm (hrow.imp id fun ⟨g9, o9, h8, h9⟩ => ⟨g9, o9, h8, h9.ex⟩) (fun j hj => ⟨(hms j hj).1.ex, (hms j hj).2⟩)) ?_; rintro _ _ rfl
    refine l_nil ?_
    refine g_end Try.func29 rfl .nil ?_
    exact Gives.mki (by rw [show portL wd dp first ls Ts m = layN wd dp [((0 : Nat) : Int), (m : Int), ls] 0 Ts m by unfold portL frst; rw [if_pos h0]])
  · intro hbr
    have hbr := of_decide_eq_false hbr
    (exfalso; omega)
set_option maxHeartbeats 1000000 in
theorem layport_some (w0 : World) (F : List Atom) (wd dp : Nat) (w1 : 1 ≤ wd) (w2 : wd ≤ 16) (d1 : 1 ≤ dp) (d2 : dp ≤ 8) (b g n c : Nat) (W : List Int) (hW : W.length = n) (hc : n ≤ c) (hn : n ≤ 1073741824) (at_ : Int) (hi : inR n at_ ((3 + dp * (1 + wd) : Nat) : Int)) (first : Nat) (hf : first < dp) (ls : Int) (ao : Option Addr) (m co : Nat) (ms : List LV) (Ts : List (List Int)) (hml : ms.length = m) (hm : m ≤ dp) (hrow : m = 0 ∨ ∃ g o, ao = some ⟨g, o, none⟩ ∧ RowAt w0 F g o (ms.map lvV)) (hms : MsRd w0 F wd ms Ts) (h0 : m ≠ 0) :
    CallK Try.prog 29 [.agg #[.int .i64 (wd : Int), .int .i64 (dp : Int)], .pointer (some ⟨b, 0, none⟩), .int .i64 at_, .agg #[.int .u32 (first : Int), .int .u32 ls, .slice ao m co]] w0 (Blk b (.cells [Value.slice (some ⟨g, 0, none⟩) n c].toArray 76 (0, 0)) :: Own 33 1 (.slice (some ⟨g, 0, none⟩) n c) n (ints .u32 W) :: F) (Gives w0 fun v F2 => F2 = Blk b (.cells [Value.slice (some ⟨g, 0, none⟩) n c].toArray 76 (0, 0)) :: Own 33 1 (.slice (some ⟨g, 0, none⟩) n c) n (ints .u32 (spl at_.toNat (portL wd dp first ls Ts m) W)) :: F) := by
  refine c_enter Try.func29 rfl rfl rfl ?_
  refine g_seq ?_
  refine g_region ?_
  refine l_boxs rfl rfl ?_; intro b4
  refine l_boxs rfl rfl ?_; intro b7
  refine l_nil ?_
  refine g_seq ?_
  refine g_seq ?_
  refine g_region ?_
  refine l_fieldAddr rfl fa_64_2 rfl ?_
  refine l_ld rfl Try.isAgg40 rfl rfl ?_
  refine l_len rfl Try.underlying40 rfl ?_
  refine l_eql rfl rfl rfl ?_
  refine l_nil ?_
  refine g_cond rfl ?_ ?_
  · intro hbr
    have hbr := of_decide_eq_true hbr
    (exfalso; omega)
  intro hbr
  have hbr := of_decide_eq_false hbr
  refine g_skip ?_
  refine g_region ?_
  refine l_lds rfl Try.isAgg61 Try.sizeOf61 rfl rfl ?_
  refine l_move rfl rfl ?_
  refine l_move rfl rfl ?_
  refine l_lds rfl Try.isAgg64 Try.sizeOf64 rfl rfl ?_
  refine l_fieldAddr rfl fa_64_0 rfl ?_
  first | refine l_ld rfl Try.isAgg33 rfl rfl ?_ | refine l_ldw rfl Try.isAgg33 rfl (by omega) ?_
  refine l_fieldAddr rfl fa_64_2 rfl ?_
  refine l_ld rfl Try.isAgg40 rfl rfl ?_
  refine l_len rfl Try.underlying40 rfl ?_
  refine l_conv rfl Try.underlying3 Try.underlying33 rfl (w_u32 (by omega) (by omega)) ?_
  refine l_fieldAddr rfl fa_64_1 rfl ?_
  first | refine l_ld rfl Try.isAgg33 rfl rfl ?_ | refine l_ldw rfl Try.isAgg33 rfl (by omega) ?_
  refine l_buildSlice rfl Try.underlying29 Try.sizeOf33 Try.zeroValue33 rfl rfl rfl rfl rfl rfl ?_; intro b25
  refine l_fronto g ?_
  refine l_frontb b ?_
  refine l_call rfl Try.call25 rfl (lay_row _ _ wd dp w1 w2 d1 d2 b g n c W hW hc hn at_ 3 3 b25 0 [((first : Nat) : Int), (m : Int), ls] rfl (by omega) (by omega) (by omega) (.own (E := 33) (sz := 1) (n := 3) (cap := 3) (by first | exact mem_getO 0 rfl | exact mem_getO 1 rfl | exact mem_getO 2 rfl | exact mem_getO 3 rfl | exact mem_getO 4 rfl | exact mem_getO 5 rfl)) hi first (by omega) ls ao m co ms Ts hml hm (hrow.imp id fun ⟨g9, o9, h8, h9⟩ => ⟨g9, o9, h8, h9.ex⟩) (fun j hj => ⟨(hms j hj).1.ex, (hms j hj).2⟩)) ?_; rintro _ _ rfl
  refine l_nil ?_
  refine g_end Try.func29 rfl .nil ?_
  exact Gives.mki (by rw [show portL wd dp first ls Ts m = layN wd dp [((first : Nat) : Int), (m : Int), ls] first Ts m by unfold portL frst; rw [if_neg h0]])
theorem layport_ok (w0 : World) (F : List Atom) (wd dp : Nat) (w1 : 1 ≤ wd) (w2 : wd ≤ 16) (d1 : 1 ≤ dp) (d2 : dp ≤ 8) (b g n c : Nat) (W : List Int) (hW : W.length = n) (hc : n ≤ c) (hn : n ≤ 1073741824) (at_ : Int) (hi : inR n at_ ((3 + dp * (1 + wd) : Nat) : Int)) (first : Nat) (hf : first < dp) (ls : Int) (ao : Option Addr) (m co : Nat) (ms : List LV) (Ts : List (List Int)) (hml : ms.length = m) (hm : m ≤ dp) (hrow : m = 0 ∨ ∃ g o, ao = some ⟨g, o, none⟩ ∧ RowAt w0 F g o (ms.map lvV)) (hms : MsRd w0 F wd ms Ts) : CallK Try.prog 29 [.agg #[.int .i64 (wd : Int), .int .i64 (dp : Int)], .pointer (some ⟨b, 0, none⟩), .int .i64 at_, .agg #[.int .u32 (first : Int), .int .u32 ls, .slice ao m co]] w0 (Blk b (.cells [Value.slice (some ⟨g, 0, none⟩) n c].toArray 76 (0, 0)) :: Own 33 1 (.slice (some ⟨g, 0, none⟩) n c) n (ints .u32 W) :: F) (Gives w0 fun v F2 => F2 = Blk b (.cells [Value.slice (some ⟨g, 0, none⟩) n c].toArray 76 (0, 0)) :: Own 33 1 (.slice (some ⟨g, 0, none⟩) n c) n (ints .u32 (spl at_.toNat (portL wd dp first ls Ts m) W)) :: F) := by
  by_cases h0 : m = 0
  · exact layport_zero w0 F wd dp w1 w2 d1 d2 b g n c W hW hc hn at_ hi first hf ls ao m co ms Ts hml hm hrow hms h0
  · exact layport_some w0 F wd dp w1 w2 d1 d2 b g n c W hW hc hn at_ hi first hf ls ao m co ms Ts hml hm hrow hms h0
set_option maxHeartbeats 1000000 in
theorem ported_in (w0 : World) (F : List Atom) (wd dp : Nat) (w1 : 1 ≤ wd) (w2 : wd ≤ 16) (d1 : 1 ≤ dp) (d2 : dp ≤ 8) (b g n c : Nat) (W : List Int) (hW : W.length = n) (hc : n ≤ c) (hn : n ≤ 1073741824) (hU : W32s W) (at_ : Int) (hi : inR n at_ ((3 + dp * (1 + wd) : Nat) : Int)) :
    CallK Try.prog 30 [.pointer (some ⟨b, 0, none⟩), .int .i64 at_, .int .i64 (wd : Int), .int .i64 (dp : Int)] w0 (Blk b (.cells [Value.slice (some ⟨g, 0, none⟩) n c].toArray 76 (0, 0)) :: Own 33 1 (.slice (some ⟨g, 0, none⟩) n c) n (ints .u32 W) :: F) (Gives w0 fun v F2 => ∃ ao co ms Ts fi ls e, v = .tuple #[.agg #[.int .i64 (wd : Int), .int .i64 (dp : Int)], .agg #[.int .u32 fi, .int .u32 ls, .slice ao ms.length co], .int .i64 e] ∧ F2 = Own 29 1 (.slice ao ms.length co) ms.length (ms.map lvV) :: BigF ms.length (fun j => Own 33 1 (.slice (lat ms j).a (lat ms j).n (lat ms j).c) (lat ms j).n (ints .u32 (tat Ts j))) :: Blk b (.cells [Value.slice (some ⟨g, 0, none⟩) n c].toArray 76 (0, 0)) :: Own 33 1 (.slice (some ⟨g, 0, none⟩) n c) n (ints .u32 W) :: F ∧ MsOk ms Ts ∧ (ms.length = 0 ∨ ∃ g, ao = some ⟨g, 0, none⟩) ∧ PtdR W at_ wd dp fi ls Ts e) := by
  refine c_enter Try.func30 rfl rfl rfl ?_
  refine g_seq ?_
  refine g_region ?_
  refine l_allocs rfl Try.zeroValue61 ?_; intro b8
  refine l_allocs rfl Try.zeroValue64 ?_; intro b9
  refine l_assign rfl rfl ?_
  refine l_nil ?_
  refine g_seq ?_
  refine g_region ?_
  refine l_move rfl rfl ?_
  refine l_move rfl rfl ?_
  refine l_build rfl rfl (fun w => bd_61_0_1 _ _ w) ?_
  refine l_allocs rfl Try.zeroValue61 ?_; intro b11
  refine l_sts Try.sizeOf61 rfl rfl rfl rfl rfl ?_
  refine l_nil ?_
  refine g_seq ?_
  refine g_seq ?_
  refine g_region ?_
  refine l_move rfl rfl ?_
  refine l_lds rfl Try.isAgg61 Try.sizeOf61 rfl rfl ?_
  refine l_call rfl Try.call23 rfl (asked_n _ _ b wd dp w1 w2 d1 d2) ?_; rintro _ F9 ⟨rfl, hF9⟩; rw [hF9]; clear hF9 F9
  refine l_assign rfl rfl ?_
  refine l_nil ?_
  refine g_seq ?_
  refine g_region ?_
  refine l_move rfl rfl ?_
  refine l_neq rfl rfl rfl ?_
  refine l_nil ?_
  refine g_cond rfl ?_ ?_
  · intro hbr
    have hbr := of_decide_eq_true hbr
    (exfalso; omega)
  intro hbr
  have hbr := of_decide_eq_false hbr
  refine g_skip ?_
  refine g_seq ?_
  refine g_seq ?_
  refine g_region ?_
  refine l_lds rfl Try.isAgg61 Try.sizeOf61 rfl rfl ?_
  refine l_move rfl rfl ?_
  refine l_move rfl rfl ?_
  refine l_fronto g ?_
  refine l_frontb b ?_
  refine l_call rfl Try.call26 rfl (there_in _ _ wd dp w1 w2 d1 d2 b g n c W hW hc hn hU at_ 3 (by decide) hi) ?_; rintro _ _ ⟨rfl, rfl⟩
  refine l_not rfl rfl ?_
  refine l_nil ?_
  first | refine g_cond_f rfl ?_ | refine g_cond_f (congrArg (fun b => some (Value.bool b)) (decide_eq_false hbr)) ?_
  refine g_skip ?_
  refine g_seq ?_
  refine g_region ?_
  refine l_lds rfl Try.isAgg61 Try.sizeOf61 rfl rfl ?_
  refine l_move rfl rfl ?_
  refine l_move rfl rfl ?_
  refine l_fronto g ?_
  refine l_frontb b ?_
  refine l_call rfl Try.call28 rfl (port_ok _ _ wd dp w1 w2 d1 d2 b g n c W hW hc hn hU at_ hi) ?_; rintro _ _ ⟨ao, co, ms, Ts, ok, rfl, rfl, hMs, hao, hR⟩
  refine l_move rfl rfl ?_
  refine l_extract rfl rfl rfl ?_
  refine l_extract rfl rfl rfl ?_
  refine l_allocs rfl Try.zeroValue64 ?_; intro b13
  refine l_sts Try.sizeOf64 rfl rfl rfl rfl rfl ?_
  refine l_assign rfl rfl ?_
  refine l_nil ?_
  refine g_seq ?_
  refine g_seq ?_
  refine g_region ?_
  refine l_move rfl rfl ?_
  refine l_not rfl rfl ?_
  refine l_nil ?_
  refine g_cond rfl ?_ ?_
  · intro hbr
    have hb41 := hbr
    refine g_seq ?_
    refine g_region ?_
    refine l_own_nil 29 1 ?_
    refine gl_heap (F' := Own 29 1 (.slice none ([] : List LV).length 0) ([] : List LV).length (([] : List LV).map lvV) :: BigF ([] : List LV).length (fun j => Own 33 1 (.slice (lat ([] : List LV) j).a (lat ([] : List LV) j).n (lat ([] : List LV) j).c) (lat ([] : List LV) j).n (ints .u32 (tat ([] : List (List Int)) j))) :: _) (fun w hw => zero1 hw _) ?_
    refine l_lds rfl Try.isAgg61 Try.sizeOf61 rfl rfl ?_
    refine l_build rfl rfl (fun w => bd_64_z w) ?_
    refine l_sts Try.sizeOf61 rfl rfl rfl rfl rfl ?_
    refine l_sts Try.sizeOf64 rfl rfl rfl rfl rfl ?_
    refine l_assign rfl rfl ?_
    refine l_nil ?_
    refine g_ret Try.func30 rfl (.cis rfl Try.isAgg61 Try.sizeOf61 rfl (.cis rfl Try.isAgg64 Try.sizeOf64 rfl (.tmp rfl .nil))) ?_
    (first | exact Gives.mki ⟨none, 0, [], [], 0, 0, 201, rfl, rfl, MsOk.nil, .inl rfl, .inl ⟨rfl, rfl, rfl, rfl, Ts, by have h8 : ok = false := (by simpa using hbr); rw [h8] at hR; exact hR⟩⟩ | exact Gives.mki ⟨ao, co, ms, Ts, _, _, 0, rfl, rfl, hMs, hao, .inr ⟨rfl, by have h8 : ok = true := (by simpa using hbr); rw [h8] at hR; exact hR, rfl, rfl⟩⟩)
  intro hbr
  have hb41 := hbr
  refine g_skip ?_
  refine g_seq ?_
  refine gp_start mo (by kernel_rfl) (by kernel_rfl) ?_
  refine gp_quiet 0 rfl rfl rfl rfl rfl rfl (q_lds Try.isAgg61 Try.sizeOf61 rfl rfl) ?_
  refine gp_quiet 1 rfl rfl rfl rfl rfl rfl (q_lds Try.isAgg64 Try.sizeOf64 rfl rfl) ?_
  refine gp_effa 2 [0] [1] rfl rfl rfl rfl rfl rfl rfl (does_sts Try.sizeOf61 rfl rfl rfl rfl rfl) ?_
  rintro _ _ ⟨rfl, rfl⟩
  refine ⟨?_, ?_⟩
  · refine .cons rfl rfl rfl rfl rfl (q_lds Try.isAgg64 Try.sizeOf64 rfl rfl) ?_
    exact .nil
  refine gp_effa 3 [1] [] rfl rfl rfl rfl rfl rfl rfl (does_sts Try.sizeOf64 rfl rfl rfl rfl rfl) ?_
  rintro _ _ ⟨rfl, rfl⟩
  refine ⟨?_, ?_⟩
  · exact .nil
  refine gp_quiet 4 rfl rfl rfl rfl rfl rfl (q_assign rfl) ?_
  refine gp_end rfl rfl ?_
  refine g_ret Try.func30 rfl (.cis rfl Try.isAgg61 Try.sizeOf61 rfl (.cis rfl Try.isAgg64 Try.sizeOf64 rfl (.tmp rfl .nil))) ?_
  (first | exact Gives.mki ⟨none, 0, [], [], 0, 0, 201, rfl, rfl, MsOk.nil, .inl rfl, .inl ⟨rfl, rfl, rfl, rfl, Ts, by have h8 : ok = false := (by simpa using hbr); rw [h8] at hR; exact hR⟩⟩ | exact Gives.mki ⟨ao, co, ms, Ts, _, _, 0, rfl, rfl, hMs, hao, .inr ⟨rfl, by have h8 : ok = true := (by simpa using hbr); rw [h8] at hR; exact hR, rfl, rfl⟩⟩)
theorem ported_out (w0 : World) (F : List Atom) (wd dp : Nat) (w1 : 1 ≤ wd) (w2 : wd ≤ 16) (d1 : 1 ≤ dp) (d2 : dp ≤ 8) (b g n c : Nat) (W : List Int) (hW : W.length = n) (hc : n ≤ c) (hn : n ≤ 1073741824) (hU : W32s W) (at_ : Int) (at_0 : -9223372036854775808 ≤ at_) (at_1 : at_ ≤ 9223372036854775807) (hi : ¬ inR n at_ ((3 + dp * (1 + wd) : Nat) : Int)) :
    CallK Try.prog 30 [.pointer (some ⟨b, 0, none⟩), .int .i64 at_, .int .i64 (wd : Int), .int .i64 (dp : Int)] w0 (Blk b (.cells [Value.slice (some ⟨g, 0, none⟩) n c].toArray 76 (0, 0)) :: Own 33 1 (.slice (some ⟨g, 0, none⟩) n c) n (ints .u32 W) :: F) (Gives w0 fun v F2 => v = .tuple #[.agg #[.int .i64 (wd : Int), .int .i64 (dp : Int)], .agg #[.int .u32 0, .int .u32 0, .slice none 0 0], .int .i64 51] ∧ F2 = Blk b (.cells [Value.slice (some ⟨g, 0, none⟩) n c].toArray 76 (0, 0)) :: Own 33 1 (.slice (some ⟨g, 0, none⟩) n c) n (ints .u32 W) :: F) := by
  refine c_enter Try.func30 rfl rfl rfl ?_
  refine g_seq ?_
  refine g_region ?_
  refine l_allocs rfl Try.zeroValue61 ?_; intro b8
  refine l_allocs rfl Try.zeroValue64 ?_; intro b9
  refine l_assign rfl rfl ?_
  refine l_nil ?_
  refine g_seq ?_
  refine g_region ?_
  refine l_move rfl rfl ?_
  refine l_move rfl rfl ?_
  refine l_build rfl rfl (fun w => bd_61_0_1 _ _ w) ?_
  refine l_allocs rfl Try.zeroValue61 ?_; intro b11
  refine l_sts Try.sizeOf61 rfl rfl rfl rfl rfl ?_
  refine l_nil ?_
  refine g_seq ?_
  refine g_seq ?_
  refine g_region ?_
  refine l_move rfl rfl ?_
  refine l_lds rfl Try.isAgg61 Try.sizeOf61 rfl rfl ?_
  refine l_call rfl Try.call23 rfl (asked_n _ _ b wd dp w1 w2 d1 d2) ?_; rintro _ F9 ⟨rfl, hF9⟩; rw [hF9]; clear hF9 F9
  refine l_assign rfl rfl ?_
  refine l_nil ?_
  refine g_seq ?_
  refine g_region ?_
  refine l_move rfl rfl ?_
  refine l_neq rfl rfl rfl ?_
  refine l_nil ?_
  refine g_cond rfl ?_ ?_
  · intro hbr
    have hbr := of_decide_eq_true hbr
    (exfalso; omega)
  intro hbr
  have hbr := of_decide_eq_false hbr
  refine g_skip ?_
  refine g_seq ?_
  refine g_seq ?_
  refine g_region ?_
  refine l_lds rfl Try.isAgg61 Try.sizeOf61 rfl rfl ?_
  refine l_move rfl rfl ?_
  refine l_move rfl rfl ?_
  refine l_fronto g ?_
  refine l_frontb b ?_
  refine l_call rfl Try.call26 rfl (there_out _ _ wd dp w1 w2 d1 d2 b g n c W hW hc hn at_ at_0 at_1 3 (by decide) hi) ?_; rintro _ _ ⟨rfl, rfl⟩
  refine l_not rfl rfl ?_
  refine l_nil ?_
  first | refine g_cond_t rfl ?_ | refine g_cond_t (congrArg (fun b => some (Value.bool b)) (decide_eq_true hbr)) ?_
  refine g_seq ?_
  refine g_region ?_
  refine l_lds rfl Try.isAgg61 Try.sizeOf61 rfl rfl ?_
  refine l_build rfl rfl (fun w => bd_64_z w) ?_
  refine l_sts Try.sizeOf61 rfl rfl rfl rfl rfl ?_
  refine l_sts Try.sizeOf64 rfl rfl rfl rfl rfl ?_
  refine l_assign rfl rfl ?_
  refine l_nil ?_
  refine g_ret Try.func30 rfl (.cis rfl Try.isAgg61 Try.sizeOf61 rfl (.cis rfl Try.isAgg64 Try.sizeOf64 rfl (.tmp rfl .nil))) ?_
  exact Gives.mki ⟨rfl, rfl⟩
theorem ported_bad (w0 : World) (F : List Atom) (b : Nat) (wd dp at_ : Int) (hq : ¬ QOk wd dp) :
    CallK Try.prog 30 [.pointer (some ⟨b, 0, none⟩), .int .i64 at_, .int .i64 wd, .int .i64 dp] w0 (F) (Gives w0 fun v F2 => v = .tuple #[.agg #[.int .i64 wd, .int .i64 dp], .agg #[.int .u32 0, .int .u32 0, .slice none 0 0], .int .i64 1] ∧ F2 = F) := by
  refine c_enter Try.func30 rfl rfl rfl ?_
  refine g_seq ?_
  refine g_region ?_
  refine l_allocs rfl Try.zeroValue61 ?_; intro b8
  refine l_allocs rfl Try.zeroValue64 ?_; intro b9
  refine l_assign rfl rfl ?_
  refine l_nil ?_
  refine g_seq ?_
  refine g_region ?_
  refine l_move rfl rfl ?_
  refine l_move rfl rfl ?_
  refine l_build rfl rfl (fun w => bd_61_0_1 _ _ w) ?_
  refine l_allocs rfl Try.zeroValue61 ?_; intro b11
  refine l_sts Try.sizeOf61 rfl rfl rfl rfl rfl ?_
  refine l_nil ?_
  refine g_seq ?_
  refine g_seq ?_
  refine g_region ?_
  refine l_move rfl rfl ?_
  refine l_lds rfl Try.isAgg61 Try.sizeOf61 rfl rfl ?_
  refine l_call rfl Try.call23 rfl (asked_bad _ _ b wd dp hq) ?_; rintro _ F9 ⟨rfl, hF9⟩; rw [hF9]; clear hF9 F9
  refine l_assign rfl rfl ?_
  refine l_nil ?_
  refine g_seq ?_
  refine g_region ?_
  refine l_move rfl rfl ?_
  refine l_neq rfl rfl rfl ?_
  refine l_nil ?_
  refine g_cond rfl ?_ ?_
  · intro hbr
    have hbr := of_decide_eq_true hbr
    refine g_seq ?_
    refine g_region ?_
    refine l_lds rfl Try.isAgg61 Try.sizeOf61 rfl rfl ?_
    refine l_build rfl rfl (fun w => bd_64_z w) ?_
    refine l_move rfl rfl ?_
    refine l_sts Try.sizeOf61 rfl rfl rfl rfl rfl ?_
    refine l_sts Try.sizeOf64 rfl rfl rfl rfl rfl ?_
    refine l_assign rfl rfl ?_
    refine l_nil ?_
    refine g_ret Try.func30 rfl (.cis rfl Try.isAgg61 Try.sizeOf61 rfl (.cis rfl Try.isAgg64 Try.sizeOf64 rfl (.tmp rfl .nil))) ?_
    exact Gives.mki ⟨rfl, rfl⟩
  · intro hbr
    have hbr := of_decide_eq_false hbr
    (exfalso; omega)
theorem count_in (w0 : World) (F : List Atom) (wd dp : Nat) (w1 : 1 ≤ wd) (w2 : wd ≤ 16) (d1 : 1 ≤ dp) (d2 : dp ≤ 8) (b g n c : Nat) (W : List Int) (hW : W.length = n) (hc : n ≤ c) (hn : n ≤ 1073741824) (hU : W32s W) (at_ : Int) (hi : inR n at_ ((3 + dp * (1 + wd) : Nat) : Int)) :
    CallK Try.prog 12 [.pointer (some ⟨b, 0, none⟩), .int .i64 at_, .int .i64 (wd : Int), .int .i64 (dp : Int)] w0 (Blk b (.cells [Value.slice (some ⟨g, 0, none⟩) n c].toArray 76 (0, 0)) :: Own 33 1 (.slice (some ⟨g, 0, none⟩) n c) n (ints .u32 W) :: F) (Gives w0 fun v F2 => ∃ k ls e, v = .tuple #[.int .i64 k, .int .u32 ls, .int .i64 e] ∧ F2 = Blk b (.cells [Value.slice (some ⟨g, 0, none⟩) n c].toArray 76 (0, 0)) :: Own 33 1 (.slice (some ⟨g, 0, none⟩) n c) n (ints .u32 W) :: F ∧ CntQ W at_ wd dp k ls e) := by
  refine c_enter Try.func12 rfl rfl rfl ?_
  refine g_seq ?_
  refine g_region ?_
  refine l_assign rfl rfl ?_
  refine l_assign rfl rfl ?_
  refine l_assign rfl rfl ?_
  refine l_nil ?_
  refine g_seq ?_
  refine g_region ?_
  refine l_move rfl rfl ?_
  refine l_move rfl rfl ?_
  refine l_move rfl rfl ?_
  refine l_move rfl rfl ?_
  refine l_call rfl Try.call30 rfl (ported_in _ _ wd dp w1 w2 d1 d2 b g n c W hW hc hn hU at_ hi) ?_; rintro _ _ ⟨ao, co, ms, Ts, fi, ls, e, rfl, rfl, hMs, hao, hR⟩
  have hml := hMs.1
  refine l_move rfl rfl ?_
  refine l_extract rfl rfl rfl ?_
  refine l_extract rfl rfl rfl ?_
  refine l_extract rfl rfl rfl ?_
  refine l_allocs rfl Try.zeroValue61 ?_; intro b11
  refine l_allocs rfl Try.zeroValue64 ?_; intro b12
  refine l_sts Try.sizeOf61 rfl rfl rfl rfl rfl ?_
  refine l_sts Try.sizeOf64 rfl rfl rfl rfl rfl ?_
  refine l_assign rfl rfl ?_
  refine l_nil ?_
  refine g_seq ?_
  refine gp_start mo (by kernel_rfl) (by kernel_rfl) ?_
  refine gp_quiet 0 rfl rfl rfl rfl rfl rfl (q_fieldAddr fa_64_2 rfl) ?_
  refine gp_quiet 1 rfl rfl rfl rfl rfl rfl (q_ld Try.isAgg40 rfl rfl) ?_
  refine gp_quiet 2 rfl rfl rfl rfl rfl rfl (q_len Try.underlying40 rfl) ?_
  refine gp_quiet 3 rfl rfl rfl rfl rfl rfl (q_fieldAddr fa_64_1 rfl) ?_
  first | refine gp_quiet 4 rfl rfl rfl rfl rfl rfl (q_ld Try.isAgg33 rfl rfl) ?_ | refine gp_quiet 4 rfl rfl rfl rfl rfl rfl (q_ldw Try.isAgg33 rfl (by omega)) ?_
  refine gp_quiet 5 rfl rfl rfl rfl rfl rfl (q_move rfl) ?_
  refine gp_quiet 6 rfl rfl rfl rfl rfl rfl (q_assign rfl) ?_
  refine gp_quiet 7 rfl rfl rfl rfl rfl rfl (q_assign rfl) ?_
  refine gp_after 8 rfl rfl rfl rfl rfl rfl rfl rfl (q_assign rfl) ?_
  refine gp_end rfl rfl ?_
  refine g_ret Try.func12 rfl (.tmp rfl (.tmp rfl (.tmp rfl .nil))) ?_
  exact Gives.mki ⟨_, ls, e, rfl, rfl, by rcases hR with ⟨h1, h2, _, h4, h5⟩ | ⟨h1, h2, _, h4⟩; (exact .inl ⟨h1, by rw [hml, h2]; rfl, h4, h5⟩); (exact .inr ⟨h1, Ts, h2, by rw [hml], h4⟩)⟩
theorem count_out (w0 : World) (F : List Atom) (wd dp : Nat) (w1 : 1 ≤ wd) (w2 : wd ≤ 16) (d1 : 1 ≤ dp) (d2 : dp ≤ 8) (b g n c : Nat) (W : List Int) (hW : W.length = n) (hc : n ≤ c) (hn : n ≤ 1073741824) (hU : W32s W) (at_ : Int) (at_0 : -9223372036854775808 ≤ at_) (at_1 : at_ ≤ 9223372036854775807) (hi : ¬ inR n at_ ((3 + dp * (1 + wd) : Nat) : Int)) :
    CallK Try.prog 12 [.pointer (some ⟨b, 0, none⟩), .int .i64 at_, .int .i64 (wd : Int), .int .i64 (dp : Int)] w0 (Blk b (.cells [Value.slice (some ⟨g, 0, none⟩) n c].toArray 76 (0, 0)) :: Own 33 1 (.slice (some ⟨g, 0, none⟩) n c) n (ints .u32 W) :: F) (Gives w0 fun v F2 => v = .tuple #[.int .i64 0, .int .u32 0, .int .i64 51] ∧ F2 = Blk b (.cells [Value.slice (some ⟨g, 0, none⟩) n c].toArray 76 (0, 0)) :: Own 33 1 (.slice (some ⟨g, 0, none⟩) n c) n (ints .u32 W) :: F) := by
  refine c_enter Try.func12 rfl rfl rfl ?_
  refine g_seq ?_
  refine g_region ?_
  refine l_assign rfl rfl ?_
  refine l_assign rfl rfl ?_
  refine l_assign rfl rfl ?_
  refine l_nil ?_
  refine g_seq ?_
  refine g_region ?_
  refine l_move rfl rfl ?_
  refine l_move rfl rfl ?_
  refine l_move rfl rfl ?_
  refine l_move rfl rfl ?_
  refine l_call rfl Try.call30 rfl (ported_out _ _ wd dp w1 w2 d1 d2 b g n c W hW hc hn hU at_ at_0 at_1 hi) ?_; rintro _ _ ⟨rfl, rfl⟩
  refine l_move rfl rfl ?_
  refine l_extract rfl rfl rfl ?_
  refine l_extract rfl rfl rfl ?_
  refine l_extract rfl rfl rfl ?_
  refine l_allocs rfl Try.zeroValue61 ?_; intro b11
  refine l_allocs rfl Try.zeroValue64 ?_; intro b12
  refine l_sts Try.sizeOf61 rfl rfl rfl rfl rfl ?_
  refine l_sts Try.sizeOf64 rfl rfl rfl rfl rfl ?_
  refine l_assign rfl rfl ?_
  refine l_nil ?_
  refine g_seq ?_
  refine gp_start mo (by kernel_rfl) (by kernel_rfl) ?_
  refine gp_quiet 0 rfl rfl rfl rfl rfl rfl (q_fieldAddr fa_64_2 rfl) ?_
  refine gp_quiet 1 rfl rfl rfl rfl rfl rfl (q_ld Try.isAgg40 rfl rfl) ?_
  refine gp_quiet 2 rfl rfl rfl rfl rfl rfl (q_len Try.underlying40 rfl) ?_
  refine gp_quiet 3 rfl rfl rfl rfl rfl rfl (q_fieldAddr fa_64_1 rfl) ?_
  first | refine gp_quiet 4 rfl rfl rfl rfl rfl rfl (q_ld Try.isAgg33 rfl rfl) ?_ | refine gp_quiet 4 rfl rfl rfl rfl rfl rfl (q_ldw Try.isAgg33 rfl (by omega)) ?_
  refine gp_quiet 5 rfl rfl rfl rfl rfl rfl (q_move rfl) ?_
  refine gp_quiet 6 rfl rfl rfl rfl rfl rfl (q_assign rfl) ?_
  refine gp_quiet 7 rfl rfl rfl rfl rfl rfl (q_assign rfl) ?_
  refine gp_after 8 rfl rfl rfl rfl rfl rfl rfl rfl (q_assign rfl) ?_
  refine gp_end rfl rfl ?_
  refine g_ret Try.func12 rfl (.tmp rfl (.tmp rfl (.tmp rfl .nil))) ?_
  exact Gives.mki ⟨rfl, rfl⟩
set_option maxHeartbeats 1000000 in
theorem look_in (w0 : World) (F : List Atom) (wd dp : Nat) (w1 : 1 ≤ wd) (w2 : wd ≤ 16) (d1 : 1 ≤ dp) (d2 : dp ≤ 8) (b g n c : Nat) (W : List Int) (hW : W.length = n) (hc : n ≤ c) (hn : n ≤ 1073741824) (hU : W32s W) (at_ : Int) (hi : inR n at_ ((3 + dp * (1 + wd) : Nat) : Int)) :
    CallK Try.prog 10 [.pointer (some ⟨b, 0, none⟩), .int .i64 at_, .int .i64 (wd : Int), .int .i64 (dp : Int)] w0 (Blk b (.cells [Value.slice (some ⟨g, 0, none⟩) n c].toArray 76 (0, 0)) :: Own 33 1 (.slice (some ⟨g, 0, none⟩) n c) n (ints .u32 W) :: F) (Gives w0 fun v F2 => ∃ a q c2 T th e, v = .tuple #[.slice a q c2, .bool th, .int .i64 e] ∧ F2 = Own 33 1 (.slice a q c2) q (ints .u32 T) :: Blk b (.cells [Value.slice (some ⟨g, 0, none⟩) n c].toArray 76 (0, 0)) :: Own 33 1 (.slice (some ⟨g, 0, none⟩) n c) n (ints .u32 W) :: F ∧ T.length = q ∧ (q = 0 ∨ ∃ g, a = some ⟨g, 0, none⟩) ∧ LookQ W at_ wd dp T th e) := by
  refine c_enter Try.func10 rfl rfl rfl ?_
  refine g_seq ?_
  refine g_region ?_
  refine l_assign rfl rfl ?_
  refine l_assign rfl rfl ?_
  refine l_assign rfl rfl ?_
  refine l_nil ?_
  refine g_seq ?_
  refine g_region ?_
  refine l_move rfl rfl ?_
  refine l_move rfl rfl ?_
  refine l_move rfl rfl ?_
  refine l_move rfl rfl ?_
  refine l_call rfl Try.call30 rfl (ported_in _ _ wd dp w1 w2 d1 d2 b g n c W hW hc hn hU at_ hi) ?_; rintro _ _ ⟨ao, co, ms, Ts, fi, ls, e, rfl, rfl, hMs, hao, hR⟩
  have hml := hMs.1
  refine l_move rfl rfl ?_
  refine l_extract rfl rfl rfl ?_
  refine l_extract rfl rfl rfl ?_
  refine l_extract rfl rfl rfl ?_
  refine l_allocs rfl Try.zeroValue61 ?_; intro b11
  refine l_allocs rfl Try.zeroValue64 ?_; intro b12
  refine l_sts Try.sizeOf61 rfl rfl rfl rfl rfl ?_
  refine l_sts Try.sizeOf64 rfl rfl rfl rfl rfl ?_
  refine l_assign rfl rfl ?_
  refine l_nil ?_
  refine g_seq ?_
  refine g_seq ?_
  refine g_region ?_
  refine l_move rfl rfl ?_
  refine l_neq rfl rfl rfl ?_
  refine l_move rfl rfl ?_
  refine l_split 25 rfl ?_ ?_
  · intro hbr
    have hbr := of_decide_eq_true hbr
    refine l_guard_no rfl rfl rfl ?_
    refine l_guard_no rfl rfl rfl ?_
    refine l_guard_no rfl rfl rfl ?_
    refine l_guard_no rfl rfl rfl ?_
    refine l_pick_t rfl rfl rfl ?_
    refine l_nil ?_
    first | refine g_cond_t rfl ?_ | refine g_cond_t (congrArg (fun b => some (Value.bool b)) (decide_eq_true hbr)) ?_
    refine g_seq ?_
    refine g_region ?_
    refine l_wnil 33 .u32 ?_
    refine l_move rfl rfl ?_
    refine l_assign rfl rfl ?_
    refine l_assign rfl rfl ?_
    refine l_assign rfl rfl ?_
    refine l_nil ?_
    refine g_ret Try.func10 rfl (.tmp rfl (.tmp rfl (.tmp rfl .nil))) ?_
    (first | exact Gives.mki ⟨(lat ms 0).a, (lat ms 0).n, (lat ms 0).c, tat Ts 0, true, 0, rfl, rfl, hM0.1, hM0.2, .inr ⟨rfl, rfl, Ts, hR, by omega, rfl⟩⟩ | exact Gives.mki ⟨none, 0, 0, [], false, e, rfl, rfl, rfl, .inl rfl, .inl ⟨rfl, rfl, by rcases hR with ⟨h1, _, _, _, h5⟩ | ⟨h1, h2, _⟩; (exact .inl ⟨h1, h5⟩); (exact .inr ⟨h1, by have h9 : Ts = [] := List.length_eq_zero_iff.1 (by omega); rw [h9] at h2; exact h2⟩)⟩⟩)
  intro hbr
  have hbr := of_decide_eq_false hbr
  refine l_guard_yes rfl rfl ?_
  refine l_fieldAddr rfl fa_64_2 rfl ?_
  refine l_guard_yes rfl rfl ?_
  refine l_ld rfl Try.isAgg40 rfl rfl ?_
  refine l_guard_yes rfl rfl ?_
  refine l_len rfl Try.underlying40 rfl ?_
  refine l_guard_yes rfl rfl ?_
  refine l_eql rfl rfl rfl ?_
  refine l_pick_f rfl rfl rfl ?_
  refine l_nil ?_
  refine g_cond rfl ?_ ?_
  · intro hbr
    have hbr := of_decide_eq_true hbr
    refine g_seq ?_
    refine g_region ?_
    refine l_wnil 33 .u32 ?_
    refine l_move rfl rfl ?_
    refine l_assign rfl rfl ?_
    refine l_assign rfl rfl ?_
    refine l_assign rfl rfl ?_
    refine l_nil ?_
    refine g_ret Try.func10 rfl (.tmp rfl (.tmp rfl (.tmp rfl .nil))) ?_
    (first | exact Gives.mki ⟨(lat ms 0).a, (lat ms 0).n, (lat ms 0).c, tat Ts 0, true, 0, rfl, rfl, hM0.1, hM0.2, .inr ⟨rfl, rfl, Ts, hR, by omega, rfl⟩⟩ | exact Gives.mki ⟨none, 0, 0, [], false, e, rfl, rfl, rfl, .inl rfl, .inl ⟨rfl, rfl, by rcases hR with ⟨h1, _, _, _, h5⟩ | ⟨h1, h2, _⟩; (exact .inl ⟨h1, h5⟩); (exact .inr ⟨h1, by have h9 : Ts = [] := List.length_eq_zero_iff.1 (by omega); rw [h9] at h2; exact h2⟩)⟩⟩)
  intro hbr
  have hbr := of_decide_eq_false hbr
  refine g_skip ?_
  refine g_seq ?_
  refine g_region ?_
  have hR0 : e = 0 ∧ PrtR W at_ wd dp Ts true := by rcases hR with ⟨h, _⟩ | ⟨h, h2, _⟩; omega; exact ⟨h, h2⟩
  clear hR
  obtain ⟨rfl, hR⟩ := hR0
  obtain ⟨gr, rfl⟩ := hao.resolve_left (by omega)
  have hM0 := hMs.2 0 (by omega)
  refine l_fieldAddr rfl fa_64_2 rfl ?_
  refine l_ld rfl Try.isAgg40 rfl rfl ?_
  refine l_ixs rfl Try.underlying40 Try.sizeOf29 rfl rfl (by omega) (by omega) ?_
  refine l_loadc (v := .slice (lat ms 0).a (lat ms 0).n (lat ms 0).c) rfl Try.isAgg29 rfl (own_cell (i := 0) (lat_get (by omega))) ?_
  refine gl_heap (F' := Own 33 1 (.slice (lat ms 0).a (lat ms 0).n (lat ms 0).c) (lat ms 0).n (ints .u32 (tat Ts 0)) :: Blk b (.cells [Value.slice (some ⟨g, 0, none⟩) n c].toArray 76 (0, 0)) :: Own 33 1 (.slice (some ⟨g, 0, none⟩) n c) n (ints .u32 W) :: F) (fun w hw => SPI.holds (BigF.focus (SPI.holds (F' := BigF ms.length (fun j => Own 33 1 (.slice (lat ms j).a (lat ms j).n (lat ms j).c) (lat ms j).n (ints .u32 (tat Ts j))) :: Blk b (.cells [Value.slice (some ⟨g, 0, none⟩) n c].toArray 76 (0, 0)) :: Own 33 1 (.slice (some ⟨g, 0, none⟩) n c) n (ints .u32 W) :: F) hw) (i := 0) (by omega))) ?_
  refine l_assign rfl rfl ?_
  refine l_assign rfl rfl ?_
  refine l_assign rfl rfl ?_
  refine l_nil ?_
  refine g_ret Try.func10 rfl (.tmp rfl (.tmp rfl (.tmp rfl .nil))) ?_
  (first | exact Gives.mki ⟨(lat ms 0).a, (lat ms 0).n, (lat ms 0).c, tat Ts 0, true, 0, rfl, rfl, hM0.1, hM0.2, .inr ⟨rfl, rfl, Ts, hR, by omega, rfl⟩⟩ | exact Gives.mki ⟨none, 0, 0, [], false, e, rfl, rfl, rfl, .inl rfl, .inl ⟨rfl, rfl, by rcases hR with ⟨h1, _, _, _, h5⟩ | ⟨h1, h2, _⟩; (exact .inl ⟨h1, h5⟩); (exact .inr ⟨h1, by have h9 : Ts = [] := List.length_eq_zero_iff.1 (by omega); rw [h9] at h2; exact h2⟩)⟩⟩)
theorem look_out (w0 : World) (F : List Atom) (wd dp : Nat) (w1 : 1 ≤ wd) (w2 : wd ≤ 16) (d1 : 1 ≤ dp) (d2 : dp ≤ 8) (b g n c : Nat) (W : List Int) (hW : W.length = n) (hc : n ≤ c) (hn : n ≤ 1073741824) (hU : W32s W) (at_ : Int) (at_0 : -9223372036854775808 ≤ at_) (at_1 : at_ ≤ 9223372036854775807) (hi : ¬ inR n at_ ((3 + dp * (1 + wd) : Nat) : Int)) :
    CallK Try.prog 10 [.pointer (some ⟨b, 0, none⟩), .int .i64 at_, .int .i64 (wd : Int), .int .i64 (dp : Int)] w0 (Blk b (.cells [Value.slice (some ⟨g, 0, none⟩) n c].toArray 76 (0, 0)) :: Own 33 1 (.slice (some ⟨g, 0, none⟩) n c) n (ints .u32 W) :: F) (Gives w0 fun v F2 => v = .tuple #[.slice none 0 0, .bool false, .int .i64 51] ∧ F2 = Blk b (.cells [Value.slice (some ⟨g, 0, none⟩) n c].toArray 76 (0, 0)) :: Own 33 1 (.slice (some ⟨g, 0, none⟩) n c) n (ints .u32 W) :: F) := by
  refine c_enter Try.func10 rfl rfl rfl ?_
  refine g_seq ?_
  refine g_region ?_
  refine l_assign rfl rfl ?_
  refine l_assign rfl rfl ?_
  refine l_assign rfl rfl ?_
  refine l_nil ?_
  refine g_seq ?_
  refine g_region ?_
  refine l_move rfl rfl ?_
  refine l_move rfl rfl ?_
  refine l_move rfl rfl ?_
  refine l_move rfl rfl ?_
  refine l_call rfl Try.call30 rfl (ported_out _ _ wd dp w1 w2 d1 d2 b g n c W hW hc hn hU at_ at_0 at_1 hi) ?_; rintro _ _ ⟨rfl, rfl⟩
  refine l_move rfl rfl ?_
  refine l_extract rfl rfl rfl ?_
  refine l_extract rfl rfl rfl ?_
  refine l_extract rfl rfl rfl ?_
  refine l_allocs rfl Try.zeroValue61 ?_; intro b11
  refine l_allocs rfl Try.zeroValue64 ?_; intro b12
  refine l_sts Try.sizeOf61 rfl rfl rfl rfl rfl ?_
  refine l_sts Try.sizeOf64 rfl rfl rfl rfl rfl ?_
  refine l_assign rfl rfl ?_
  refine l_nil ?_
  refine g_seq ?_
  refine g_seq ?_
  refine g_region ?_
  refine l_move rfl rfl ?_
  refine l_neq rfl rfl rfl ?_
  refine l_move rfl rfl ?_
  refine l_split 25 rfl ?_ ?_
  · intro hbr
    have hbr := of_decide_eq_true hbr
    refine l_guard_no rfl rfl rfl ?_
    refine l_guard_no rfl rfl rfl ?_
    refine l_guard_no rfl rfl rfl ?_
    refine l_guard_no rfl rfl rfl ?_
    refine l_pick_t rfl rfl rfl ?_
    refine l_nil ?_
    first | refine g_cond_t rfl ?_ | refine g_cond_t (congrArg (fun b => some (Value.bool b)) (decide_eq_true hbr)) ?_
    refine g_seq ?_
    refine g_region ?_
    refine l_move rfl rfl ?_
    refine l_assign rfl rfl ?_
    refine l_assign rfl rfl ?_
    refine l_assign rfl rfl ?_
    refine l_nil ?_
    refine g_ret Try.func10 rfl (.tmp rfl (.tmp rfl (.tmp rfl .nil))) ?_
    exact Gives.mki ⟨rfl, rfl⟩
  · intro hbr
    have hbr := of_decide_eq_false hbr
    (exfalso; omega)
set_option maxHeartbeats 2000000 in
theorem takeq_in (w0 : World) (F : List Atom) (wd dp : Nat) (w1 : 1 ≤ wd) (w2 : wd ≤ 16) (d1 : 1 ≤ dp) (d2 : dp ≤ 8) (b g n c : Nat) (W : List Int) (hW : W.length = n) (hc : n ≤ c) (hn : n ≤ 1073741824) (hU : W32s W) (at_ : Int) (hi : inR n at_ ((3 + dp * (1 + wd) : Nat) : Int)) :
    CallK Try.prog 11 [.pointer (some ⟨b, 0, none⟩), .int .i64 at_, .int .i64 (wd : Int), .int .i64 (dp : Int)] w0 (Blk b (.cells [Value.slice (some ⟨g, 0, none⟩) n c].toArray 76 (0, 0)) :: Own 33 1 (.slice (some ⟨g, 0, none⟩) n c) n (ints .u32 W) :: F) (Gives w0 fun v F2 => ∃ ok e W2, v = .tuple #[.bool ok, .int .i64 e] ∧ W2.length = n ∧ F2 = Blk b (.cells [Value.slice (some ⟨g, 0, none⟩) n c].toArray 76 (0, 0)) :: Own 33 1 (.slice (some ⟨g, 0, none⟩) n c) n (ints .u32 W2) :: F ∧ TakQ W at_ wd dp ok e W2) := by
  have hpw := pw_bd w1 w2 d1 d2
  have hi2 := hi
  unfold inR at hi2
  refine c_enter Try.func11 rfl rfl rfl ?_
  refine g_seq ?_
  refine g_region ?_
  refine l_assign rfl rfl ?_
  refine l_assign rfl rfl ?_
  refine l_nil ?_
  refine g_seq ?_
  refine g_region ?_
  refine l_move rfl rfl ?_
  refine l_move rfl rfl ?_
  refine l_move rfl rfl ?_
  refine l_move rfl rfl ?_
  refine l_call rfl Try.call30 rfl (ported_in _ _ wd dp w1 w2 d1 d2 b g n c W hW hc hn hU at_ hi) ?_; rintro _ _ ⟨ao, co, ms, Ts, fi, ls, e, rfl, rfl, hMs, hao, hR⟩
  have hml := hMs.1
  refine l_move rfl rfl ?_
  refine l_extract rfl rfl rfl ?_
  refine l_extract rfl rfl rfl ?_
  refine l_extract rfl rfl rfl ?_
  refine l_allocs rfl Try.zeroValue61 ?_; intro b10
  refine l_allocs rfl Try.zeroValue64 ?_; intro b11
  refine l_sts Try.sizeOf61 rfl rfl rfl rfl rfl ?_
  refine l_sts Try.sizeOf64 rfl rfl rfl rfl rfl ?_
  refine l_assign rfl rfl ?_
  refine l_nil ?_
  refine g_seq ?_
  refine g_seq ?_
  refine g_region ?_
  refine l_move rfl rfl ?_
  refine l_neq rfl rfl rfl ?_
  refine l_move rfl rfl ?_
  refine l_split 24 rfl ?_ ?_
  · intro hbr
    have hbr := of_decide_eq_true hbr
    refine l_guard_no rfl rfl rfl ?_
    refine l_guard_no rfl rfl rfl ?_
    refine l_guard_no rfl rfl rfl ?_
    refine l_guard_no rfl rfl rfl ?_
    refine l_pick_t rfl rfl rfl ?_
    refine l_nil ?_
    first | refine g_cond_t rfl ?_ | refine g_cond_t (congrArg (fun b => some (Value.bool b)) (decide_eq_true hbr)) ?_
    refine g_seq ?_
    refine g_region ?_
    refine l_move rfl rfl ?_
    refine l_assign rfl rfl ?_
    refine l_assign rfl rfl ?_
    refine l_nil ?_
    refine g_ret Try.func11 rfl (.tmp rfl (.tmp rfl .nil)) ?_
    (first | exact Gives.mki ⟨true, 0, (spl at_.toNat (portL wd dp ((fn + 1) % dp) ls (Ts.drop 1) (ms.length - 1)) W), rfl, by rw [spl_length (by rw [portL_len (by omega) (fun j hj => by rw [tat_drop]; exact (hbd.2.2.2 (j + 1) (by omega)).2)]; omega)]; exact hW, rfl, .inr ⟨rfl, rfl, Ts, hR, by omega, by rw [hfn2, ← hls, hml]⟩⟩ | exact Gives.mki ⟨false, e, W, rfl, hW, rfl, .inl ⟨rfl, rfl, by rcases hR with ⟨h1, _, _, _, h5⟩ | ⟨h1, h2, _⟩; (exact .inl ⟨h1, h5⟩); (exact .inr ⟨h1, by have h9 : Ts = [] := List.length_eq_zero_iff.1 (by omega); rw [h9] at h2; exact h2⟩)⟩⟩)
  intro hbr
  have hbr := of_decide_eq_false hbr
  refine l_guard_yes rfl rfl ?_
  refine l_fieldAddr rfl fa_64_2 rfl ?_
  refine l_guard_yes rfl rfl ?_
  refine l_ld rfl Try.isAgg40 rfl rfl ?_
  refine l_guard_yes rfl rfl ?_
  refine l_len rfl Try.underlying40 rfl ?_
  refine l_guard_yes rfl rfl ?_
  refine l_eql rfl rfl rfl ?_
  refine l_pick_f rfl rfl rfl ?_
  refine l_nil ?_
  refine g_cond rfl ?_ ?_
  · intro hbr
    have hbr := of_decide_eq_true hbr
    refine g_seq ?_
    refine g_region ?_
    refine l_move rfl rfl ?_
    refine l_assign rfl rfl ?_
    refine l_assign rfl rfl ?_
    refine l_nil ?_
    refine g_ret Try.func11 rfl (.tmp rfl (.tmp rfl .nil)) ?_
    (first | exact Gives.mki ⟨true, 0, (spl at_.toNat (portL wd dp ((fn + 1) % dp) ls (Ts.drop 1) (ms.length - 1)) W), rfl, by rw [spl_length (by rw [portL_len (by omega) (fun j hj => by rw [tat_drop]; exact (hbd.2.2.2 (j + 1) (by omega)).2)]; omega)]; exact hW, rfl, .inr ⟨rfl, rfl, Ts, hR, by omega, by rw [hfn2, ← hls, hml]⟩⟩ | exact Gives.mki ⟨false, e, W, rfl, hW, rfl, .inl ⟨rfl, rfl, by rcases hR with ⟨h1, _, _, _, h5⟩ | ⟨h1, h2, _⟩; (exact .inl ⟨h1, h5⟩); (exact .inr ⟨h1, by have h9 : Ts = [] := List.length_eq_zero_iff.1 (by omega); rw [h9] at h2; exact h2⟩)⟩⟩)
  intro hbr
  have hbr := of_decide_eq_false hbr
  refine g_skip ?_
  refine g_seq ?_
  refine g_region ?_
  have hR0 : e = 0 ∧ PrtR W at_ wd dp Ts true ∧ fi = W.getD at_.toNat 0 ∧ ls = W.getD (at_.toNat + 2) 0 := by rcases hR with ⟨h, _⟩ | h; omega; exact h
  clear hR
  obtain ⟨rfl, hR, hfi, hls⟩ := hR0
  obtain ⟨gr, rfl⟩ := hao.resolve_left (by omega)
  have hbd := RowR.bd hR.row (by omega)
  have hl1 := hbd.1
  have hl2 := hbd.2.1
  have hl3 := hbd.2.2.1
  obtain ⟨fn, hfn⟩ := Int.eq_ofNat_of_zero_le (hU at_.toNat).1
  rw [hfn] at hfi
  have hfn2 : (W.getD at_.toNat 0).toNat = fn := by rw [hfn]; rfl
  rw [hfn2] at hl3
  subst hfi
  refine l_fact (own_cases (show Own 29 1 (.slice (some ⟨gr, 0, none⟩) ms.length co) ms.length (ms.map lvV) ∈ _ from (by first | exact mem_getO 0 rfl | exact mem_getO 1 rfl | exact mem_getO 2 rfl | exact mem_getO 3 rfl | exact mem_getO 4 rfl | exact mem_getO 5 rfl | exact mem_getO 6 rfl | exact mem_getO 7 rfl))) ?_; intro hown
  have hcap : ms.length ≤ co := by
    rcases hown.2.2 with ⟨h, _⟩ | ⟨g9, cp, h, h2⟩
    · cases h
    · cases h
      exact h2
  clear hown
  refine l_fieldAddr rfl fa_64_2 rfl ?_
  refine l_ld rfl Try.isAgg40 rfl rfl ?_
  refine l_slice_lo rfl Try.underlying40 Try.sizeOf29 rfl rfl (by omega) (by omega) (by omega) ?_; intro o33 ho33
  refine l_fieldAddr rfl fa_64_2 rfl ?_
  refine l_st Try.sizeOf40 rfl rfl rfl rfl ?_
  refine l_nil ?_
  refine g_seq ?_
  refine g_region ?_
  refine l_fieldAddr rfl fa_64_0 rfl ?_
  first | refine l_ld rfl Try.isAgg33 rfl rfl ?_ | refine l_ldw rfl Try.isAgg33 rfl (by omega) ?_
  refine l_add rfl rfl rfl (w_u32 (by omega) (by omega)) ?_
  refine l_move rfl rfl ?_
  refine l_conv rfl Try.underlying3 Try.underlying33 rfl (w_u32 (by omega) (by omega)) ?_
  have hmn : ((fn : Int) + 1) % (dp : Int) = (((fn + 1) % dp : Nat) : Int) := (mod_nat (first := fn) (dp := dp) (i := 1) (by omega) (by omega)).1
  have hmd := Nat.mod_lt (fn + 1) (show 0 < dp by omega)
  refine l_rem rfl rfl rfl (by omega) (by omega) (by rw [hmn]; exact w_u32 (by omega) (by omega)) ?_
  rw [hmn]
  refine l_fieldAddr rfl fa_64_0 rfl ?_
  first | refine l_st Try.sizeOf33 rfl rfl rfl rfl ?_ | refine l_stw Try.sizeOf33 rfl rfl (by omega) ?_
  refine l_nil ?_
  refine g_seq ?_
  refine g_region ?_
  refine l_lds rfl Try.isAgg61 Try.sizeOf61 rfl rfl ?_
  refine l_move rfl rfl ?_
  refine l_move rfl rfl ?_
  refine l_lds rfl Try.isAgg64 Try.sizeOf64 rfl rfl ?_
  refine l_fronto g ?_
  refine l_frontb b ?_
  refine l_call rfl Try.call29 rfl (layport_ok _ _ wd dp w1 w2 d1 d2 b g n c W hW hc hn at_ hi ((fn + 1) % dp) (Nat.mod_lt _ (by omega)) ls (some ⟨gr, o33, none⟩) (ms.length - 1) (co - 1) (ms.drop 1) (Ts.drop 1) (by rw [List.length_drop]) (by omega) (.inr ⟨gr, o33, rfl, by rw [List.map_drop]; exact lv_sub (RowAt.own (E := 29) (sz := 1) (n := ms.length) (cap := co) (by first | exact mem_getO 0 rfl | exact mem_getO 1 rfl | exact mem_getO 2 rfl | exact mem_getO 3 rfl | exact mem_getO 4 rfl | exact mem_getO 5 rfl)) ho33 (by rw [List.length_map]; omega)⟩) (ms_rd (by first | exact List.mem_cons_self .. | exact List.mem_cons_of_mem _ (List.mem_cons_self ..) | exact List.mem_cons_of_mem _ (List.mem_cons_of_mem _ (List.mem_cons_self ..)) | exact List.mem_cons_of_mem _ (List.mem_cons_of_mem _ (List.mem_cons_of_mem _ (List.mem_cons_self ..))) | exact List.mem_cons_of_mem _ (List.mem_cons_of_mem _ (List.mem_cons_of_mem _ (List.mem_cons_of_mem _ (List.mem_cons_self ..)))) | exact List.mem_cons_of_mem _ (List.mem_cons_of_mem _ (List.mem_cons_of_mem _ (List.mem_cons_of_mem _ (List.mem_cons_of_mem _ (List.mem_cons_self ..))))) | exact List.mem_cons_of_mem _ (List.mem_cons_of_mem _ (List.mem_cons_of_mem _ (List.mem_cons_of_mem _ (List.mem_cons_of_mem _ (List.mem_cons_of_mem _ (List.mem_cons_self ..)))))) | exact List.mem_cons_of_mem _ (List.mem_cons_of_mem _ (List.mem_cons_of_mem _ (List.mem_cons_of_mem _ (List.mem_cons_of_mem _ (List.mem_cons_of_mem _ (List.mem_cons_of_mem _ (List.mem_cons_self ..))))))) | exact List.mem_cons_of_mem _ (List.mem_cons_of_mem _ (List.mem_cons_of_mem _ (List.mem_cons_of_mem _ (List.mem_cons_of_mem _ (List.mem_cons_of_mem _ (List.mem_cons_of_mem _ (List.mem_cons_of_mem _ (List.mem_cons_self ..))))))))) hMs hbd.2.2.2).drop) ?_; rintro _ _ rfl
  refine l_nil ?_
  refine g_seq ?_
  refine g_region ?_
  refine l_assign rfl rfl ?_
  refine l_assign rfl rfl ?_
  refine l_nil ?_
  refine g_ret Try.func11 rfl (.tmp rfl (.tmp rfl .nil)) ?_
  (first | exact Gives.mki ⟨true, 0, (spl at_.toNat (portL wd dp ((fn + 1) % dp) ls (Ts.drop 1) (ms.length - 1)) W), rfl, by rw [spl_length (by rw [portL_len (by omega) (fun j hj => by rw [tat_drop]; exact (hbd.2.2.2 (j + 1) (by omega)).2)]; omega)]; exact hW, rfl, .inr ⟨rfl, rfl, Ts, hR, by omega, by rw [hfn2, ← hls, hml]⟩⟩ | exact Gives.mki ⟨false, e, W, rfl, hW, rfl, .inl ⟨rfl, rfl, by rcases hR with ⟨h1, _, _, _, h5⟩ | ⟨h1, h2, _⟩; (exact .inl ⟨h1, h5⟩); (exact .inr ⟨h1, by have h9 : Ts = [] := List.length_eq_zero_iff.1 (by omega); rw [h9] at h2; exact h2⟩)⟩⟩)
theorem takeq_out (w0 : World) (F : List Atom) (wd dp : Nat) (w1 : 1 ≤ wd) (w2 : wd ≤ 16) (d1 : 1 ≤ dp) (d2 : dp ≤ 8) (b g n c : Nat) (W : List Int) (hW : W.length = n) (hc : n ≤ c) (hn : n ≤ 1073741824) (hU : W32s W) (at_ : Int) (at_0 : -9223372036854775808 ≤ at_) (at_1 : at_ ≤ 9223372036854775807) (hi : ¬ inR n at_ ((3 + dp * (1 + wd) : Nat) : Int)) :
    CallK Try.prog 11 [.pointer (some ⟨b, 0, none⟩), .int .i64 at_, .int .i64 (wd : Int), .int .i64 (dp : Int)] w0 (Blk b (.cells [Value.slice (some ⟨g, 0, none⟩) n c].toArray 76 (0, 0)) :: Own 33 1 (.slice (some ⟨g, 0, none⟩) n c) n (ints .u32 W) :: F) (Gives w0 fun v F2 => v = .tuple #[.bool false, .int .i64 51] ∧ F2 = Blk b (.cells [Value.slice (some ⟨g, 0, none⟩) n c].toArray 76 (0, 0)) :: Own 33 1 (.slice (some ⟨g, 0, none⟩) n c) n (ints .u32 W) :: F) := by
  refine c_enter Try.func11 rfl rfl rfl ?_
  refine g_seq ?_
  refine g_region ?_
  refine l_assign rfl rfl ?_
  refine l_assign rfl rfl ?_
  refine l_nil ?_
  refine g_seq ?_
  refine g_region ?_
  refine l_move rfl rfl ?_
  refine l_move rfl rfl ?_
  refine l_move rfl rfl ?_
  refine l_move rfl rfl ?_
  refine l_call rfl Try.call30 rfl (ported_out _ _ wd dp w1 w2 d1 d2 b g n c W hW hc hn hU at_ at_0 at_1 hi) ?_; rintro _ _ ⟨rfl, rfl⟩
  refine l_move rfl rfl ?_
  refine l_extract rfl rfl rfl ?_
  refine l_extract rfl rfl rfl ?_
  refine l_extract rfl rfl rfl ?_
  refine l_allocs rfl Try.zeroValue61 ?_; intro b10
  refine l_allocs rfl Try.zeroValue64 ?_; intro b11
  refine l_sts Try.sizeOf61 rfl rfl rfl rfl rfl ?_
  refine l_sts Try.sizeOf64 rfl rfl rfl rfl rfl ?_
  refine l_assign rfl rfl ?_
  refine l_nil ?_
  refine g_seq ?_
  refine g_seq ?_
  refine g_region ?_
  refine l_move rfl rfl ?_
  refine l_neq rfl rfl rfl ?_
  refine l_move rfl rfl ?_
  refine l_split 24 rfl ?_ ?_
  · intro hbr
    have hbr := of_decide_eq_true hbr
    refine l_guard_no rfl rfl rfl ?_
    refine l_guard_no rfl rfl rfl ?_
    refine l_guard_no rfl rfl rfl ?_
    refine l_guard_no rfl rfl rfl ?_
    refine l_pick_t rfl rfl rfl ?_
    refine l_nil ?_
    first | refine g_cond_t rfl ?_ | refine g_cond_t (congrArg (fun b => some (Value.bool b)) (decide_eq_true hbr)) ?_
    refine g_seq ?_
    refine g_region ?_
    refine l_move rfl rfl ?_
    refine l_assign rfl rfl ?_
    refine l_assign rfl rfl ?_
    refine l_nil ?_
    refine g_ret Try.func11 rfl (.tmp rfl (.tmp rfl .nil)) ?_
    exact Gives.mki ⟨rfl, rfl⟩
  · intro hbr
    have hbr := of_decide_eq_false hbr
    (exfalso; omega)
end Go.Proofs.Ytecibldbnekgbaa.Fw
