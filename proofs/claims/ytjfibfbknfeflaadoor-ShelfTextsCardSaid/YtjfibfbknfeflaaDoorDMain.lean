import Derived.Test.YtjfibfbknfeflaaDoorDTell
import Derived.Test.YtjfibfbknfeflaaDoorDLaid
namespace Go.Proofs.YtjfibfbknfeflaaDoor.Fw
open Go Go.Proofs
set_option linter.unusedVariables false
set_option linter.unusedSimpArgs false
set_option maxRecDepth 10000
theorem fa_37_1 (a : Addr) (w : World) : (Instr.fieldAt 37 (.pointer (some a)) 1).run Tryd.prog w = .ok (.pointer (some (a.add 1))) w := by
  simp [Instr.fieldAt, Tryd.runUnderlying37, Instr.sureAddr, fieldPlace, Tryd.sizeOf3, Sem.run_bind, Sem.run_pure]
theorem bd_28_0_1 (a0_0 : Int) (a1_0 : Int) (w : World) : (Instr.build 28 #[(0, .int .i64 a0_0), (1, .int .i64 a1_0)]).run Tryd.prog w = .ok (.agg #[.int .i64 a0_0, .int .i64 a1_0]) w := by kernel_rfl
abbrev Op3 := Int × Int × ByteArray
def opV (o : Op3) : List Value := [.int .i64 o.1, .int .i64 o.2.1, .string o.2.2]
theorem op_len (L : List Op3) : ∀ r ∈ L.map opV, r.length = 3 := by
  intro r hr
  obtain ⟨o, _, rfl⟩ := List.mem_map.1 hr
  rfl
theorem op_row {w0 : World} {F0 F : List Atom} {b o : Nat} {L : List Op3} (h : RowAt w0 F0 b o (L.map opV).flatten) [e : Ext F0 F] {j : Nat} {kd key : Int} {txt : ByteArray} (hj : L[j]? = some (kd, key, txt)) : RowAt w0 F b (o + j * 3) [.int .i64 kd, .int .i64 key, .string txt] :=
  row_elem (rows := L.map opV) h.ex (op_len L) (by rw [List.getElem?_map, hj]; rfl)
set_option maxHeartbeats 8000000 in
theorem textsmain_ok (w0 : World) (F : List Atom) (room : Int) (q1 : 1 ≤ room) (q2 : room ≤ 4096) (qa : Option Addr) (qn qc : Nat) (Q : List Op3) (hQn : Q.length = qn) (hqn : qn ≤ 2147483647) (hQ : qn = 0 ∨ ∃ b o, qa = some ⟨b, o, none⟩ ∧ RowAt w0 F b o (Q.map opV).flatten) (hQk : ∀ o ∈ Q, I64 o.2.1) (hT : Tab w0 F) :
    CallK Tryd.prog 3 [.int .i64 room, .slice qa qn qc] w0 (F) (Gives w0 fun v F2 => v = .bool true ∧ F2 = F) := by
  refine c_enter Tryd.func3 rfl rfl rfl ?_
  refine g_seq ?_
  refine g_region ?_
  refine l_assign rfl rfl ?_
  refine l_nil ?_
  refine g_seq ?_
  refine g_seq ?_
  refine g_region ?_
  refine l_move rfl rfl ?_
  refine l_len rfl Tryd.underlying22 rfl ?_
  refine l_gtr rfl rfl rfl ?_
  refine l_nil ?_
  refine g_cond rfl ?_ ?_
  · intro hbr
    have hbr := of_decide_eq_true hbr
    (exfalso; first | omega | (simp at hbr; done))
  intro hbr
  have hbr := of_decide_eq_false hbr
  refine g_skip ?_
  refine g_seq ?_
  refine g_region ?_
  refine l_move rfl rfl ?_
  refine l_call rfl Tryd.call5 rfl (new_st _ _ room (by omega) (by omega)) ?_; rintro _ _ ⟨sb, m, rfl, rfl⟩
  refine l_move rfl rfl ?_
  refine l_extract rfl rfl rfl ?_
  refine l_extract rfl rfl rfl ?_
  refine l_assign rfl rfl ?_
  refine l_assign rfl rfl ?_
  refine l_nil ?_
  refine g_seq ?_
  refine g_region ?_
  refine l_move rfl rfl ?_
  refine l_call rfl Tryd.call6 rfl (new_pt _ _ room (by omega) (by omega)) ?_; rintro _ _ ⟨tb, tm, rfl, rfl⟩
  refine l_move rfl rfl ?_
  refine l_extract rfl rfl rfl ?_
  refine l_extract rfl rfl rfl ?_
  refine l_assign rfl rfl ?_
  refine l_assign rfl rfl ?_
  refine l_nil ?_
  refine g_seq ?_
  refine g_region ?_
  refine l_move rfl rfl ?_
  refine l_call rfl Tryd.call7 rfl (rnew_ok _ _ room (by omega) (by omega)) ?_; rintro _ _ ⟨rb, rfl, rfl⟩
  refine l_move rfl rfl ?_
  refine l_extract rfl rfl rfl ?_
  refine l_extract rfl rfl rfl ?_
  refine l_assign rfl rfl ?_
  refine l_assign rfl rfl ?_
  refine l_nil ?_
  refine g_seq ?_
  refine g_seq ?_
  refine g_region ?_
  refine l_move rfl rfl ?_
  refine l_move rfl rfl ?_
  refine l_neq rfl rfl rfl ?_
  refine l_move rfl rfl ?_
  refine l_split 36 rfl ?_ ?_
  · intro hbr
    have hbr := of_decide_eq_true hbr
    (exfalso; first | omega | (simp at hbr; done))
  intro hbr
  have hbr := of_decide_eq_false hbr
  refine l_guard_yes rfl rfl ?_
  refine l_move rfl rfl ?_
  refine l_guard_yes rfl rfl ?_
  refine l_move rfl rfl ?_
  refine l_guard_yes rfl rfl ?_
  refine l_neq rfl rfl rfl ?_
  refine l_pick_f rfl rfl rfl ?_
  refine l_move rfl rfl ?_
  refine l_split 41 rfl ?_ ?_
  · intro hbr
    have hbr := of_decide_eq_true hbr
    (exfalso; first | omega | (simp at hbr; done))
  intro hbr
  have hbr := of_decide_eq_false hbr
  refine l_guard_yes rfl rfl ?_
  refine l_move rfl rfl ?_
  refine l_guard_yes rfl rfl ?_
  refine l_eqpn rfl Tryd.underlying23 rfl rfl ?_
  refine l_guard_yes rfl rfl ?_
  refine l_move rfl rfl ?_
  refine l_guard_yes rfl rfl ?_
  refine l_eqpn rfl Tryd.underlying32 rfl rfl ?_
  refine l_guard_yes rfl rfl ?_
  refine l_neqb rfl Tryd.underlying4 rfl rfl ?_
  refine l_pick_f rfl rfl rfl ?_
  refine l_move rfl rfl ?_
  refine l_split 48 rfl ?_ ?_
  · intro hbr
    first | (exfalso; simp at hbr; done) | (exfalso; simp at hbr; omega) | (exfalso; first | omega | (simp at hbr; done))
  intro hbr
  have hb48 := hbr
  refine l_guard_yes rfl rfl ?_
  refine l_move rfl rfl ?_
  refine l_guard_yes rfl rfl ?_
  refine l_eqpn rfl Tryd.underlying29 rfl rfl ?_
  refine l_guard_yes rfl rfl ?_
  refine l_move rfl rfl ?_
  refine l_guard_yes rfl rfl ?_
  refine l_eqpn rfl Tryd.underlying32 rfl rfl ?_
  refine l_guard_yes rfl rfl ?_
  refine l_neqb rfl Tryd.underlying4 rfl rfl ?_
  refine l_pick_f rfl rfl rfl ?_
  refine l_nil ?_
  refine g_cond rfl ?_ ?_
  · intro hbr
    first | (exfalso; simp at hbr; done) | (exfalso; simp at hbr; omega) | (exfalso; first | omega | (simp at hbr; done))
  intro hbr
  have hb54 := hbr
  refine g_skip ?_
  refine g_seq ?_
  refine g_seq ?_
  refine g_region ?_
  refine l_move rfl rfl ?_
  refine l_eqpn rfl Tryd.underlying23 rfl rfl ?_
  refine l_move rfl rfl ?_
  refine l_guard_yes rfl rfl ?_
  refine l_move rfl rfl ?_
  refine l_guard_yes rfl rfl ?_
  refine l_eqpn rfl Tryd.underlying29 rfl rfl ?_
  refine l_pick_f rfl rfl rfl ?_
  refine l_nil ?_
  first | refine g_cond_f rfl ?_ | refine g_cond_f (congrArg (fun b => some (Value.bool b)) (decide_eq_false hbr)) ?_
  refine g_skip ?_
  refine g_seq ?_
  refine g_seq ?_
  refine g_region ?_
  refine l_assign rfl rfl ?_
  refine l_nil ?_
  refine g_block ?_
  refine g_loopk (X := Int × List NdS × List (ByteArray × Value) × List (ByteArray × ByteArray) × Option Addr × Option Addr × Nat × Nat × List NdQ × List ((Int × Int) × Value)) [(0, _), (1, _), (5, _), (7, _), (9, _)] (.cons rfl (.cons rfl (.cons rfl (.cons rfl (.cons rfl (.nil)))))) (fun z => (0 ≤ z.1 ∧ z.1 ≤ Q.length) ∧ BothS room z.2.2.1 z.2.1 z.2.2.2.1 z.2.2.2.2.1 z.2.2.2.2.2.1 ∧ HVS (pS z.2.1) ∧ ShOkQ z.2.2.2.2.2.2.2.2.2 z.2.2.2.2.2.2.2.2.1 ∧ (z.2.2.2.2.2.2.2.2.1.length : Int) ≤ room) (fun z => ((Q.length : Int) - z.1).toNat) (fun z => [(11, .int .i64 z.1)]) (fun z => Blk sb (.cells [Value.int .i64 room, .map (some m), .pointer (fstPS (z.2.1) none), .pointer (lstPS (z.2.1) none)].toArray 51 (0, 0)) :: SegS 96 none (z.2.1) none :: MapG Value.string m z.2.2.1 :: Blk rb (.cells [Value.int .i64 room, .slice z.2.2.2.2.1 z.2.2.2.1.length z.2.2.2.2.2.2.1, .slice z.2.2.2.2.2.1 z.2.2.2.1.length z.2.2.2.2.2.2.2.1].toArray 58 (0, 0)) :: Own 9 1 (.slice z.2.2.2.2.1 z.2.2.2.1.length z.2.2.2.2.2.2.1) z.2.2.2.1.length (strs (k1 z.2.2.2.1)) :: Own 9 1 (.slice z.2.2.2.2.2.1 z.2.2.2.1.length z.2.2.2.2.2.2.2.1) z.2.2.2.1.length (strs (k2 z.2.2.2.1)) :: Blk tb (.cells [Value.int .i64 room, .map (some tm), .pointer (fstPQ (z.2.2.2.2.2.2.2.2.1) none), .pointer (lstPQ (z.2.2.2.2.2.2.2.2.1) none)].toArray 55 (0, 0)) :: SegQ 102 none (z.2.2.2.2.2.2.2.2.1) none :: MapG kvP tm z.2.2.2.2.2.2.2.2.2 :: F) ((0, [], [], [], none, none, 0, 0, [], [])) (⟨⟨by simp only; omega, by simp only; omega⟩, BothS.nil q1, HVS.nil, ShOkQ.nil, by simp only [List.length_nil]; omega⟩) (.cons rfl .nil) (fun w hw => show Holds w0 (Blk sb (.cells [Value.int .i64 room, .map (some m), .pointer (fstPS ([]) none), .pointer (lstPS ([]) none)].toArray 51 (0, 0)) :: SegS 96 none ([]) none :: MapG Value.string m [] :: Blk rb (.cells [Value.int .i64 room, .slice none 0 0, .slice none 0 0].toArray 58 (0, 0)) :: Own 9 1 (.slice none 0 0) 0 [] :: Own 9 1 (.slice none 0 0) 0 [] :: Blk tb (.cells [Value.int .i64 room, .map (some tm), .pointer (fstPQ ([]) none), .pointer (lstPQ ([]) none)].toArray 55 (0, 0)) :: SegQ 102 none ([]) none :: MapG kvP tm [] :: F) w from SPI.holds (show Holds w0 (Blk rb (.cells [Value.int .i64 room, .slice none 0 0, .slice none 0 0].toArray 58 (0, 0)) :: Own 9 1 (.slice none 0 0) 0 [] :: Own 9 1 (.slice none 0 0) 0 [] :: Blk tb (.cells [Value.int .i64 room, .map (some tm), .pointer (fstPQ ([]) none), .pointer (lstPQ ([]) none)].toArray 55 (0, 0)) :: SegQ 102 none ([]) none :: MapG kvP tm [] :: Blk sb (.cells [Value.int .i64 room, .map (some m), .pointer (fstPS ([]) none), .pointer (lstPS ([]) none)].toArray 51 (0, 0)) :: SegS 96 none ([]) none :: MapG Value.string m [] :: F) w from hw)) ?_
  rintro ⟨i, xs, kv, L, ka, va, kc, vc, ys, lv⟩ ⟨⟨i0, i1⟩, hB, hK, hSQ, hlQ⟩ ih
  dsimp only [List.cons_append, List.nil_append] at ih ⊢
  simp only at i0 i1 hB hK hSQ hlQ
  have hB0 := hB
  obtain ⟨hS, hl, hL, hk, hv⟩ := hB0
  have hll := bothS_len hL
  refine g_seq ?_
  refine g_seq ?_
  refine g_region ?_
  refine l_move rfl rfl ?_
  refine l_move rfl rfl ?_
  refine l_len rfl Tryd.underlying22 rfl ?_
  refine l_lss rfl rfl rfl ?_
  refine l_nil ?_
  refine g_cond rfl ?_ ?_
  · intro hbr
    have hbr := of_decide_eq_true hbr
    refine g_skip ?_
    refine g_seq ?_
    refine g_block ?_
    refine g_seq ?_
    refine g_region ?_
    refine l_move rfl rfl ?_
    refine l_move rfl rfl ?_
    obtain ⟨bo, oo, rfl, hro⟩ := hQ.resolve_left (by omega)
    obtain ⟨⟨kd, key, txt⟩, hop⟩ := get_at (L := Q) (j := i.toNat) (by omega)
    have hkey : I64 key := hQk _ (List.mem_of_getElem? hop)
    have hii : I64 i := ⟨by omega, by omega⟩
    refine l_ixs rfl Tryd.underlying22 Tryd.sizeOf37 rfl rfl (by omega) (by omega) ?_
    refine l_loadr (l := [.int .i64 kd, .int .i64 key, .string txt]) rfl Tryd.isAgg37 Tryd.sizeOf37 rfl rfl (op_row hro hop) ?_
    refine l_allocs rfl Tryd.zeroValue37 ?_; intro b12
    refine l_sts Tryd.sizeOf37 rfl rfl rfl rfl rfl ?_
    refine l_nil ?_
    refine g_seq ?_
    refine g_region ?_
    refine l_move rfl rfl ?_
    refine l_fieldAddr rfl fa_37_1 rfl ?_
    first | refine l_ld rfl Tryd.isAgg3 rfl rfl ?_ | refine l_ldw rfl Tryd.isAgg3 rfl (by omega) ?_
    refine l_build rfl rfl (fun w => bd_28_0_1 _ _ w) ?_
    refine l_allocs rfl Tryd.zeroValue28 ?_; intro b13
    refine l_sts Tryd.sizeOf28 rfl rfl rfl rfl rfl ?_
    refine l_nil ?_
    refine g_seq ?_
    refine g_region ?_
    refine l_fieldAddr rfl fa_37_1 rfl ?_
    first | refine l_ld rfl Tryd.isAgg3 rfl rfl ?_ | refine l_ldw rfl Tryd.isAgg3 rfl (by omega) ?_
    refine l_fieldAddr rfl fa_37_2 rfl ?_
    refine l_ld rfl Tryd.isAgg9 rfl rfl ?_
    refine l_lens rfl Tryd.underlying9 rfl ?_
    refine l_build rfl rfl (fun w => bd_28_0_1 _ _ w) ?_
    refine l_allocs rfl Tryd.zeroValue28 ?_; intro b14
    refine l_sts Tryd.sizeOf28 rfl rfl rfl rfl rfl ?_
    refine l_nil ?_
    refine g_seq ?_
    refine g_seq ?_
    refine g_region ?_
    refine l_move rfl rfl ?_
    refine l_move rfl rfl ?_
    refine l_lds rfl Tryd.isAgg37 Tryd.sizeOf37 rfl rfl ?_
    refine l_lds rfl Tryd.isAgg28 Tryd.sizeOf28 rfl rfl ?_
    refine l_take (Own 9 1 (.slice va L.length vc) L.length (strs (k2 L))) ?_
    refine l_take (Own 9 1 (.slice ka L.length kc) L.length (strs (k1 L))) ?_
    refine l_take (Blk rb (.cells [Value.int .i64 room, .slice ka L.length kc, .slice va L.length vc].toArray 58 (0, 0))) ?_
    refine l_take (MapG Value.string m kv) ?_
    refine l_take (SegS 96 none (xs) none) ?_
    refine l_take (Blk sb (.cells [Value.int .i64 room, .map (some m), .pointer (fstPS (xs) none), .pointer (lstPS (xs) none)].toArray 51 (0, 0))) ?_
    refine l_call rfl Tryd.call9 rfl (texts_ok _ _ sb m rb room kv xs L ka va kc vc hB q2 hK hT.ex q1 kd key txt i key hii hkey) ?_; rintro _ _ ⟨y, lv2, L1, ka1, va1, kc1, vc1, rfl, hB1, hK1, rfl⟩
    refine l_not rfl rfl ?_
    refine l_move rfl rfl ?_
    refine l_guard_yes rfl rfl ?_
    refine l_move rfl rfl ?_
    refine l_guard_yes rfl rfl ?_
    refine l_lds rfl Tryd.isAgg37 Tryd.sizeOf37 rfl rfl ?_
    refine l_guard_yes rfl rfl ?_
    refine l_lds rfl Tryd.isAgg28 Tryd.sizeOf28 rfl rfl ?_
    refine l_guard_yes rfl rfl ?_
    refine l_take (MapG kvP tm lv) ?_
    refine l_take (SegQ 102 none (ys) none) ?_
    refine l_take (Blk tb (.cells [Value.int .i64 room, .map (some tm), .pointer (fstPQ (ys) none), .pointer (lstPQ (ys) none)].toArray 55 (0, 0))) ?_
    refine l_call rfl Tryd.call10 rfl (pairs_ok _ _ tb tm room lv ys hSQ hlQ q1 kd key txt key _) ?_; rintro _ _ ⟨y2, lv3, rfl, hS2, hl2, rfl⟩
    refine l_guard_yes rfl rfl ?_
    refine l_not rfl rfl ?_
    refine l_pick_f rfl rfl rfl ?_
    refine l_nil ?_
    first | refine g_cond_f rfl ?_ | refine g_cond_f (congrArg (fun b => some (Value.bool b)) (decide_eq_false hbr)) ?_
    refine g_skip ?_
    refine g_seq ?_
    refine g_region ?_
    refine l_move rfl rfl ?_
    refine l_take (MapG kvP tm lv3) ?_
    refine l_take (SegQ 102 none (y2) none) ?_
    refine l_take (Blk tb (.cells [Value.int .i64 room, .map (some tm), .pointer (fstPQ (y2) none), .pointer (lstPQ (y2) none)].toArray 55 (0, 0))) ?_
    refine l_call rfl Tryd.call11 rfl (len_pt _ _ tb tm room lv3 y2 hS2) ?_; rintro _ _ ⟨rfl, rfl⟩
    refine l_move rfl rfl ?_
    refine l_gtr rfl rfl rfl ?_
    refine l_nil ?_
    refine g_cond rfl ?_ ?_
    · intro hbr
      have hbr := of_decide_eq_true hbr
      (exfalso; first | omega | (simp at hbr; done))
    intro hbr
    have hbr := of_decide_eq_false hbr
    refine g_skip ?_
    refine g_inBlock ?_
    refine g_region ?_
    refine l_move rfl rfl ?_
    first | refine l_add rfl rfl rfl (w_i64 (by omega) (by omega)) ?_ | refine l_addw rfl rfl rfl ?_
    refine l_assign rfl rfl ?_
    refine l_nil ?_
    exact g_againi (ih (i + 1, y, lv2, L1, ka1, va1, kc1, vc1, y2, lv3) ⟨⟨by simp only; omega, by simp only; omega⟩, hB1, hK1, hS2, hl2⟩ (by simp only; omega)) (.cons rfl (.cons rfl (.cons rfl (.cons rfl (.cons rfl (.cons rfl (.nil)))))))
  intro hbr
  have hbr := of_decide_eq_false hbr
  refine g_exit rfl ?_
  refine g_seq ?_
  refine g_region ?_
  refine l_move rfl rfl ?_
  refine l_take (MapG Value.string m kv) ?_
  refine l_take (SegS 96 none (xs) none) ?_
  refine l_take (Blk sb (.cells [Value.int .i64 room, .map (some m), .pointer (fstPS (xs) none), .pointer (lstPS (xs) none)].toArray 51 (0, 0))) ?_
  refine l_call rfl Tryd.call12 rfl (len_st _ _ sb m room kv xs hS) ?_; rintro _ _ ⟨rfl, rfl⟩
  refine l_move rfl rfl ?_
  refine l_take (Own 9 1 (.slice va L.length vc) L.length (strs (k2 L))) ?_
  refine l_take (Own 9 1 (.slice ka L.length kc) L.length (strs (k1 L))) ?_
  refine l_take (Blk rb (.cells [Value.int .i64 room, .slice ka L.length kc, .slice va L.length vc].toArray 58 (0, 0))) ?_
  refine l_call rfl Tryd.call13 rfl (rlen_ok _ _ rb room L ka va kc vc hk hv (by omega)) ?_; rintro _ _ ⟨rfl, rfl⟩
  refine l_eql rfl rfl rfl ?_
  refine l_assign rfl rfl ?_
  refine l_nil ?_
  refine g_ret Tryd.func3 rfl (.tmp rfl .nil) ?_
  exact Gives.mki ⟨congrArg Value.bool (decide_eq_true (by omega)), rfl⟩
theorem textsmain_bad (w0 : World) (F : List Atom) (room : Int) (qa : Option Addr) (qn qc : Nat) (hr : ¬ (1 ≤ room ∧ room ≤ 4096) ∨ 2147483647 < qn) :
    CallK Tryd.prog 3 [.int .i64 room, .slice qa qn qc] w0 (F) (Gives w0 fun v F2 => v = .bool true ∧ F2 = F) := by
  refine c_enter Tryd.func3 rfl rfl rfl ?_
  refine g_seq ?_
  refine g_region ?_
  refine l_assign rfl rfl ?_
  refine l_nil ?_
  refine g_seq ?_
  refine g_seq ?_
  refine g_region ?_
  refine l_move rfl rfl ?_
  refine l_len rfl Tryd.underlying22 rfl ?_
  refine l_gtr rfl rfl rfl ?_
  refine l_nil ?_
  refine g_cond rfl ?_ ?_
  · intro hbr
    have hbr := of_decide_eq_true hbr
    refine g_seq ?_
    refine g_region ?_
    refine l_assign rfl rfl ?_
    refine l_nil ?_
    refine g_ret Tryd.func3 rfl (.tmp rfl .nil) ?_
    exact Gives.mki ⟨rfl, rfl⟩
  intro hbr
  have hbr := of_decide_eq_false hbr
  refine g_skip ?_
  refine g_seq ?_
  refine g_region ?_
  refine l_move rfl rfl ?_
  refine l_call rfl Tryd.call5 rfl (newbad_st _ _ room (by omega)) ?_; rintro _ F9 ⟨rfl, hF9⟩; rw [hF9]; clear hF9 F9
  refine l_move rfl rfl ?_
  refine l_extract rfl rfl rfl ?_
  refine l_extract rfl rfl rfl ?_
  refine l_assign rfl rfl ?_
  refine l_assign rfl rfl ?_
  refine l_nil ?_
  refine g_seq ?_
  refine g_region ?_
  refine l_move rfl rfl ?_
  refine l_call rfl Tryd.call6 rfl (newbad_pt _ _ room (by omega)) ?_; rintro _ F9 ⟨rfl, hF9⟩; rw [hF9]; clear hF9 F9
  refine l_move rfl rfl ?_
  refine l_extract rfl rfl rfl ?_
  refine l_extract rfl rfl rfl ?_
  refine l_assign rfl rfl ?_
  refine l_assign rfl rfl ?_
  refine l_nil ?_
  refine g_seq ?_
  refine g_region ?_
  refine l_move rfl rfl ?_
  refine l_call rfl Tryd.call7 rfl (rnew_bad _ _ room (by omega)) ?_; rintro _ F9 ⟨rfl, hF9⟩; rw [hF9]; clear hF9 F9
  refine l_move rfl rfl ?_
  refine l_extract rfl rfl rfl ?_
  refine l_extract rfl rfl rfl ?_
  refine l_assign rfl rfl ?_
  refine l_assign rfl rfl ?_
  refine l_nil ?_
  refine g_seq ?_
  refine g_seq ?_
  refine g_region ?_
  refine l_move rfl rfl ?_
  refine l_move rfl rfl ?_
  refine l_neq rfl rfl rfl ?_
  refine l_move rfl rfl ?_
  refine l_split 36 rfl ?_ ?_
  · intro hbr
    have hbr := of_decide_eq_true hbr
    (exfalso; first | omega | (simp at hbr; done))
  intro hbr
  have hbr := of_decide_eq_false hbr
  refine l_guard_yes rfl rfl ?_
  refine l_move rfl rfl ?_
  refine l_guard_yes rfl rfl ?_
  refine l_move rfl rfl ?_
  refine l_guard_yes rfl rfl ?_
  refine l_neq rfl rfl rfl ?_
  refine l_pick_f rfl rfl rfl ?_
  refine l_move rfl rfl ?_
  refine l_split 41 rfl ?_ ?_
  · intro hbr
    have hbr := of_decide_eq_true hbr
    (exfalso; first | omega | (simp at hbr; done))
  intro hbr
  have hbr := of_decide_eq_false hbr
  refine l_guard_yes rfl rfl ?_
  refine l_move rfl rfl ?_
  refine l_guard_yes rfl rfl ?_
  refine l_eqpn rfl Tryd.underlying23 rfl rfl ?_
  refine l_guard_yes rfl rfl ?_
  refine l_move rfl rfl ?_
  refine l_guard_yes rfl rfl ?_
  refine l_eqpn rfl Tryd.underlying32 rfl rfl ?_
  refine l_guard_yes rfl rfl ?_
  refine l_neqb rfl Tryd.underlying4 rfl rfl ?_
  refine l_pick_f rfl rfl rfl ?_
  refine l_move rfl rfl ?_
  refine l_split 48 rfl ?_ ?_
  · intro hbr
    first | (exfalso; simp at hbr; done) | (exfalso; simp at hbr; omega) | (exfalso; first | omega | (simp at hbr; done))
  intro hbr
  have hb48 := hbr
  refine l_guard_yes rfl rfl ?_
  refine l_move rfl rfl ?_
  refine l_guard_yes rfl rfl ?_
  refine l_eqpn rfl Tryd.underlying29 rfl rfl ?_
  refine l_guard_yes rfl rfl ?_
  refine l_move rfl rfl ?_
  refine l_guard_yes rfl rfl ?_
  refine l_eqpn rfl Tryd.underlying32 rfl rfl ?_
  refine l_guard_yes rfl rfl ?_
  refine l_neqb rfl Tryd.underlying4 rfl rfl ?_
  refine l_pick_f rfl rfl rfl ?_
  refine l_nil ?_
  refine g_cond rfl ?_ ?_
  · intro hbr
    first | (exfalso; simp at hbr; done) | (exfalso; simp at hbr; omega) | (exfalso; first | omega | (simp at hbr; done))
  intro hbr
  have hb54 := hbr
  refine g_skip ?_
  refine g_seq ?_
  refine g_seq ?_
  refine g_region ?_
  refine l_move rfl rfl ?_
  refine l_eqpn rfl Tryd.underlying23 rfl rfl ?_
  refine l_move rfl rfl ?_
  refine l_guard_no rfl rfl rfl ?_
  refine l_guard_no rfl rfl rfl ?_
  refine l_pick_t rfl rfl rfl ?_
  refine l_nil ?_
  first | refine g_cond_t rfl ?_ | refine g_cond_t (congrArg (fun b => some (Value.bool b)) (decide_eq_true hbr)) ?_
  refine g_seq ?_
  refine g_region ?_
  refine l_call rfl Tryd.call8 rfl (awake_ok _ _) ?_; rintro _ F9 ⟨rfl, hF9⟩; rw [hF9]; clear hF9 F9
  refine l_assign rfl rfl ?_
  refine l_nil ?_
  refine g_ret Tryd.func3 rfl (.tmp rfl .nil) ?_
  exact Gives.mki ⟨rfl, rfl⟩
theorem vis_s37 {w : World} {r : List Value} (h : Vis Tryd.prog w 37 r) : ∃ (x0 : Int) (x1 : Int) (x2 : ByteArray), r = [.int .i64 x0, .int .i64 x1, .string x2] ∧ (Lit.int .i64 x0).wf = true ∧ (Lit.int .i64 x1).wf = true ∧ x2.size ≤ maxLen := by
  obtain ⟨hl, hf⟩ := vis_struct Tryd.underlying37 h
  have hc : Tryd.prog.cellsOf 37 = 3 := by kernel_rfl
  have cc3 : Tryd.prog.cellsOf 3 = 1 := by kernel_rfl
  have cc9 : Tryd.prog.cellsOf 9 = 1 := by kernel_rfl
  match r, hl.trans hc with
  | [z0, z1, z2], _ =>
    obtain ⟨x0, e0, w0⟩ := vis_int Tryd.underlying3 (hf 0 _ rfl)
    obtain ⟨x1, e1, w1⟩ := vis_int Tryd.underlying3 (hf 1 _ rfl)
    obtain ⟨x2, e2, w2⟩ := vis_string Tryd.underlying9 (hf 2 _ rfl)
    simp [cc3, cc9] at e0 e1 e2
    subst e0 e1 e2
    exact ⟨x0, x1, x2, rfl, w0, w1, w2⟩
theorem textsmain_all (W : World) (hL : laidMetH Tryd.prog laid1 W) (room : Int) (qa : Option Addr) (qn qc : Nat) (rows : List (List Value)) (hl : rows.length = qn) (hr : ∀ r ∈ rows, Viz Tryd.prog W 37 r) (hx : (qn = 0 ∧ (qa = none → qc = 0)) ∨ ∃ b o, qa = some ⟨b, o, none⟩ ∧ ∀ (j : Nat) u, rows.flatten[j]? = some u → W.cell? ⟨b, o + j, none⟩ = some u) : CallK Tryd.prog 3 [.int .i64 room, .slice qa qn qc] W [Old W] (Gives W fun v F2 => v = .bool true ∧ F2 = [Old W]) := by
  obtain ⟨Q, hQ, hok⟩ := rows_choose (f := opV) (R := fun o : Op3 => I64 o.2.1) (rows := rows) (fun r h => by
    obtain ⟨e0, e1, e2, he, w0_, w1_, w2_⟩ := vis_s37 (hr r h).vis
    exact ⟨(e0, e1, e2), he, wf_i64 w1_⟩)
  subst hQ
  by_cases h : (1 ≤ room ∧ room ≤ 4096) ∧ qn ≤ 2147483647
  · refine textsmain_ok W [Old W] room h.1.1 h.1.2 qa qn qc Q (by simpa using hl) h.2 ?_ hok (tab_old hL)
    rcases hx with ⟨h, _⟩ | ⟨b, o, h, hr⟩
    · exact .inl h
    · exact .inr ⟨b, o, h, RowAt.old (by simp) hr⟩
  · exact textsmain_bad W [Old W] room qa qn qc (by omega)
end Go.Proofs.YtjfibfbknfeflaaDoor.Fw
