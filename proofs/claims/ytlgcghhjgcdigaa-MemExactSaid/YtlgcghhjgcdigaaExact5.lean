import Derived.Test.YtlgcghhjgcdigaaBegun
import Derived.Test.YtlgcghhjgcdigaaIter5
import Derived.Test.YtlgcghhjgcdigaaNobo
import Derived.Test.YtlgcghhjgcdigaaSettl
namespace Go.Proofs.Ytlgcghhjgcdigaa.Fw
open Go Go.Proofs
set_option linter.unusedVariables false
set_option linter.unusedSimpArgs false
set_option maxRecDepth 10000
theorem bd_65_0_1 (a0_0 : Int) (a1_0 : Int) (w : World) : (Instr.build 65 #[(0, .int .i64 a0_0), (1, .int .i64 a1_0)]).run Try.prog w = .ok (.agg #[.int .i64 a0_0, .int .i64 a1_0, .int .i64 0, .int .i64 0, .int .i64 0, .int .i64 0, .int .u32 0, .slice none 0 0]) w := by kernel_rfl
theorem vis_s65 {w : World} {r : List Value} (h : Vis Try.prog w 65 r) : ∃ (x0 : Int) (x1 : Int) (x2 : Int) (x3 : Int) (x4 : Int) (x5 : Int) (x6 : Int) (x7 : Option Addr) (n7 c7 : Nat) (X7 : List Int), r = [.int .i64 x0, .int .i64 x1, .int .i64 x2, .int .i64 x3, .int .i64 x4, .int .i64 x5, .int .u32 x6, .slice x7 n7 c7] ∧ (Lit.int .i64 x0).wf = true ∧ (Lit.int .i64 x1).wf = true ∧ (Lit.int .i64 x2).wf = true ∧ (Lit.int .i64 x3).wf = true ∧ (Lit.int .i64 x4).wf = true ∧ (Lit.int .i64 x5).wf = true ∧ (Lit.int .u32 x6).wf = true ∧ (n7 ≤ c7 ∧ c7 ≤ maxLen ∧ X7.length = n7 ∧ (∀ x ∈ X7, (Lit.int .u32 x).wf = true) ∧ ((n7 = 0 ∧ (x7 = none → c7 = 0)) ∨ ∃ b o, x7 = some ⟨b, o, none⟩ ∧ ∀ (j : Nat) u, (ints .u32 X7)[j]? = some u → w.cell? ⟨b, o + j, none⟩ = some u)) := by
  obtain ⟨hl, hf⟩ := vis_struct Try.underlying65 h
  have hc : Try.prog.cellsOf 65 = 8 := by kernel_rfl
  have cc23 : Try.prog.cellsOf 23 = 1 := by kernel_rfl
  have cc3 : Try.prog.cellsOf 3 = 1 := by kernel_rfl
  have cc30 : Try.prog.cellsOf 30 = 1 := by kernel_rfl
  match r, hl.trans hc with
  | [z0, z1, z2, z3, z4, z5, z6, z7], _ =>
    obtain ⟨x0, e0, w0⟩ := vis_int Try.underlying3 (hf 0 _ rfl)
    obtain ⟨x1, e1, w1⟩ := vis_int Try.underlying3 (hf 1 _ rfl)
    obtain ⟨x2, e2, w2⟩ := vis_int Try.underlying3 (hf 2 _ rfl)
    obtain ⟨x3, e3, w3⟩ := vis_int Try.underlying3 (hf 3 _ rfl)
    obtain ⟨x4, e4, w4⟩ := vis_int Try.underlying3 (hf 4 _ rfl)
    obtain ⟨x5, e5, w5⟩ := vis_int Try.underlying3 (hf 5 _ rfl)
    obtain ⟨x6, e6, w6⟩ := vis_int Try.underlying30 (hf 6 _ rfl)
    obtain ⟨x7, n7, c7, X7, e7, w7⟩ := vis_ints Try.underlying23 Try.underlying30 (by kernel_rfl) (hf 7 _ rfl)
    simp [cc23, cc3, cc30] at e0 e1 e2 e3 e4 e5 e6 e7
    subst e0 e1 e2 e3 e4 e5 e6 e7
    exact ⟨x0, x1, x2, x3, x4, x5, x6, x7, n7, c7, X7, rfl, w0, w1, w2, w3, w4, w5, w6, w7⟩
structure OpR where
  kd : Int
  who : Int
  oth : Int
  oa : Int
  ob : Int
  oc : Int
  ox : Int
  sa : Option Addr
  sn : Nat
  sc : Nat
  Y : List Int
def opRow (r : OpR) : List Value := [.int .i64 r.kd, .int .i64 r.who, .int .i64 r.oth, .int .i64 r.oa, .int .i64 r.ob, .int .i64 r.oc, .int .u32 r.ox, .slice r.sa r.sn r.sc]
structure OpOk (w0 : World) (F : List Atom) (r : OpR) : Prop where
  kd : -9223372036854775808 ≤ r.kd ∧ r.kd ≤ 9223372036854775807
  who : -9223372036854775808 ≤ r.who ∧ r.who ≤ 9223372036854775807
  oth : -9223372036854775808 ≤ r.oth ∧ r.oth ≤ 9223372036854775807
  oa : -9223372036854775808 ≤ r.oa ∧ r.oa ≤ 9223372036854775807
  ob : -9223372036854775808 ≤ r.ob ∧ r.ob ≤ 9223372036854775807
  oc : -9223372036854775808 ≤ r.oc ∧ r.oc ≤ 9223372036854775807
  ox : 0 ≤ r.ox ∧ r.ox ≤ 4294967295
  l : r.Y.length = r.sn
  y : IR w0 F .u32 r.sa r.sn r.Y
  u : W32s r.Y
  n : r.sn ≤ 9223372036854775807
theorem op_at {w0 : World} {F : List Atom} {L : List OpR} (h : ∀ r ∈ L, OpOk w0 F r) {i : Nat} (hi : i < L.length) : ∃ r, (L.map opRow)[i]? = some (opRow r) ∧ OpOk w0 F r :=
  ⟨L[i], by simp [hi], h _ (List.getElem_mem _)⟩
theorem op_len (L : List OpR) : ∀ r ∈ L.map opRow, r.length = 8 := by
  intro r hr
  obtain ⟨o, _, rfl⟩ := List.mem_map.1 hr
  rfl
theorem vis_op {w : World} {r : List Value} (h : Vis Try.prog w 65 r) : ∃ o, r = opRow o ∧ OpOk w [Old w] o := by
  obtain ⟨a, b, c, d, e, f, g, sa, sn, sc, Y, rfl, w0, w1, w2, w3, w4, w5, w6, hc, hm, hl, hwf, hr⟩ := vis_s65 h
  simp only [maxLen] at hm
  refine ⟨⟨a, b, c, d, e, f, g, sa, sn, sc, Y⟩, rfl, wf_i64 w0, wf_i64 w1, wf_i64 w2, wf_i64 w3, wf_i64 w4, wf_i64 w5, wf_u32 w6, hl, ⟨hl, ?_⟩, W32s.of fun x hx => wf_u32 (hwf x hx), by simp only; omega⟩
  rcases hr with ⟨h, _⟩ | ⟨b, o, rfl, hr⟩
  · exact .inl h
  · exact .inr ⟨b, o, rfl, RowAt.old (by simp) hr⟩
set_option maxHeartbeats 16000000 in
theorem exact_ok (w0 : World) (F : List Atom) (qa : Option Addr) (qn qc : Nat) (Q : List OpR) (hQn : Q.length = qn) (hqn : qn ≤ 9223372036854775807) (hQ : qn = 0 ∨ ∃ b o, qa = some ⟨b, o, none⟩ ∧ RowAt w0 F b o (Q.map opRow).flatten) (hQo : ∀ r ∈ Q, OpOk w0 F r) :
    CallK Try.prog 7 [.slice qa qn qc] w0 (F) (Gives w0 fun v F2 => v = .bool true ∧ F2 = F) := by
  refine c_enter Try.func7 rfl rfl rfl ?_
  refine g_seq ?_
  refine g_region ?_
  refine l_assign rfl rfl ?_
  refine l_nil ?_
  refine g_seq ?_
  refine g_region ?_
  refine l_call rfl Try.call22 rfl (begun_ok _ _) ?_; rintro _ _ ⟨wb, S, rfl, hS, hN1, hJ, hK, rfl⟩
  refine l_move rfl rfl ?_
  refine l_extract rfl rfl rfl ?_
  refine l_extract rfl rfl rfl ?_
  refine l_assign rfl rfl ?_
  refine l_assign rfl rfl ?_
  refine l_nil ?_
  refine g_seq ?_
  refine g_seq ?_
  refine g_region ?_
  refine l_move rfl rfl ?_
  refine l_not rfl rfl ?_
  refine l_nil ?_
  refine g_cond rfl ?_ ?_
  · intro hbr
    first | (exfalso; simp at hbr; done) | (exfalso; simp at hbr; omega) | (exfalso; first | omega | (simp at hbr; done))
  intro hbr
  have hb13 := hbr
  refine g_skip ?_
  refine g_seq ?_
  refine g_seq ?_
  refine g_region ?_
  refine l_assign rfl rfl ?_
  refine l_nil ?_
  refine g_block ?_
  refine g_loopk (X := Int × WS) [(0, _), (3, _)] (.cons rfl (.cons rfl (.nil))) (fun z => (0 ≤ z.1 ∧ z.1 ≤ Q.length ∧ z.1 ≤ 2147483647) ∧ SOk z.2 ∧ 1 ≤ z.2.N ∧ (z.2.J : Int) ≤ 2 + z.1 ∧ (z.2.K : Int) ≤ 8 + 2 * z.1) (fun z => ((Q.length : Int) - z.1).toNat) (fun z => [(4, .bool true), (5, .int .i64 z.1)]) (fun z => Blk wb (.cells [Value.slice z.2.la z.2.N z.2.lc, .slice z.2.ia z.2.J z.2.ic, .slice z.2.ka z.2.K z.2.kc].toArray 74 (0, 0)) :: Own 94 2 (.slice z.2.la z.2.N z.2.lc) z.2.N (rowsN z.2.N (fun j => mpR (z.2.M j))) :: BigF z.2.N (fun j => mpA (z.2.M j)) :: Own 102 3 (.slice z.2.ia z.2.J z.2.ic) z.2.J (rowsN z.2.J (fun j => kiR (z.2.T j))) :: BigF z.2.J (fun j => kiA (z.2.T j)) :: Own 107 4 (.slice z.2.ka z.2.K z.2.kc) z.2.K (rowsN z.2.K (fun j => bkR (z.2.B j))) :: BigF z.2.K (fun j => bkA (z.2.B j)) :: F) ((0, S)) (⟨⟨by simp only; omega, by simp only; omega, by simp only; omega⟩, hS, hN1, by simp only; omega, by simp only; omega⟩) (.cons rfl (.cons rfl .nil)) (fun w hw => SPI.holds hw) ?_
  rintro ⟨i, S⟩ ⟨⟨i0, i1, i2⟩, hS, hN1, hJ, hK⟩ ih
  dsimp only [List.cons_append, List.nil_append] at ih ⊢
  simp only at i0 i1 i2 hS hN1 hJ hK
  refine g_seq ?_
  refine g_seq ?_
  refine g_region ?_
  refine l_move rfl rfl ?_
  refine l_move rfl rfl ?_
  refine l_len rfl Try.underlying60 rfl ?_
  refine l_lss rfl rfl rfl ?_
  refine l_nil ?_
  refine g_cond rfl ?_ ?_
  · intro hbr
    have hbr := of_decide_eq_true hbr
    refine g_skip ?_
    refine g_seq ?_
    refine g_block ?_
    refine g_seq ?_
    refine g_region ?_
    refine l_move rfl rfl ?_
    refine l_move rfl rfl ?_
    obtain ⟨bo, oo, rfl, hro⟩ := hQ.resolve_left (by omega)
    obtain ⟨⟨kd, who, oth, oa, ob, oc, ox, sa, sn, sc, Y⟩, hop, hkd, hwho, hoth, hoa, hob, hoc, hox, hl, hR, hYU, hsn⟩ := op_at hQo (i := i.toNat) (by omega)
    simp only at hkd hwho hoth hoa hob hoc hox hl hR hYU hsn
    refine l_ixs rfl Try.underlying60 Try.sizeOf65 rfl rfl (by omega) (by omega) ?_
    refine l_loadr (l := [.int .i64 kd, .int .i64 who, .int .i64 oth, .int .i64 oa, .int .i64 ob, .int .i64 oc, .int .u32 ox, .slice sa sn sc]) rfl Try.isAgg65 Try.sizeOf65 rfl rfl (row_elem hro.ex (op_len Q) hop) ?_
    refine l_allocs rfl Try.zeroValue65 ?_; intro b6
    refine l_sts Try.sizeOf65 rfl rfl rfl rfl rfl ?_
    refine l_nil ?_
    refine g_seq ?_
    refine g_seq ?_
    refine g_region ?_
    refine l_move rfl rfl ?_
    refine l_geq rfl rfl rfl ?_
    refine l_move rfl rfl ?_
    refine l_split 26 rfl ?_ ?_
    · intro hbr
      have hbr := of_decide_eq_true hbr
      refine l_guard_no rfl rfl rfl ?_
      refine l_guard_no rfl rfl rfl ?_
      refine l_guard_no rfl rfl rfl ?_
      refine l_guard_no rfl rfl rfl ?_
      refine l_pick_t rfl rfl rfl ?_
      refine l_nil ?_
      first | refine g_cond_t rfl ?_ | refine g_cond_t (congrArg (fun b => some (Value.bool b)) (decide_eq_true hbr)) ?_
      refine g_seq ?_
      refine g_region ?_
      refine l_assign rfl rfl ?_
      refine l_nil ?_
      refine g_ret Try.func7 rfl (.tmp rfl .nil) ?_
      exact Gives.mki ⟨rfl, rfl⟩
    intro hbr
    have hbr := of_decide_eq_false hbr
    refine l_guard_yes rfl rfl ?_
    refine l_fieldAddr rfl fa_65_7 rfl ?_
    refine l_guard_yes rfl rfl ?_
    refine l_ld rfl Try.isAgg23 rfl rfl ?_
    refine l_guard_yes rfl rfl ?_
    refine l_len rfl Try.underlying23 rfl ?_
    refine l_guard_yes rfl rfl ?_
    refine l_gtr rfl rfl rfl ?_
    refine l_pick_f rfl rfl rfl ?_
    refine l_nil ?_
    refine g_cond rfl ?_ ?_
    · intro hbr
      have hbr := of_decide_eq_true hbr
      refine g_seq ?_
      refine g_region ?_
      refine l_assign rfl rfl ?_
      refine l_nil ?_
      refine g_ret Try.func7 rfl (.tmp rfl .nil) ?_
      exact Gives.mki ⟨rfl, rfl⟩
    intro hbr
    have hbr := of_decide_eq_false hbr
    refine g_skip ?_
    refine g_seq ?_
    refine g_seq ?_
    refine g_region ?_
    refine l_fieldAddr rfl fa_65_0 rfl ?_
    first | refine l_ld rfl Try.isAgg3 rfl rfl ?_ | refine l_ldw rfl Try.isAgg3 rfl (by omega) ?_
    refine l_nil ?_
    refine g_block ?_
    refine g_seq ?_
    refine g_seq ?_
    refine g_region ?_
    refine l_eql rfl rfl rfl ?_
    refine l_assign rfl rfl ?_
    refine l_nil ?_
    refine g_cond rfl ?_ ?_
    · intro hbr
      have hbr := of_decide_eq_true hbr
      refine g_skip ?_
      first | refine g_cond_t rfl ?_ | refine g_cond_t (congrArg (fun b => some (Value.bool b)) (decide_eq_true hbr)) ?_
      refine g_region ?_
      refine l_move rfl rfl ?_
      refine l_lds rfl Try.isAgg65 Try.sizeOf65 rfl rfl ?_
      refine l_take (BigF S.K (fun j => bkA (S.B j))) ?_
      refine l_take (Own 107 4 (.slice S.ka S.K S.kc) S.K (rowsN S.K (fun j => bkR (S.B j)))) ?_
      refine l_take (BigF S.J (fun j => kiA (S.T j))) ?_
      refine l_take (Own 102 3 (.slice S.ia S.J S.ic) S.J (rowsN S.J (fun j => kiR (S.T j)))) ?_
      refine l_take (BigF S.N (fun j => mpA (S.M j))) ?_
      refine l_take (Own 94 2 (.slice S.la S.N S.lc) S.N (rowsN S.N (fun j => mpR (S.M j)))) ?_
      refine l_take (Blk wb (.cells [Value.slice S.la S.N S.lc, .slice S.ia S.J S.ic, .slice S.ka S.K S.kc].toArray 74 (0, 0))) ?_
      refine l_call rfl Try.call23 rfl (makes_any _ _ wb S hS kd hkd.1 hkd.2 who hwho.1 hwho.2 oth hoth.1 hoth.2 oa hoa.1 hoa.2 ob hob.1 hob.2 oc hoc.1 hoc.2 ox hox.1 hox.2 sa sn sc Y hl (by omega) hR.ex hYU hN1) ?_; rintro _ _ ⟨S2, rfl, hS2, hN2, hJ2, hK2, rfl⟩
      refine l_assign rfl rfl ?_
      refine l_nil ?_
      refine g_inBlock ?_
      refine g_seq ?_
      refine g_region ?_
      refine l_move rfl rfl ?_
      refine l_not rfl rfl ?_
      refine l_nil ?_
      first | refine g_cond_f rfl ?_ | refine g_cond_f (congrArg (fun b => some (Value.bool b)) (decide_eq_false hbr)) ?_
      refine g_skip ?_
      refine g_inBlock ?_
      refine g_region ?_
      refine l_move rfl rfl ?_
      first | refine l_add rfl rfl rfl (w_i64 (by omega) (by omega)) ?_ | refine l_addw rfl rfl rfl ?_
      refine l_assign rfl rfl ?_
      refine l_nil ?_
      (first | exact g_againi (ih (i + 1, S2) ⟨⟨by simp only; omega, by simp only; omega, by simp only; omega⟩, hS2, by simp only; omega, by simp only; omega, by simp only; omega⟩ (by simp only; omega)) (.cons rfl (.cons rfl (.cons rfl (.cons rfl (.nil))))) | exact g_againi (ih (i + 1, S) ⟨⟨by simp only; omega, by simp only; omega, by simp only; omega⟩, hS, hN1, by simp only; omega, by simp only; omega⟩ (by simp only; omega)) (.cons rfl (.cons rfl (.cons rfl (.cons rfl (.nil))))))
    intro hbr
    have hbr := of_decide_eq_false hbr
    refine g_seq ?_
    refine g_region ?_
    refine l_eql rfl rfl rfl ?_
    refine l_assign rfl rfl ?_
    refine l_nil ?_
    refine g_cond rfl ?_ ?_
    · intro hbr
      have hbr := of_decide_eq_true hbr
      refine g_skip ?_
      first | refine g_cond_t rfl ?_ | refine g_cond_t (congrArg (fun b => some (Value.bool b)) (decide_eq_true hbr)) ?_
      refine g_region ?_
      refine l_move rfl rfl ?_
      refine l_lds rfl Try.isAgg65 Try.sizeOf65 rfl rfl ?_
      refine l_take (BigF S.K (fun j => bkA (S.B j))) ?_
      refine l_take (Own 107 4 (.slice S.ka S.K S.kc) S.K (rowsN S.K (fun j => bkR (S.B j)))) ?_
      refine l_take (BigF S.J (fun j => kiA (S.T j))) ?_
      refine l_take (Own 102 3 (.slice S.ia S.J S.ic) S.J (rowsN S.J (fun j => kiR (S.T j)))) ?_
      refine l_take (BigF S.N (fun j => mpA (S.M j))) ?_
      refine l_take (Own 94 2 (.slice S.la S.N S.lc) S.N (rowsN S.N (fun j => mpR (S.M j)))) ?_
      refine l_take (Blk wb (.cells [Value.slice S.la S.N S.lc, .slice S.ia S.J S.ic, .slice S.ka S.K S.kc].toArray 74 (0, 0))) ?_
      refine l_call rfl Try.call23 rfl (makes_any _ _ wb S hS kd hkd.1 hkd.2 who hwho.1 hwho.2 oth hoth.1 hoth.2 oa hoa.1 hoa.2 ob hob.1 hob.2 oc hoc.1 hoc.2 ox hox.1 hox.2 sa sn sc Y hl (by omega) hR.ex hYU hN1) ?_; rintro _ _ ⟨S2, rfl, hS2, hN2, hJ2, hK2, rfl⟩
      refine l_assign rfl rfl ?_
      refine l_nil ?_
      refine g_inBlock ?_
      refine g_seq ?_
      refine g_region ?_
      refine l_move rfl rfl ?_
      refine l_not rfl rfl ?_
      refine l_nil ?_
      first | refine g_cond_f rfl ?_ | refine g_cond_f (congrArg (fun b => some (Value.bool b)) (decide_eq_false hbr)) ?_
      refine g_skip ?_
      refine g_inBlock ?_
      refine g_region ?_
      refine l_move rfl rfl ?_
      first | refine l_add rfl rfl rfl (w_i64 (by omega) (by omega)) ?_ | refine l_addw rfl rfl rfl ?_
      refine l_assign rfl rfl ?_
      refine l_nil ?_
      (first | exact g_againi (ih (i + 1, S2) ⟨⟨by simp only; omega, by simp only; omega, by simp only; omega⟩, hS2, by simp only; omega, by simp only; omega, by simp only; omega⟩ (by simp only; omega)) (.cons rfl (.cons rfl (.cons rfl (.cons rfl (.nil))))) | exact g_againi (ih (i + 1, S) ⟨⟨by simp only; omega, by simp only; omega, by simp only; omega⟩, hS, hN1, by simp only; omega, by simp only; omega⟩ (by simp only; omega)) (.cons rfl (.cons rfl (.cons rfl (.cons rfl (.nil))))))
    intro hbr
    have hbr := of_decide_eq_false hbr
    refine g_region ?_
    refine l_eql rfl rfl rfl ?_
    refine l_assign rfl rfl ?_
    refine l_nil ?_
    refine g_cond rfl ?_ ?_
    · intro hbr
      have hbr := of_decide_eq_true hbr
      refine g_region ?_
      refine l_move rfl rfl ?_
      refine l_lds rfl Try.isAgg65 Try.sizeOf65 rfl rfl ?_
      refine l_take (BigF S.K (fun j => bkA (S.B j))) ?_
      refine l_take (Own 107 4 (.slice S.ka S.K S.kc) S.K (rowsN S.K (fun j => bkR (S.B j)))) ?_
      refine l_take (BigF S.J (fun j => kiA (S.T j))) ?_
      refine l_take (Own 102 3 (.slice S.ia S.J S.ic) S.J (rowsN S.J (fun j => kiR (S.T j)))) ?_
      refine l_take (BigF S.N (fun j => mpA (S.M j))) ?_
      refine l_take (Own 94 2 (.slice S.la S.N S.lc) S.N (rowsN S.N (fun j => mpR (S.M j)))) ?_
      refine l_take (Blk wb (.cells [Value.slice S.la S.N S.lc, .slice S.ia S.J S.ic, .slice S.ka S.K S.kc].toArray 74 (0, 0))) ?_
      refine l_call rfl Try.call23 rfl (makes_any _ _ wb S hS kd hkd.1 hkd.2 who hwho.1 hwho.2 oth hoth.1 hoth.2 oa hoa.1 hoa.2 ob hob.1 hob.2 oc hoc.1 hoc.2 ox hox.1 hox.2 sa sn sc Y hl (by omega) hR.ex hYU hN1) ?_; rintro _ _ ⟨S2, rfl, hS2, hN2, hJ2, hK2, rfl⟩
      refine l_assign rfl rfl ?_
      refine l_nil ?_
      refine g_inBlock ?_
      refine g_seq ?_
      refine g_region ?_
      refine l_move rfl rfl ?_
      refine l_not rfl rfl ?_
      refine l_nil ?_
      first | refine g_cond_f rfl ?_ | refine g_cond_f (congrArg (fun b => some (Value.bool b)) (decide_eq_false hbr)) ?_
      refine g_skip ?_
      refine g_inBlock ?_
      refine g_region ?_
      refine l_move rfl rfl ?_
      first | refine l_add rfl rfl rfl (w_i64 (by omega) (by omega)) ?_ | refine l_addw rfl rfl rfl ?_
      refine l_assign rfl rfl ?_
      refine l_nil ?_
      (first | exact g_againi (ih (i + 1, S2) ⟨⟨by simp only; omega, by simp only; omega, by simp only; omega⟩, hS2, by simp only; omega, by simp only; omega, by simp only; omega⟩ (by simp only; omega)) (.cons rfl (.cons rfl (.cons rfl (.cons rfl (.nil))))) | exact g_againi (ih (i + 1, S) ⟨⟨by simp only; omega, by simp only; omega, by simp only; omega⟩, hS, hN1, by simp only; omega, by simp only; omega⟩ (by simp only; omega)) (.cons rfl (.cons rfl (.cons rfl (.cons rfl (.nil))))))
    intro hbr
    have hbr := of_decide_eq_false hbr
    refine g_seq ?_
    refine g_region ?_
    refine l_eql rfl rfl rfl ?_
    refine l_assign rfl rfl ?_
    refine l_nil ?_
    refine g_cond rfl ?_ ?_
    · intro hbr
      have hbr := of_decide_eq_true hbr
      refine g_region ?_
      refine l_move rfl rfl ?_
      refine l_lds rfl Try.isAgg65 Try.sizeOf65 rfl rfl ?_
      refine l_take (BigF S.K (fun j => bkA (S.B j))) ?_
      refine l_take (Own 107 4 (.slice S.ka S.K S.kc) S.K (rowsN S.K (fun j => bkR (S.B j)))) ?_
      refine l_take (BigF S.J (fun j => kiA (S.T j))) ?_
      refine l_take (Own 102 3 (.slice S.ia S.J S.ic) S.J (rowsN S.J (fun j => kiR (S.T j)))) ?_
      refine l_take (BigF S.N (fun j => mpA (S.M j))) ?_
      refine l_take (Own 94 2 (.slice S.la S.N S.lc) S.N (rowsN S.N (fun j => mpR (S.M j)))) ?_
      refine l_take (Blk wb (.cells [Value.slice S.la S.N S.lc, .slice S.ia S.J S.ic, .slice S.ka S.K S.kc].toArray 74 (0, 0))) ?_
      refine l_call rfl Try.call24 rfl (differs_ok _ _ wb S hS hN1 kd hkd.1 hkd.2 who hwho.1 hwho.2 oth hoth.1 hoth.2 oa hoa.1 hoa.2 ob hob.1 hob.2 oc hoc.1 hoc.2 ox hox.1 hox.2 sa sn sc Y hl (by omega) hR.ex hYU) ?_; rintro _ _ ⟨rfl, rfl⟩
      refine l_assign rfl rfl ?_
      refine l_nil ?_
      refine g_inBlock ?_
      refine g_seq ?_
      refine g_region ?_
      refine l_move rfl rfl ?_
      refine l_not rfl rfl ?_
      refine l_nil ?_
      first | refine g_cond_f rfl ?_ | refine g_cond_f (congrArg (fun b => some (Value.bool b)) (decide_eq_false hbr)) ?_
      refine g_skip ?_
      refine g_inBlock ?_
      refine g_region ?_
      refine l_move rfl rfl ?_
      first | refine l_add rfl rfl rfl (w_i64 (by omega) (by omega)) ?_ | refine l_addw rfl rfl rfl ?_
      refine l_assign rfl rfl ?_
      refine l_nil ?_
      (first | exact g_againi (ih (i + 1, S2) ⟨⟨by simp only; omega, by simp only; omega, by simp only; omega⟩, hS2, by simp only; omega, by simp only; omega, by simp only; omega⟩ (by simp only; omega)) (.cons rfl (.cons rfl (.cons rfl (.cons rfl (.nil))))) | exact g_againi (ih (i + 1, S) ⟨⟨by simp only; omega, by simp only; omega, by simp only; omega⟩, hS, hN1, by simp only; omega, by simp only; omega⟩ (by simp only; omega)) (.cons rfl (.cons rfl (.cons rfl (.cons rfl (.nil))))))
    intro hbr
    have hbr := of_decide_eq_false hbr
    refine g_seq ?_
    refine g_region ?_
    refine l_eql rfl rfl rfl ?_
    refine l_assign rfl rfl ?_
    refine l_nil ?_
    refine g_cond rfl ?_ ?_
    · intro hbr
      have hbr := of_decide_eq_true hbr
      refine g_region ?_
      refine l_move rfl rfl ?_
      refine l_take (BigF S.K (fun j => bkA (S.B j))) ?_
      refine l_take (Own 107 4 (.slice S.ka S.K S.kc) S.K (rowsN S.K (fun j => bkR (S.B j)))) ?_
      refine l_take (BigF S.J (fun j => kiA (S.T j))) ?_
      refine l_take (Own 102 3 (.slice S.ia S.J S.ic) S.J (rowsN S.J (fun j => kiR (S.T j)))) ?_
      refine l_take (BigF S.N (fun j => mpA (S.M j))) ?_
      refine l_take (Own 94 2 (.slice S.la S.N S.lc) S.N (rowsN S.N (fun j => mpR (S.M j)))) ?_
      refine l_take (Blk wb (.cells [Value.slice S.la S.N S.lc, .slice S.ia S.J S.ic, .slice S.ka S.K S.kc].toArray 74 (0, 0))) ?_
      refine l_call rfl Try.call25 rfl (nobody_ok _ _ wb S hS hN1) ?_; rintro _ _ ⟨rfl, rfl⟩
      refine l_assign rfl rfl ?_
      refine l_nil ?_
      refine g_inBlock ?_
      refine g_seq ?_
      refine g_region ?_
      refine l_move rfl rfl ?_
      refine l_not rfl rfl ?_
      refine l_nil ?_
      first | refine g_cond_f rfl ?_ | refine g_cond_f (congrArg (fun b => some (Value.bool b)) (decide_eq_false hbr)) ?_
      refine g_skip ?_
      refine g_inBlock ?_
      refine g_region ?_
      refine l_move rfl rfl ?_
      first | refine l_add rfl rfl rfl (w_i64 (by omega) (by omega)) ?_ | refine l_addw rfl rfl rfl ?_
      refine l_assign rfl rfl ?_
      refine l_nil ?_
      (first | exact g_againi (ih (i + 1, S2) ⟨⟨by simp only; omega, by simp only; omega, by simp only; omega⟩, hS2, by simp only; omega, by simp only; omega, by simp only; omega⟩ (by simp only; omega)) (.cons rfl (.cons rfl (.cons rfl (.cons rfl (.nil))))) | exact g_againi (ih (i + 1, S) ⟨⟨by simp only; omega, by simp only; omega, by simp only; omega⟩, hS, hN1, by simp only; omega, by simp only; omega⟩ (by simp only; omega)) (.cons rfl (.cons rfl (.cons rfl (.cons rfl (.nil))))))
    intro hbr
    have hbr := of_decide_eq_false hbr
    refine g_seq ?_
    refine g_seq ?_
    refine g_region ?_
    refine l_eql rfl rfl rfl ?_
    refine l_assign rfl rfl ?_
    refine l_nil ?_
    refine g_cond rfl ?_ ?_
    · intro hbr
      have hbr := of_decide_eq_true hbr
      refine g_skip ?_
      first | refine g_cond_t rfl ?_ | refine g_cond_t (congrArg (fun b => some (Value.bool b)) (decide_eq_true hbr)) ?_
      refine g_region ?_
      refine l_move rfl rfl ?_
      refine l_lds rfl Try.isAgg65 Try.sizeOf65 rfl rfl ?_
      refine l_take (BigF S.K (fun j => bkA (S.B j))) ?_
      refine l_take (Own 107 4 (.slice S.ka S.K S.kc) S.K (rowsN S.K (fun j => bkR (S.B j)))) ?_
      refine l_take (BigF S.J (fun j => kiA (S.T j))) ?_
      refine l_take (Own 102 3 (.slice S.ia S.J S.ic) S.J (rowsN S.J (fun j => kiR (S.T j)))) ?_
      refine l_take (BigF S.N (fun j => mpA (S.M j))) ?_
      refine l_take (Own 94 2 (.slice S.la S.N S.lc) S.N (rowsN S.N (fun j => mpR (S.M j)))) ?_
      refine l_take (Blk wb (.cells [Value.slice S.la S.N S.lc, .slice S.ia S.J S.ic, .slice S.ka S.K S.kc].toArray 74 (0, 0))) ?_
      refine l_call rfl Try.call26 rfl (iters_any _ _ wb S hS hN1 (by omega) kd hkd.1 hkd.2 who hwho.1 hwho.2 oth hoth.1 hoth.2 oa hoa.1 hoa.2 ob hob.1 hob.2 oc hoc.1 hoc.2 ox hox.1 hox.2 sa sn sc Y hl (by omega) hR.ex hYU) ?_; rintro _ _ ⟨S2, rfl, hS2, hN2, hJ2, hK2, rfl⟩
      refine l_assign rfl rfl ?_
      refine l_nil ?_
      refine g_inBlock ?_
      refine g_seq ?_
      refine g_region ?_
      refine l_move rfl rfl ?_
      refine l_not rfl rfl ?_
      refine l_nil ?_
      first | refine g_cond_f rfl ?_ | refine g_cond_f (congrArg (fun b => some (Value.bool b)) (decide_eq_false hbr)) ?_
      refine g_skip ?_
      refine g_inBlock ?_
      refine g_region ?_
      refine l_move rfl rfl ?_
      first | refine l_add rfl rfl rfl (w_i64 (by omega) (by omega)) ?_ | refine l_addw rfl rfl rfl ?_
      refine l_assign rfl rfl ?_
      refine l_nil ?_
      (first | exact g_againi (ih (i + 1, S2) ⟨⟨by simp only; omega, by simp only; omega, by simp only; omega⟩, hS2, by simp only; omega, by simp only; omega, by simp only; omega⟩ (by simp only; omega)) (.cons rfl (.cons rfl (.cons rfl (.cons rfl (.nil))))) | exact g_againi (ih (i + 1, S) ⟨⟨by simp only; omega, by simp only; omega, by simp only; omega⟩, hS, hN1, by simp only; omega, by simp only; omega⟩ (by simp only; omega)) (.cons rfl (.cons rfl (.cons rfl (.cons rfl (.nil))))))
    intro hbr
    have hbr := of_decide_eq_false hbr
    refine g_region ?_
    refine l_eql rfl rfl rfl ?_
    refine l_assign rfl rfl ?_
    refine l_nil ?_
    refine g_cond rfl ?_ ?_
    · intro hbr
      have hbr := of_decide_eq_true hbr
      refine g_region ?_
      refine l_move rfl rfl ?_
      refine l_lds rfl Try.isAgg65 Try.sizeOf65 rfl rfl ?_
      refine l_take (BigF S.K (fun j => bkA (S.B j))) ?_
      refine l_take (Own 107 4 (.slice S.ka S.K S.kc) S.K (rowsN S.K (fun j => bkR (S.B j)))) ?_
      refine l_take (BigF S.J (fun j => kiA (S.T j))) ?_
      refine l_take (Own 102 3 (.slice S.ia S.J S.ic) S.J (rowsN S.J (fun j => kiR (S.T j)))) ?_
      refine l_take (BigF S.N (fun j => mpA (S.M j))) ?_
      refine l_take (Own 94 2 (.slice S.la S.N S.lc) S.N (rowsN S.N (fun j => mpR (S.M j)))) ?_
      refine l_take (Blk wb (.cells [Value.slice S.la S.N S.lc, .slice S.ia S.J S.ic, .slice S.ka S.K S.kc].toArray 74 (0, 0))) ?_
      refine l_call rfl Try.call26 rfl (iters_any _ _ wb S hS hN1 (by omega) kd hkd.1 hkd.2 who hwho.1 hwho.2 oth hoth.1 hoth.2 oa hoa.1 hoa.2 ob hob.1 hob.2 oc hoc.1 hoc.2 ox hox.1 hox.2 sa sn sc Y hl (by omega) hR.ex hYU) ?_; rintro _ _ ⟨S2, rfl, hS2, hN2, hJ2, hK2, rfl⟩
      refine l_assign rfl rfl ?_
      refine l_nil ?_
      refine g_inBlock ?_
      refine g_seq ?_
      refine g_region ?_
      refine l_move rfl rfl ?_
      refine l_not rfl rfl ?_
      refine l_nil ?_
      first | refine g_cond_f rfl ?_ | refine g_cond_f (congrArg (fun b => some (Value.bool b)) (decide_eq_false hbr)) ?_
      refine g_skip ?_
      refine g_inBlock ?_
      refine g_region ?_
      refine l_move rfl rfl ?_
      first | refine l_add rfl rfl rfl (w_i64 (by omega) (by omega)) ?_ | refine l_addw rfl rfl rfl ?_
      refine l_assign rfl rfl ?_
      refine l_nil ?_
      (first | exact g_againi (ih (i + 1, S2) ⟨⟨by simp only; omega, by simp only; omega, by simp only; omega⟩, hS2, by simp only; omega, by simp only; omega, by simp only; omega⟩ (by simp only; omega)) (.cons rfl (.cons rfl (.cons rfl (.cons rfl (.nil))))) | exact g_againi (ih (i + 1, S) ⟨⟨by simp only; omega, by simp only; omega, by simp only; omega⟩, hS, hN1, by simp only; omega, by simp only; omega⟩ (by simp only; omega)) (.cons rfl (.cons rfl (.cons rfl (.cons rfl (.nil))))))
    intro hbr
    have hbr := of_decide_eq_false hbr
    refine g_region ?_
    refine l_move rfl rfl ?_
    refine l_lds rfl Try.isAgg65 Try.sizeOf65 rfl rfl ?_
    refine l_take (BigF S.K (fun j => bkA (S.B j))) ?_
    refine l_take (Own 107 4 (.slice S.ka S.K S.kc) S.K (rowsN S.K (fun j => bkR (S.B j)))) ?_
    refine l_take (BigF S.J (fun j => kiA (S.T j))) ?_
    refine l_take (Own 102 3 (.slice S.ia S.J S.ic) S.J (rowsN S.J (fun j => kiR (S.T j)))) ?_
    refine l_take (BigF S.N (fun j => mpA (S.M j))) ?_
    refine l_take (Own 94 2 (.slice S.la S.N S.lc) S.N (rowsN S.N (fun j => mpR (S.M j)))) ?_
    refine l_take (Blk wb (.cells [Value.slice S.la S.N S.lc, .slice S.ia S.J S.ic, .slice S.ka S.K S.kc].toArray 74 (0, 0))) ?_
    refine l_call rfl Try.call27 rfl (works_ok _ _ wb S hS hN1 (by omega) kd hkd.1 hkd.2 who hwho.1 hwho.2 oth hoth.1 hoth.2 oa hoa.1 hoa.2 ob hob.1 hob.2 oc hoc.1 hoc.2 ox hox.1 hox.2 sa sn sc Y hl (by omega) hR.ex hYU) ?_; rintro _ _ ⟨S2, rfl, hS2, hN2, hJ2, hK2, rfl⟩
    refine l_assign rfl rfl ?_
    refine l_nil ?_
    refine g_inBlock ?_
    refine g_seq ?_
    refine g_region ?_
    refine l_move rfl rfl ?_
    refine l_not rfl rfl ?_
    refine l_nil ?_
    first | refine g_cond_f rfl ?_ | refine g_cond_f (congrArg (fun b => some (Value.bool b)) (decide_eq_false hbr)) ?_
    refine g_skip ?_
    refine g_inBlock ?_
    refine g_region ?_
    refine l_move rfl rfl ?_
    first | refine l_add rfl rfl rfl (w_i64 (by omega) (by omega)) ?_ | refine l_addw rfl rfl rfl ?_
    refine l_assign rfl rfl ?_
    refine l_nil ?_
    (first | exact g_againi (ih (i + 1, S2) ⟨⟨by simp only; omega, by simp only; omega, by simp only; omega⟩, hS2, by simp only; omega, by simp only; omega, by simp only; omega⟩ (by simp only; omega)) (.cons rfl (.cons rfl (.cons rfl (.cons rfl (.nil))))) | exact g_againi (ih (i + 1, S) ⟨⟨by simp only; omega, by simp only; omega, by simp only; omega⟩, hS, hN1, by simp only; omega, by simp only; omega⟩ (by simp only; omega)) (.cons rfl (.cons rfl (.cons rfl (.cons rfl (.nil))))))
  intro hbr
  have hbr := of_decide_eq_false hbr
  refine g_exit rfl ?_
  refine g_seq ?_
  refine g_seq ?_
  refine g_region ?_
  refine l_assign rfl rfl ?_
  refine l_nil ?_
  refine g_block ?_
  refine g_loopk (X := Int × WS) [(3, _)] (.cons rfl (.nil)) (fun z => (0 ≤ z.1 ∧ z.1 ≤ 12) ∧ SOk z.2 ∧ 1 ≤ z.2.N ∧ (z.2.K : Int) ≤ 5000000000 + 2 * z.1) (fun z => ((12 : Int) - z.1).toNat) (fun z => [(4, .bool true), (7, .int .i64 z.1)]) (fun z => Blk wb (.cells [Value.slice z.2.la z.2.N z.2.lc, .slice z.2.ia z.2.J z.2.ic, .slice z.2.ka z.2.K z.2.kc].toArray 74 (0, 0)) :: Own 94 2 (.slice z.2.la z.2.N z.2.lc) z.2.N (rowsN z.2.N (fun j => mpR (z.2.M j))) :: BigF z.2.N (fun j => mpA (z.2.M j)) :: Own 102 3 (.slice z.2.ia z.2.J z.2.ic) z.2.J (rowsN z.2.J (fun j => kiR (z.2.T j))) :: BigF z.2.J (fun j => kiA (z.2.T j)) :: Own 107 4 (.slice z.2.ka z.2.K z.2.kc) z.2.K (rowsN z.2.K (fun j => bkR (z.2.B j))) :: BigF z.2.K (fun j => bkA (z.2.B j)) :: F) ((0, S)) (⟨⟨by simp only; omega, by simp only; omega⟩, hS, hN1, by simp only; omega⟩) (.cons rfl (.cons rfl .nil)) (fun w hw => SPI.holds hw) ?_
  rintro ⟨i, S⟩ ⟨⟨i0, i1⟩, hS, hN1, hK⟩ ihj
  dsimp only [List.cons_append, List.nil_append] at ihj ⊢
  simp only at i0 i1 hS hN1 hK
  have hN12 := hS.hN
  refine g_seq ?_
  refine g_seq ?_
  refine g_region ?_
  refine l_move rfl rfl ?_
  refine l_move rfl rfl ?_
  refine l_nilCheck rfl rfl ?_
  refine l_fieldAddr rfl fa_74_0 rfl ?_
  refine l_ld rfl Try.isAgg68 rfl rfl ?_
  refine l_len rfl Try.underlying68 rfl ?_
  refine l_lss rfl rfl rfl ?_
  refine l_nil ?_
  refine g_cond rfl ?_ ?_
  · intro hbr
    have hbr := of_decide_eq_true hbr
    refine g_skip ?_
    refine g_seq ?_
    refine g_block ?_
    refine g_seq ?_
    refine g_region ?_
    refine l_move rfl rfl ?_
    refine l_move rfl rfl ?_
    refine l_build rfl rfl (fun w => bd_65_0_1 _ _ w) ?_
    refine l_take (BigF S.K (fun j => bkA (S.B j))) ?_
    refine l_take (Own 107 4 (.slice S.ka S.K S.kc) S.K (rowsN S.K (fun j => bkR (S.B j)))) ?_
    refine l_take (BigF S.J (fun j => kiA (S.T j))) ?_
    refine l_take (Own 102 3 (.slice S.ia S.J S.ic) S.J (rowsN S.J (fun j => kiR (S.T j)))) ?_
    refine l_take (BigF S.N (fun j => mpA (S.M j))) ?_
    refine l_take (Own 94 2 (.slice S.la S.N S.lc) S.N (rowsN S.N (fun j => mpR (S.M j)))) ?_
    refine l_take (Blk wb (.cells [Value.slice S.la S.N S.lc, .slice S.ia S.J S.ic, .slice S.ka S.K S.kc].toArray 74 (0, 0))) ?_
    refine l_call rfl Try.call27 rfl (works_ok _ _ wb S hS hN1 (by omega) 9 (by omega) (by omega) i (by omega) (by omega) 0 (by omega) (by omega) 0 (by omega) (by omega) 0 (by omega) (by omega) 0 (by omega) (by omega) 0 (by omega) (by omega) none 0 0 [] rfl (by omega) ⟨rfl, .inl rfl⟩ (fun i => by simp)) ?_; rintro _ _ ⟨S2, rfl, hS2, hN2, hJ2, hK2, rfl⟩
    refine l_assign rfl rfl ?_
    refine l_nil ?_
    refine g_seq ?_
    refine g_region ?_
    refine l_move rfl rfl ?_
    refine l_not rfl rfl ?_
    refine l_nil ?_
    first | refine g_cond_f rfl ?_ | refine g_cond_f (congrArg (fun b => some (Value.bool b)) (decide_eq_false hbr)) ?_
    refine g_skip ?_
    refine g_inBlock ?_
    refine g_region ?_
    refine l_move rfl rfl ?_
    first | refine l_add rfl rfl rfl (w_i64 (by omega) (by omega)) ?_ | refine l_addw rfl rfl rfl ?_
    refine l_assign rfl rfl ?_
    refine l_nil ?_
    exact g_againi (ihj (i + 1, S2) ⟨⟨by simp only; omega, by simp only; omega⟩, hS2, by simp only; omega, by simp only; omega⟩ (by simp only; omega)) (.cons rfl (.cons rfl (.cons rfl (.nil))))
  intro hbr
  have hbr := of_decide_eq_false hbr
  refine g_exit rfl ?_
  refine g_seq ?_
  refine g_region ?_
  refine l_move rfl rfl ?_
  refine l_nilCheck rfl rfl ?_
  refine l_fieldAddr rfl fa_74_2 rfl ?_
  refine l_take (BigF S.K (fun j => bkA (S.B j))) ?_
  refine l_take (Own 107 4 (.slice S.ka S.K S.kc) S.K (rowsN S.K (fun j => bkR (S.B j)))) ?_
  refine l_take (Blk wb (.cells [Value.slice S.la S.N S.lc, .slice S.ia S.J S.ic, .slice S.ka S.K S.kc].toArray 74 (0, 0))) ?_
  refine l_call rfl Try.call28 rfl (settled_ok _ _ wb _ _ S.ka S.K S.kc S.B hS.hB (by omega) hS.hka) ?_; rintro _ _ ⟨rfl, rfl⟩
  refine l_assign rfl rfl ?_
  refine l_nil ?_
  refine g_ret Try.func7 rfl (.tmp rfl .nil) ?_
  exact Gives.mki ⟨rfl, rfl⟩
theorem exact_all (W : World) (a0 : Option Addr) (n0 c0 : Nat) (rows : List (List Value)) (hc0 : n0 ≤ c0) (hm0 : c0 ≤ maxLen) (hl0 : rows.length = n0) (hv0 : ∀ r ∈ rows, r.length = 8 ∧ Vis Try.prog W 65 r)
    (hr0 : (n0 = 0 ∧ (a0 = none → c0 = 0)) ∨ ∃ b o, a0 = some ⟨b, o, none⟩ ∧ ∀ (j : Nat) u, rows.flatten[j]? = some u → W.cell? ⟨b, o + j, none⟩ = some u) :
    CallK Try.prog 7 [.slice a0 n0 c0] W [Old W] (Gives W fun v F2 => v = .bool true ∧ F2 = [Old W]) := by
  simp only [maxLen] at hm0
  obtain ⟨L, hL, hLok⟩ := rows_choose (f := opRow) (R := OpOk W [Old W]) (rows := rows) (fun r hr => vis_op (hv0 r hr).2)
  subst hL
  refine exact_ok W [Old W] a0 n0 c0 L (by simpa using hl0) (by omega) ?_ hLok
  rcases hr0 with ⟨h, _⟩ | ⟨b, o, h, hr⟩
  · exact .inl h
  · exact .inr ⟨b, o, h, RowAt.old (by simp) hr⟩
end Go.Proofs.Ytlgcghhjgcdigaa.Fw
