import Derived.Test.YthemlddepepekaaBegun
import Derived.Test.YthemlddepepekaaWords
import Derived.Test.YthemlddepepekaaNobody
import Derived.Test.YthemlddepepekaaSettl
import Derived.Test.YthemlddepepekaaFw17
namespace Go.Proofs.Ythemlddepepekaa.Fw
open Go Go.Proofs
set_option linter.unusedVariables false
set_option linter.unusedSimpArgs false
set_option maxRecDepth 10000

theorem viz_s53 {w : World} {r : List Value} (h : Viz Try.prog w 53 r) : ∃ (x0 : Int) (x1 : Int) (x2 : Int) (x3 : Int) (x4 : Bool) (x5 : Int) (x6 : Option Addr) (n6 c6 : Nat) (X6 : List Int) (x7 : Option Addr) (n7 c7 : Nat) (X7 : List Int), r = [.int .i64 x0, .int .i64 x1, .int .i64 x2, .int .i64 x3, .bool x4, .int .u32 x5, .slice x6 n6 c6, .slice x7 n7 c7] ∧ (Lit.int .i64 x0).wf = true ∧ (Lit.int .i64 x1).wf = true ∧ (Lit.int .i64 x2).wf = true ∧ (Lit.int .i64 x3).wf = true ∧ True ∧ (Lit.int .u32 x5).wf = true ∧ (n6 ≤ c6 ∧ c6 ≤ maxLen ∧ n6 * 8 ≤ 140737488351232 ∧ X6.length = n6 ∧ (∀ x ∈ X6, (Lit.int .i64 x).wf = true) ∧ ((n6 = 0 ∧ (x6 = none → c6 = 0)) ∨ ∃ b o, x6 = some ⟨b, o, none⟩ ∧ ∀ (j : Nat) u, (ints .i64 X6)[j]? = some u → w.cell? ⟨b, o + j, none⟩ = some u)) ∧ (n7 ≤ c7 ∧ c7 ≤ maxLen ∧ n7 * 4 ≤ 140737488351232 ∧ X7.length = n7 ∧ (∀ x ∈ X7, (Lit.int .u32 x).wf = true) ∧ ((n7 = 0 ∧ (x7 = none → c7 = 0)) ∨ ∃ b o, x7 = some ⟨b, o, none⟩ ∧ ∀ (j : Nat) u, (ints .u32 X7)[j]? = some u → w.cell? ⟨b, o + j, none⟩ = some u)) := by
  obtain ⟨hl, hf⟩ := viz_struct Try.underlying53 h
  have hc : Try.prog.cellsOf 53 = 8 := by kernel_rfl
  have cc23 : Try.prog.cellsOf 23 = 1 := by kernel_rfl
  have cc3 : Try.prog.cellsOf 3 = 1 := by kernel_rfl
  have cc38 : Try.prog.cellsOf 38 = 1 := by kernel_rfl
  have cc4 : Try.prog.cellsOf 4 = 1 := by kernel_rfl
  have cc51 : Try.prog.cellsOf 51 = 1 := by kernel_rfl
  match r, hl.trans hc with
  | [z0, z1, z2, z3, z4, z5, z6, z7], _ =>
    obtain ⟨x0, e0, w0⟩ := vis_int Try.underlying3 (hf 0 _ rfl).vis
    obtain ⟨x1, e1, w1⟩ := vis_int Try.underlying3 (hf 1 _ rfl).vis
    obtain ⟨x2, e2, w2⟩ := vis_int Try.underlying3 (hf 2 _ rfl).vis
    obtain ⟨x3, e3, w3⟩ := vis_int Try.underlying3 (hf 3 _ rfl).vis
    obtain ⟨x4, e4⟩ := vis_bool Try.underlying4 (hf 4 _ rfl).vis
    have w4 := trivial
    obtain ⟨x5, e5, w5⟩ := vis_int Try.underlying51 (hf 5 _ rfl).vis
    obtain ⟨x6, n6, c6, X6, e6, w6⟩ := viz_ints (by_ := 8) Try.underlying23 Try.underlying3 (by kernel_rfl) (by kernel_rfl) (hf 6 _ rfl)
    obtain ⟨x7, n7, c7, X7, e7, w7⟩ := viz_ints (by_ := 4) Try.underlying38 Try.underlying51 (by kernel_rfl) (by kernel_rfl) (hf 7 _ rfl)
    simp [cc23, cc3, cc38, cc4, cc51] at e0 e1 e2 e3 e4 e5 e6 e7
    subst e0 e1 e2 e3 e4 e5 e6 e7
    exact ⟨x0, x1, x2, x3, x4, x5, x6, n6, c6, X6, x7, n7, c7, X7, rfl, w0, w1, w2, w3, w4, w5, w6, w7⟩
structure OpR where
  kd : Int
  who : Int
  oa : Int
  ob : Int
  oq : Bool
  ox : Int
  ga : Option Addr
  gc : Nat
  G : List Int
  sa : Option Addr
  sc : Nat
  Y : List Int
def opRow (r : OpR) : List Value := [.int .i64 r.kd, .int .i64 r.who, .int .i64 r.oa, .int .i64 r.ob, .bool r.oq, .int .u32 r.ox, .slice r.ga r.G.length r.gc, .slice r.sa r.Y.length r.sc]
structure OpOk (w0 : World) (F : List Atom) (r : OpR) : Prop where
  kd : -9223372036854775808 ≤ r.kd ∧ r.kd ≤ 9223372036854775807
  who : -9223372036854775808 ≤ r.who ∧ r.who ≤ 9223372036854775807
  oa : -9223372036854775808 ≤ r.oa ∧ r.oa ≤ 9223372036854775807
  ob : -9223372036854775808 ≤ r.ob ∧ r.ob ≤ 9223372036854775807
  ox : 0 ≤ r.ox ∧ r.ox ≤ 4294967295
  g : RA w0 F .i64 r.ga r.G.length r.gc r.G
  y : RA w0 F .u32 r.sa r.Y.length r.sc r.Y
  gb : I64s r.G
  u : W32s r.Y
  gn : r.G.length ≤ 140737488351232
  sn : r.Y.length ≤ 140737488351232
theorem op_at {w0 : World} {F : List Atom} {L : List OpR} (h : ∀ r ∈ L, OpOk w0 F r) {i : Nat} (hi : i < L.length) : ∃ r, (L.map opRow)[i]? = some (opRow r) ∧ OpOk w0 F r :=
  ⟨L[i], by simp [hi], h _ (List.getElem_mem _)⟩
theorem op_len (L : List OpR) : ∀ r ∈ L.map opRow, r.length = 8 := by
  intro r hr
  obtain ⟨o, _, rfl⟩ := List.mem_map.1 hr
  rfl
theorem ra_old {W : World} {kd : IntKind} {a : Option Addr} {n c : Nat} {X : List Int} (hl : X.length = n) (hx : (n = 0 ∧ (a = none → c = 0)) ∨ ∃ b o, a = some ⟨b, o, none⟩ ∧ ∀ (j : Nat) u, (ints kd X)[j]? = some u → W.cell? ⟨b, o + j, none⟩ = some u) : RA W [Old W] kd a n c X := by
  refine ⟨hl, ?_⟩
  rcases hx with h | ⟨b, o, h, hr⟩
  · exact .inl h
  · exact .inr ⟨b, o, h, RowAt.old (by simp) hr⟩
theorem wf_i64s {k : Int} (h : (Lit.int .i64 k).wf = true) : -9223372036854775808 ≤ k ∧ k ≤ 9223372036854775807 := by
  simp [Lit.wf, IntKind.min, IntKind.max, IntKind.signed, IntKind.bits] at h
  omega
theorem wf_u32s {k : Int} (h : (Lit.int .u32 k).wf = true) : 0 ≤ k ∧ k ≤ 4294967295 := by
  simp [Lit.wf, IntKind.min, IntKind.max, IntKind.signed, IntKind.bits] at h
  omega
theorem I64s.of {W : List Int} (h : ∀ x ∈ W, -9223372036854775808 ≤ x ∧ x ≤ 9223372036854775807) : I64s W := by
  intro i
  rcases Nat.lt_or_ge i W.length with hi | hi
  · have : W.getD i 0 = W[i] := by simp [hi]
    rw [this]; exact h _ (List.getElem_mem _)
  · have : W.getD i 0 = 0 := by simp [List.getD_eq_getElem?_getD, hi]
    rw [this]; decide
theorem viz_op {w : World} {r : List Value} (h : Viz Try.prog w 53 r) : ∃ o, r = opRow o ∧ OpOk w [Old w] o := by
  obtain ⟨a, b, c, d, q, f, ga, gn, gc, G, sa, sn, sc, Y, rfl, w0, w1, w2, w3, _, w5, ⟨g1, g2, g3, g4, g5, g6⟩, s1, s2, s3, s4, s5, s6⟩ := viz_s53 h
  subst g4 s4
  exact ⟨⟨a, b, c, d, q, f, ga, gc, G, sa, sc, Y⟩, rfl, wf_i64s w0, wf_i64s w1, wf_i64s w2, wf_i64s w3, wf_u32s w5, ra_old rfl g6, ra_old rfl s6, I64s.of fun x hx => wf_i64s (g5 x hx), W32s.of fun x hx => wf_u32s (s5 x hx), by simp only; omega, by simp only; omega⟩
set_option maxHeartbeats 16000000 in
theorem exact_ok (w0 : World) (F : List Atom) (qa : Option Addr) (qn qc : Nat) (Q : List OpR) (hQn : Q.length = qn) (hqn : qn ≤ 9223372036854775807) (hQ : qn = 0 ∨ ∃ b o, qa = some ⟨b, o, none⟩ ∧ RowAt w0 F b o (Q.map opRow).flatten) (hQo : ∀ r ∈ Q, OpOk w0 F r) :
    CallK Try.prog 5 [.slice qa qn qc] w0 (F) (Gives w0 fun v F2 => v = .bool true ∧ F2 = F) := by
  refine c_enter Try.func5 rfl rfl rfl ?_
  refine g_seq ?_
  refine g_region ?_
  refine l_assign rfl rfl ?_
  refine l_nil ?_
  refine g_seq ?_
  refine g_region ?_
  refine l_call rfl Try.call17 rfl (begun_ok _ _) ?_; rintro _ _ ⟨wb, S, rfl, hS, hN1, hNb, hK, rfl⟩
  refine l_move rfl rfl ?_
  refine l_extract rfl rfl rfl ?_
  refine l_extract rfl rfl rfl ?_
  refine l_assign rfl rfl ?_
  refine l_assign rfl rfl ?_
  refine l_nil ?_
  refine g_seq ?_
  refine g_seq ?_
  refine g_region ?_
  refine l_move rfl rfl ?_
  refine l_not rfl rfl ?_
  refine l_nil ?_
  refine g_cond rfl ?_ ?_
  · intro hbr
    first | (exfalso; simp at hbr; done) | (exfalso; simp at hbr; omega) | (exfalso; first | omega | (simp at hbr; done))
  intro hbr
  have hb14 := hbr
  refine g_skip ?_
  refine g_seq ?_
  refine g_seq ?_
  refine g_region ?_
  refine l_assign rfl rfl ?_
  refine l_nil ?_
  refine g_block ?_
  refine g_loopk (X := Int × WS) [(0, _), (3, _)] (.cons rfl (.cons rfl (.nil))) (fun z => (0 ≤ z.1 ∧ z.1 ≤ Q.length ∧ z.1 ≤ 2147483647) ∧ SOk z.2 ∧ 1 ≤ z.2.N ∧ (z.2.N : Int) ≤ 2 + z.1 ∧ (z.2.K : Int) ≤ 2 * z.1) (fun z => ((Q.length : Int) - z.1).toNat) (fun z => [(4, .bool true), (5, .int .i64 z.1)]) (fun z => Blk wb (.cells [Value.pointer (some ⟨z.2.m.x, 0, none⟩), .pointer (some ⟨z.2.m.y, 0, none⟩), .pointer (some ⟨z.2.p.x, 0, none⟩), .pointer (some ⟨z.2.p.y, 0, none⟩), .slice z.2.la z.2.N z.2.lc, .slice z.2.ka z.2.K z.2.kc, .slice none 0 0].toArray 63 (0, 0)) :: mpA z.2.m :: mpA z.2.p :: Own 95 2 (.slice z.2.la z.2.N z.2.lc) z.2.N (rowsN z.2.N (fun j => chR (z.2.C j))) :: BigF z.2.N (fun j => chA (z.2.C j)) :: Own 111 4 (.slice z.2.ka z.2.K z.2.kc) z.2.K (rowsN z.2.K (fun j => bkR (z.2.B j))) :: BigF z.2.K (fun j => bkA (z.2.B j)) :: F) ((0, S)) (⟨⟨by simp only; omega, by simp only; omega, by simp only; omega⟩, hS, hN1, by simp only; omega, by simp only; omega⟩) (.cons rfl (.cons rfl .nil)) (fun w hw => SPI.holds hw) ?_
  rintro ⟨i, S⟩ ⟨⟨i0, i1, i2⟩, hS, hN1, hN, hK⟩ ih
  dsimp only [List.cons_append, List.nil_append] at ih ⊢
  simp only at i0 i1 i2 hS hN1 hN hK
  refine g_seq ?_
  refine g_seq ?_
  refine g_region ?_
  refine l_move rfl rfl ?_
  refine l_move rfl rfl ?_
  refine l_len rfl Try.underlying47 rfl ?_
  refine l_lss rfl rfl rfl ?_
  refine l_nil ?_
  refine g_cond rfl ?_ ?_
  · intro hbr
    have hbr := of_decide_eq_true hbr
    refine g_skip ?_
    refine g_seq ?_
    refine g_block ?_
    refine g_seq ?_
    refine g_region ?_
    refine l_move rfl rfl ?_
    refine l_move rfl rfl ?_
    obtain ⟨bo, oo, rfl, hro⟩ := hQ.resolve_left (by omega)
    obtain ⟨⟨kd, who, oa, ob, oq, ox, ga, gc, G, sa, sc, Y⟩, hop, hkd, hwho, hoa, hob, hox, hRG, hRY, hGb, hYU, hgn, hsn⟩ := op_at hQo (i := i.toNat) (by omega)
    simp only at hkd hwho hoa hob hox hRG hRY hGb hYU hgn hsn
    refine l_ixs rfl Try.underlying47 Try.sizeOf53 rfl rfl (by omega) (by omega) ?_
    refine l_loadr (l := [Value.int .i64 kd, .int .i64 who, .int .i64 oa, .int .i64 ob, .bool oq, .int .u32 ox, .slice ga G.length gc, .slice sa Y.length sc]) rfl Try.isAgg53 Try.sizeOf53 rfl rfl (row_elem hro.ex (op_len Q) hop) ?_
    refine l_allocs rfl Try.zeroValue53 ?_; intro b6
    refine l_sts Try.sizeOf53 rfl rfl rfl rfl rfl ?_
    refine l_nil ?_
    refine g_seq ?_
    refine g_seq ?_
    refine g_region ?_
    refine l_move rfl rfl ?_
    refine l_geq rfl rfl rfl ?_
    refine l_move rfl rfl ?_
    refine l_split 27 rfl ?_ ?_
    · intro hbr
      have hbr := of_decide_eq_true hbr
      refine l_guard_no rfl rfl rfl ?_
      refine l_guard_no rfl rfl rfl ?_
      refine l_guard_no rfl rfl rfl ?_
      refine l_guard_no rfl rfl rfl ?_
      refine l_guard_no rfl rfl rfl ?_
      refine l_guard_no rfl rfl rfl ?_
      refine l_guard_no rfl rfl rfl ?_
      refine l_guard_no rfl rfl rfl ?_
      refine l_pick_t rfl rfl rfl ?_
      refine l_nil ?_
      first | refine g_cond_t rfl ?_ | refine g_cond_t (congrArg (fun b => some (Value.bool b)) (decide_eq_true hbr)) ?_
      refine g_seq ?_
      refine g_region ?_
      refine l_assign rfl rfl ?_
      refine l_nil ?_
      refine g_ret Try.func5 rfl (.tmp rfl .nil) ?_
      exact Gives.mki ⟨(by first | rfl | (simp [resVal]; done)), rfl⟩
    intro hbr
    have hbr := of_decide_eq_false hbr
    refine l_guard_yes rfl rfl ?_
    refine l_fieldAddr rfl fa_53_6 rfl ?_
    refine l_guard_yes rfl rfl ?_
    refine l_ld rfl Try.isAgg23 rfl rfl ?_
    refine l_guard_yes rfl rfl ?_
    refine l_len rfl Try.underlying23 rfl ?_
    refine l_guard_yes rfl rfl ?_
    refine l_fieldAddr rfl fa_53_7 rfl ?_
    refine l_guard_yes rfl rfl ?_
    refine l_ld rfl Try.isAgg38 rfl rfl ?_
    refine l_guard_yes rfl rfl ?_
    refine l_len rfl Try.underlying38 rfl ?_
    refine l_guard_yes rfl rfl ?_
    first | refine l_add rfl rfl rfl (w_i64 (by omega) (by omega)) ?_ | refine l_addw rfl rfl rfl ?_
    refine l_guard_yes rfl rfl ?_
    refine l_gtr rfl rfl rfl ?_
    refine l_pick_f rfl rfl rfl ?_
    refine l_nil ?_
    refine g_cond rfl ?_ ?_
    · intro hbr
      have hbr := of_decide_eq_true hbr
      refine g_seq ?_
      refine g_region ?_
      refine l_assign rfl rfl ?_
      refine l_nil ?_
      refine g_ret Try.func5 rfl (.tmp rfl .nil) ?_
      exact Gives.mki ⟨(by first | rfl | (simp [resVal]; done)), rfl⟩
    intro hbr
    have hbr := of_decide_eq_false hbr
    refine g_skip ?_
    refine g_seq ?_
    refine g_seq ?_
    refine g_region ?_
    refine l_fieldAddr rfl fa_53_0 rfl ?_
    first | refine l_ld rfl Try.isAgg3 rfl rfl ?_ | refine l_ldw rfl Try.isAgg3 rfl (by omega) ?_
    refine l_nil ?_
    refine g_block ?_
    refine g_seq ?_
    refine g_seq ?_
    refine g_region ?_
    refine l_eql rfl rfl rfl ?_
    refine l_assign rfl rfl ?_
    refine l_nil ?_
    refine g_cond rfl ?_ ?_
    · intro hbr
      have hbr := of_decide_eq_true hbr
      refine g_skip ?_
      first | refine g_cond_t rfl ?_ | refine g_cond_t (congrArg (fun b => some (Value.bool b)) (decide_eq_true hbr)) ?_
      refine g_region ?_
      refine l_move rfl rfl ?_
      refine l_lds rfl Try.isAgg53 Try.sizeOf53 rfl rfl ?_
      refine l_take (BigF S.K (fun j => bkA (S.B j))) ?_
      refine l_take (Own 111 4 (.slice S.ka S.K S.kc) S.K (rowsN S.K (fun j => bkR (S.B j)))) ?_
      refine l_take (BigF S.N (fun j => chA (S.C j))) ?_
      refine l_take (Own 95 2 (.slice S.la S.N S.lc) S.N (rowsN S.N (fun j => chR (S.C j)))) ?_
      refine l_take (mpA S.p) ?_
      refine l_take (mpA S.m) ?_
      refine l_take (Blk wb (.cells [Value.pointer (some ⟨S.m.x, 0, none⟩), .pointer (some ⟨S.m.y, 0, none⟩), .pointer (some ⟨S.p.x, 0, none⟩), .pointer (some ⟨S.p.y, 0, none⟩), .slice S.la S.N S.lc, .slice S.ka S.K S.kc, .slice none 0 0].toArray 63 (0, 0))) ?_
      refine l_call rfl Try.call18 rfl (words_ok17 _ _ wb S hS (by omega) (by omega) kd hkd.1 hkd.2 who hwho.1 hwho.2 oa hoa.1 hoa.2 ob hob.1 hob.2 oq ox hox.1 hox.2 ga gc G (by omega) hRG.ex hGb sa sc Y (by omega) hRY.ex hYU) ?_; rintro _ _ ⟨S2, rfl, hS2, ⟨hN3, hN2, hK2⟩, rfl⟩
      refine l_assign rfl rfl ?_
      refine l_nil ?_
      refine g_inBlock ?_
      refine g_seq ?_
      refine g_region ?_
      refine l_move rfl rfl ?_
      refine l_not rfl rfl ?_
      refine l_nil ?_
      first | refine g_cond_f rfl ?_ | refine g_cond_f (congrArg (fun b => some (Value.bool b)) (decide_eq_false hbr)) ?_
      refine g_skip ?_
      refine g_inBlock ?_
      refine g_region ?_
      refine l_move rfl rfl ?_
      first | refine l_add rfl rfl rfl (w_i64 (by omega) (by omega)) ?_ | refine l_addw rfl rfl rfl ?_
      refine l_assign rfl rfl ?_
      refine l_nil ?_
      (first | exact g_againi (ih (i + 1, S2) ⟨⟨by simp only; omega, by simp only; omega, by simp only; omega⟩, hS2, by simp only; omega, by simp only; omega, by simp only; omega⟩ (by simp only; omega)) (.cons rfl (.cons rfl (.cons rfl (.cons rfl (.nil))))) | exact g_againi (ih (i + 1, S) ⟨⟨by simp only; omega, by simp only; omega, by simp only; omega⟩, hS, by simp only; omega, by simp only; omega, by simp only; omega⟩ (by simp only; omega)) (.cons rfl (.cons rfl (.cons rfl (.cons rfl (.nil))))) | exact g_againi (ih (i + 1, ⟨S.p, S.m, S.N, S.C, S.la, S.lc, S.K, S.B, S.ka, S.kc⟩) ⟨⟨by simp only; omega, by simp only; omega, by simp only; omega⟩, hS.swap, by simp only; omega, by simp only; omega, by simp only; omega⟩ (by simp only; omega)) (.cons rfl (.cons rfl (.cons rfl (.cons rfl (.nil))))))
    intro hbr
    have hbr := of_decide_eq_false hbr
    refine g_seq ?_
    refine g_region ?_
    refine l_eql rfl rfl rfl ?_
    refine l_assign rfl rfl ?_
    refine l_nil ?_
    refine g_cond rfl ?_ ?_
    · intro hbr
      have hbr := of_decide_eq_true hbr
      refine g_skip ?_
      first | refine g_cond_t rfl ?_ | refine g_cond_t (congrArg (fun b => some (Value.bool b)) (decide_eq_true hbr)) ?_
      refine g_region ?_
      refine l_move rfl rfl ?_
      refine l_lds rfl Try.isAgg53 Try.sizeOf53 rfl rfl ?_
      refine l_take (BigF S.K (fun j => bkA (S.B j))) ?_
      refine l_take (Own 111 4 (.slice S.ka S.K S.kc) S.K (rowsN S.K (fun j => bkR (S.B j)))) ?_
      refine l_take (BigF S.N (fun j => chA (S.C j))) ?_
      refine l_take (Own 95 2 (.slice S.la S.N S.lc) S.N (rowsN S.N (fun j => chR (S.C j)))) ?_
      refine l_take (mpA S.p) ?_
      refine l_take (mpA S.m) ?_
      refine l_take (Blk wb (.cells [Value.pointer (some ⟨S.m.x, 0, none⟩), .pointer (some ⟨S.m.y, 0, none⟩), .pointer (some ⟨S.p.x, 0, none⟩), .pointer (some ⟨S.p.y, 0, none⟩), .slice S.la S.N S.lc, .slice S.ka S.K S.kc, .slice none 0 0].toArray 63 (0, 0))) ?_
      refine l_call rfl Try.call18 rfl (words_ok17 _ _ wb S hS (by omega) (by omega) kd hkd.1 hkd.2 who hwho.1 hwho.2 oa hoa.1 hoa.2 ob hob.1 hob.2 oq ox hox.1 hox.2 ga gc G (by omega) hRG.ex hGb sa sc Y (by omega) hRY.ex hYU) ?_; rintro _ _ ⟨S2, rfl, hS2, ⟨hN3, hN2, hK2⟩, rfl⟩
      refine l_assign rfl rfl ?_
      refine l_nil ?_
      refine g_inBlock ?_
      refine g_seq ?_
      refine g_region ?_
      refine l_move rfl rfl ?_
      refine l_not rfl rfl ?_
      refine l_nil ?_
      first | refine g_cond_f rfl ?_ | refine g_cond_f (congrArg (fun b => some (Value.bool b)) (decide_eq_false hbr)) ?_
      refine g_skip ?_
      refine g_inBlock ?_
      refine g_region ?_
      refine l_move rfl rfl ?_
      first | refine l_add rfl rfl rfl (w_i64 (by omega) (by omega)) ?_ | refine l_addw rfl rfl rfl ?_
      refine l_assign rfl rfl ?_
      refine l_nil ?_
      (first | exact g_againi (ih (i + 1, S2) ⟨⟨by simp only; omega, by simp only; omega, by simp only; omega⟩, hS2, by simp only; omega, by simp only; omega, by simp only; omega⟩ (by simp only; omega)) (.cons rfl (.cons rfl (.cons rfl (.cons rfl (.nil))))) | exact g_againi (ih (i + 1, S) ⟨⟨by simp only; omega, by simp only; omega, by simp only; omega⟩, hS, by simp only; omega, by simp only; omega, by simp only; omega⟩ (by simp only; omega)) (.cons rfl (.cons rfl (.cons rfl (.cons rfl (.nil))))) | exact g_againi (ih (i + 1, ⟨S.p, S.m, S.N, S.C, S.la, S.lc, S.K, S.B, S.ka, S.kc⟩) ⟨⟨by simp only; omega, by simp only; omega, by simp only; omega⟩, hS.swap, by simp only; omega, by simp only; omega, by simp only; omega⟩ (by simp only; omega)) (.cons rfl (.cons rfl (.cons rfl (.cons rfl (.nil))))))
    intro hbr
    have hbr := of_decide_eq_false hbr
    refine g_seq ?_
    refine g_region ?_
    refine l_eql rfl rfl rfl ?_
    refine l_assign rfl rfl ?_
    refine l_nil ?_
    refine g_cond rfl ?_ ?_
    · intro hbr
      have hbr := of_decide_eq_true hbr
      refine g_skip ?_
      first | refine g_cond_t rfl ?_ | refine g_cond_t (congrArg (fun b => some (Value.bool b)) (decide_eq_true hbr)) ?_
      refine g_region ?_
      refine l_move rfl rfl ?_
      refine l_lds rfl Try.isAgg53 Try.sizeOf53 rfl rfl ?_
      refine l_take (BigF S.K (fun j => bkA (S.B j))) ?_
      refine l_take (Own 111 4 (.slice S.ka S.K S.kc) S.K (rowsN S.K (fun j => bkR (S.B j)))) ?_
      refine l_take (BigF S.N (fun j => chA (S.C j))) ?_
      refine l_take (Own 95 2 (.slice S.la S.N S.lc) S.N (rowsN S.N (fun j => chR (S.C j)))) ?_
      refine l_take (mpA S.p) ?_
      refine l_take (mpA S.m) ?_
      refine l_take (Blk wb (.cells [Value.pointer (some ⟨S.m.x, 0, none⟩), .pointer (some ⟨S.m.y, 0, none⟩), .pointer (some ⟨S.p.x, 0, none⟩), .pointer (some ⟨S.p.y, 0, none⟩), .slice S.la S.N S.lc, .slice S.ka S.K S.kc, .slice none 0 0].toArray 63 (0, 0))) ?_
      refine l_call rfl Try.call18 rfl (words_ok17 _ _ wb S hS (by omega) (by omega) kd hkd.1 hkd.2 who hwho.1 hwho.2 oa hoa.1 hoa.2 ob hob.1 hob.2 oq ox hox.1 hox.2 ga gc G (by omega) hRG.ex hGb sa sc Y (by omega) hRY.ex hYU) ?_; rintro _ _ ⟨S2, rfl, hS2, ⟨hN3, hN2, hK2⟩, rfl⟩
      refine l_assign rfl rfl ?_
      refine l_nil ?_
      refine g_inBlock ?_
      refine g_seq ?_
      refine g_region ?_
      refine l_move rfl rfl ?_
      refine l_not rfl rfl ?_
      refine l_nil ?_
      first | refine g_cond_f rfl ?_ | refine g_cond_f (congrArg (fun b => some (Value.bool b)) (decide_eq_false hbr)) ?_
      refine g_skip ?_
      refine g_inBlock ?_
      refine g_region ?_
      refine l_move rfl rfl ?_
      first | refine l_add rfl rfl rfl (w_i64 (by omega) (by omega)) ?_ | refine l_addw rfl rfl rfl ?_
      refine l_assign rfl rfl ?_
      refine l_nil ?_
      (first | exact g_againi (ih (i + 1, S2) ⟨⟨by simp only; omega, by simp only; omega, by simp only; omega⟩, hS2, by simp only; omega, by simp only; omega, by simp only; omega⟩ (by simp only; omega)) (.cons rfl (.cons rfl (.cons rfl (.cons rfl (.nil))))) | exact g_againi (ih (i + 1, S) ⟨⟨by simp only; omega, by simp only; omega, by simp only; omega⟩, hS, by simp only; omega, by simp only; omega, by simp only; omega⟩ (by simp only; omega)) (.cons rfl (.cons rfl (.cons rfl (.cons rfl (.nil))))) | exact g_againi (ih (i + 1, ⟨S.p, S.m, S.N, S.C, S.la, S.lc, S.K, S.B, S.ka, S.kc⟩) ⟨⟨by simp only; omega, by simp only; omega, by simp only; omega⟩, hS.swap, by simp only; omega, by simp only; omega, by simp only; omega⟩ (by simp only; omega)) (.cons rfl (.cons rfl (.cons rfl (.cons rfl (.nil))))))
    intro hbr
    have hbr := of_decide_eq_false hbr
    refine g_seq ?_
    refine g_region ?_
    refine l_eql rfl rfl rfl ?_
    refine l_assign rfl rfl ?_
    refine l_nil ?_
    refine g_cond rfl ?_ ?_
    · intro hbr
      have hbr := of_decide_eq_true hbr
      refine g_skip ?_
      first | refine g_cond_t rfl ?_ | refine g_cond_t (congrArg (fun b => some (Value.bool b)) (decide_eq_true hbr)) ?_
      refine g_region ?_
      refine l_move rfl rfl ?_
      refine l_lds rfl Try.isAgg53 Try.sizeOf53 rfl rfl ?_
      refine l_take (BigF S.K (fun j => bkA (S.B j))) ?_
      refine l_take (Own 111 4 (.slice S.ka S.K S.kc) S.K (rowsN S.K (fun j => bkR (S.B j)))) ?_
      refine l_take (BigF S.N (fun j => chA (S.C j))) ?_
      refine l_take (Own 95 2 (.slice S.la S.N S.lc) S.N (rowsN S.N (fun j => chR (S.C j)))) ?_
      refine l_take (mpA S.p) ?_
      refine l_take (mpA S.m) ?_
      refine l_take (Blk wb (.cells [Value.pointer (some ⟨S.m.x, 0, none⟩), .pointer (some ⟨S.m.y, 0, none⟩), .pointer (some ⟨S.p.x, 0, none⟩), .pointer (some ⟨S.p.y, 0, none⟩), .slice S.la S.N S.lc, .slice S.ka S.K S.kc, .slice none 0 0].toArray 63 (0, 0))) ?_
      refine l_call rfl Try.call18 rfl (words_ok17 _ _ wb S hS (by omega) (by omega) kd hkd.1 hkd.2 who hwho.1 hwho.2 oa hoa.1 hoa.2 ob hob.1 hob.2 oq ox hox.1 hox.2 ga gc G (by omega) hRG.ex hGb sa sc Y (by omega) hRY.ex hYU) ?_; rintro _ _ ⟨S2, rfl, hS2, ⟨hN3, hN2, hK2⟩, rfl⟩
      refine l_assign rfl rfl ?_
      refine l_nil ?_
      refine g_inBlock ?_
      refine g_seq ?_
      refine g_region ?_
      refine l_move rfl rfl ?_
      refine l_not rfl rfl ?_
      refine l_nil ?_
      first | refine g_cond_f rfl ?_ | refine g_cond_f (congrArg (fun b => some (Value.bool b)) (decide_eq_false hbr)) ?_
      refine g_skip ?_
      refine g_inBlock ?_
      refine g_region ?_
      refine l_move rfl rfl ?_
      first | refine l_add rfl rfl rfl (w_i64 (by omega) (by omega)) ?_ | refine l_addw rfl rfl rfl ?_
      refine l_assign rfl rfl ?_
      refine l_nil ?_
      (first | exact g_againi (ih (i + 1, S2) ⟨⟨by simp only; omega, by simp only; omega, by simp only; omega⟩, hS2, by simp only; omega, by simp only; omega, by simp only; omega⟩ (by simp only; omega)) (.cons rfl (.cons rfl (.cons rfl (.cons rfl (.nil))))) | exact g_againi (ih (i + 1, S) ⟨⟨by simp only; omega, by simp only; omega, by simp only; omega⟩, hS, by simp only; omega, by simp only; omega, by simp only; omega⟩ (by simp only; omega)) (.cons rfl (.cons rfl (.cons rfl (.cons rfl (.nil))))) | exact g_againi (ih (i + 1, ⟨S.p, S.m, S.N, S.C, S.la, S.lc, S.K, S.B, S.ka, S.kc⟩) ⟨⟨by simp only; omega, by simp only; omega, by simp only; omega⟩, hS.swap, by simp only; omega, by simp only; omega, by simp only; omega⟩ (by simp only; omega)) (.cons rfl (.cons rfl (.cons rfl (.cons rfl (.nil))))))
    intro hbr
    have hbr := of_decide_eq_false hbr
    refine g_region ?_
    refine l_eql rfl rfl rfl ?_
    refine l_assign rfl rfl ?_
    refine l_nil ?_
    refine g_cond rfl ?_ ?_
    · intro hbr
      have hbr := of_decide_eq_true hbr
      refine g_region ?_
      refine l_move rfl rfl ?_
      refine l_lds rfl Try.isAgg53 Try.sizeOf53 rfl rfl ?_
      refine l_take (BigF S.K (fun j => bkA (S.B j))) ?_
      refine l_take (Own 111 4 (.slice S.ka S.K S.kc) S.K (rowsN S.K (fun j => bkR (S.B j)))) ?_
      refine l_take (BigF S.N (fun j => chA (S.C j))) ?_
      refine l_take (Own 95 2 (.slice S.la S.N S.lc) S.N (rowsN S.N (fun j => chR (S.C j)))) ?_
      refine l_take (mpA S.p) ?_
      refine l_take (mpA S.m) ?_
      refine l_take (Blk wb (.cells [Value.pointer (some ⟨S.m.x, 0, none⟩), .pointer (some ⟨S.m.y, 0, none⟩), .pointer (some ⟨S.p.x, 0, none⟩), .pointer (some ⟨S.p.y, 0, none⟩), .slice S.la S.N S.lc, .slice S.ka S.K S.kc, .slice none 0 0].toArray 63 (0, 0))) ?_
      refine l_call rfl Try.call18 rfl (words_ok17 _ _ wb S hS (by omega) (by omega) kd hkd.1 hkd.2 who hwho.1 hwho.2 oa hoa.1 hoa.2 ob hob.1 hob.2 oq ox hox.1 hox.2 ga gc G (by omega) hRG.ex hGb sa sc Y (by omega) hRY.ex hYU) ?_; rintro _ _ ⟨S2, rfl, hS2, ⟨hN3, hN2, hK2⟩, rfl⟩
      refine l_assign rfl rfl ?_
      refine l_nil ?_
      refine g_inBlock ?_
      refine g_seq ?_
      refine g_region ?_
      refine l_move rfl rfl ?_
      refine l_not rfl rfl ?_
      refine l_nil ?_
      first | refine g_cond_f rfl ?_ | refine g_cond_f (congrArg (fun b => some (Value.bool b)) (decide_eq_false hbr)) ?_
      refine g_skip ?_
      refine g_inBlock ?_
      refine g_region ?_
      refine l_move rfl rfl ?_
      first | refine l_add rfl rfl rfl (w_i64 (by omega) (by omega)) ?_ | refine l_addw rfl rfl rfl ?_
      refine l_assign rfl rfl ?_
      refine l_nil ?_
      (first | exact g_againi (ih (i + 1, S2) ⟨⟨by simp only; omega, by simp only; omega, by simp only; omega⟩, hS2, by simp only; omega, by simp only; omega, by simp only; omega⟩ (by simp only; omega)) (.cons rfl (.cons rfl (.cons rfl (.cons rfl (.nil))))) | exact g_againi (ih (i + 1, S) ⟨⟨by simp only; omega, by simp only; omega, by simp only; omega⟩, hS, by simp only; omega, by simp only; omega, by simp only; omega⟩ (by simp only; omega)) (.cons rfl (.cons rfl (.cons rfl (.cons rfl (.nil))))) | exact g_againi (ih (i + 1, ⟨S.p, S.m, S.N, S.C, S.la, S.lc, S.K, S.B, S.ka, S.kc⟩) ⟨⟨by simp only; omega, by simp only; omega, by simp only; omega⟩, hS.swap, by simp only; omega, by simp only; omega, by simp only; omega⟩ (by simp only; omega)) (.cons rfl (.cons rfl (.cons rfl (.cons rfl (.nil))))))
    intro hbr
    have hbr := of_decide_eq_false hbr
    refine g_seq ?_
    refine g_seq ?_
    refine g_region ?_
    refine l_eql rfl rfl rfl ?_
    refine l_assign rfl rfl ?_
    refine l_nil ?_
    refine g_cond rfl ?_ ?_
    · intro hbr
      have hbr := of_decide_eq_true hbr
      refine g_skip ?_
      first | refine g_cond_t rfl ?_ | refine g_cond_t (congrArg (fun b => some (Value.bool b)) (decide_eq_true hbr)) ?_
      refine g_region ?_
      refine l_move rfl rfl ?_
      refine l_lds rfl Try.isAgg53 Try.sizeOf53 rfl rfl ?_
      refine l_take (BigF S.K (fun j => bkA (S.B j))) ?_
      refine l_take (Own 111 4 (.slice S.ka S.K S.kc) S.K (rowsN S.K (fun j => bkR (S.B j)))) ?_
      refine l_take (BigF S.N (fun j => chA (S.C j))) ?_
      refine l_take (Own 95 2 (.slice S.la S.N S.lc) S.N (rowsN S.N (fun j => chR (S.C j)))) ?_
      refine l_take (mpA S.p) ?_
      refine l_take (mpA S.m) ?_
      refine l_take (Blk wb (.cells [Value.pointer (some ⟨S.m.x, 0, none⟩), .pointer (some ⟨S.m.y, 0, none⟩), .pointer (some ⟨S.p.x, 0, none⟩), .pointer (some ⟨S.p.y, 0, none⟩), .slice S.la S.N S.lc, .slice S.ka S.K S.kc, .slice none 0 0].toArray 63 (0, 0))) ?_
      refine l_call rfl Try.call19 rfl (makes_any _ _ wb S hS (by omega) (by omega) kd hkd.1 hkd.2 who hwho.1 hwho.2 oa hoa.1 hoa.2 ob hob.1 hob.2 oq ox hox.1 hox.2 ga gc G (by omega) hRG.ex hGb sa sc Y (by omega) hRY.ex hYU (.inl (by omega))) ?_; rintro _ _ ⟨S2, rfl, hS2, ⟨hN3, hN2, hK2⟩, rfl⟩
      refine l_assign rfl rfl ?_
      refine l_nil ?_
      refine g_inBlock ?_
      refine g_seq ?_
      refine g_region ?_
      refine l_move rfl rfl ?_
      refine l_not rfl rfl ?_
      refine l_nil ?_
      first | refine g_cond_f rfl ?_ | refine g_cond_f (congrArg (fun b => some (Value.bool b)) (decide_eq_false hbr)) ?_
      refine g_skip ?_
      refine g_inBlock ?_
      refine g_region ?_
      refine l_move rfl rfl ?_
      first | refine l_add rfl rfl rfl (w_i64 (by omega) (by omega)) ?_ | refine l_addw rfl rfl rfl ?_
      refine l_assign rfl rfl ?_
      refine l_nil ?_
      (first | exact g_againi (ih (i + 1, S2) ⟨⟨by simp only; omega, by simp only; omega, by simp only; omega⟩, hS2, by simp only; omega, by simp only; omega, by simp only; omega⟩ (by simp only; omega)) (.cons rfl (.cons rfl (.cons rfl (.cons rfl (.nil))))) | exact g_againi (ih (i + 1, S) ⟨⟨by simp only; omega, by simp only; omega, by simp only; omega⟩, hS, by simp only; omega, by simp only; omega, by simp only; omega⟩ (by simp only; omega)) (.cons rfl (.cons rfl (.cons rfl (.cons rfl (.nil))))) | exact g_againi (ih (i + 1, ⟨S.p, S.m, S.N, S.C, S.la, S.lc, S.K, S.B, S.ka, S.kc⟩) ⟨⟨by simp only; omega, by simp only; omega, by simp only; omega⟩, hS.swap, by simp only; omega, by simp only; omega, by simp only; omega⟩ (by simp only; omega)) (.cons rfl (.cons rfl (.cons rfl (.cons rfl (.nil))))))
    intro hbr
    have hbr := of_decide_eq_false hbr
    refine g_seq ?_
    refine g_region ?_
    refine l_eql rfl rfl rfl ?_
    refine l_assign rfl rfl ?_
    refine l_nil ?_
    refine g_cond rfl ?_ ?_
    · intro hbr
      have hbr := of_decide_eq_true hbr
      refine g_skip ?_
      first | refine g_cond_t rfl ?_ | refine g_cond_t (congrArg (fun b => some (Value.bool b)) (decide_eq_true hbr)) ?_
      refine g_region ?_
      refine l_move rfl rfl ?_
      refine l_lds rfl Try.isAgg53 Try.sizeOf53 rfl rfl ?_
      refine l_take (BigF S.K (fun j => bkA (S.B j))) ?_
      refine l_take (Own 111 4 (.slice S.ka S.K S.kc) S.K (rowsN S.K (fun j => bkR (S.B j)))) ?_
      refine l_take (BigF S.N (fun j => chA (S.C j))) ?_
      refine l_take (Own 95 2 (.slice S.la S.N S.lc) S.N (rowsN S.N (fun j => chR (S.C j)))) ?_
      refine l_take (mpA S.p) ?_
      refine l_take (mpA S.m) ?_
      refine l_take (Blk wb (.cells [Value.pointer (some ⟨S.m.x, 0, none⟩), .pointer (some ⟨S.m.y, 0, none⟩), .pointer (some ⟨S.p.x, 0, none⟩), .pointer (some ⟨S.p.y, 0, none⟩), .slice S.la S.N S.lc, .slice S.ka S.K S.kc, .slice none 0 0].toArray 63 (0, 0))) ?_
      refine l_call rfl Try.call19 rfl (makes_any _ _ wb S hS (by omega) (by omega) kd hkd.1 hkd.2 who hwho.1 hwho.2 oa hoa.1 hoa.2 ob hob.1 hob.2 oq ox hox.1 hox.2 ga gc G (by omega) hRG.ex hGb sa sc Y (by omega) hRY.ex hYU (.inl (by omega))) ?_; rintro _ _ ⟨S2, rfl, hS2, ⟨hN3, hN2, hK2⟩, rfl⟩
      refine l_assign rfl rfl ?_
      refine l_nil ?_
      refine g_inBlock ?_
      refine g_seq ?_
      refine g_region ?_
      refine l_move rfl rfl ?_
      refine l_not rfl rfl ?_
      refine l_nil ?_
      first | refine g_cond_f rfl ?_ | refine g_cond_f (congrArg (fun b => some (Value.bool b)) (decide_eq_false hbr)) ?_
      refine g_skip ?_
      refine g_inBlock ?_
      refine g_region ?_
      refine l_move rfl rfl ?_
      first | refine l_add rfl rfl rfl (w_i64 (by omega) (by omega)) ?_ | refine l_addw rfl rfl rfl ?_
      refine l_assign rfl rfl ?_
      refine l_nil ?_
      (first | exact g_againi (ih (i + 1, S2) ⟨⟨by simp only; omega, by simp only; omega, by simp only; omega⟩, hS2, by simp only; omega, by simp only; omega, by simp only; omega⟩ (by simp only; omega)) (.cons rfl (.cons rfl (.cons rfl (.cons rfl (.nil))))) | exact g_againi (ih (i + 1, S) ⟨⟨by simp only; omega, by simp only; omega, by simp only; omega⟩, hS, by simp only; omega, by simp only; omega, by simp only; omega⟩ (by simp only; omega)) (.cons rfl (.cons rfl (.cons rfl (.cons rfl (.nil))))) | exact g_againi (ih (i + 1, ⟨S.p, S.m, S.N, S.C, S.la, S.lc, S.K, S.B, S.ka, S.kc⟩) ⟨⟨by simp only; omega, by simp only; omega, by simp only; omega⟩, hS.swap, by simp only; omega, by simp only; omega, by simp only; omega⟩ (by simp only; omega)) (.cons rfl (.cons rfl (.cons rfl (.cons rfl (.nil))))))
    intro hbr
    have hbr := of_decide_eq_false hbr
    refine g_region ?_
    refine l_eql rfl rfl rfl ?_
    refine l_assign rfl rfl ?_
    refine l_nil ?_
    refine g_cond rfl ?_ ?_
    · intro hbr
      have hbr := of_decide_eq_true hbr
      refine g_region ?_
      refine l_move rfl rfl ?_
      refine l_lds rfl Try.isAgg53 Try.sizeOf53 rfl rfl ?_
      refine l_take (BigF S.K (fun j => bkA (S.B j))) ?_
      refine l_take (Own 111 4 (.slice S.ka S.K S.kc) S.K (rowsN S.K (fun j => bkR (S.B j)))) ?_
      refine l_take (BigF S.N (fun j => chA (S.C j))) ?_
      refine l_take (Own 95 2 (.slice S.la S.N S.lc) S.N (rowsN S.N (fun j => chR (S.C j)))) ?_
      refine l_take (mpA S.p) ?_
      refine l_take (mpA S.m) ?_
      refine l_take (Blk wb (.cells [Value.pointer (some ⟨S.m.x, 0, none⟩), .pointer (some ⟨S.m.y, 0, none⟩), .pointer (some ⟨S.p.x, 0, none⟩), .pointer (some ⟨S.p.y, 0, none⟩), .slice S.la S.N S.lc, .slice S.ka S.K S.kc, .slice none 0 0].toArray 63 (0, 0))) ?_
      refine l_call rfl Try.call19 rfl (makes_any _ _ wb S hS (by omega) (by omega) kd hkd.1 hkd.2 who hwho.1 hwho.2 oa hoa.1 hoa.2 ob hob.1 hob.2 oq ox hox.1 hox.2 ga gc G (by omega) hRG.ex hGb sa sc Y (by omega) hRY.ex hYU (.inl (by omega))) ?_; rintro _ _ ⟨S2, rfl, hS2, ⟨hN3, hN2, hK2⟩, rfl⟩
      refine l_assign rfl rfl ?_
      refine l_nil ?_
      refine g_inBlock ?_
      refine g_seq ?_
      refine g_region ?_
      refine l_move rfl rfl ?_
      refine l_not rfl rfl ?_
      refine l_nil ?_
      first | refine g_cond_f rfl ?_ | refine g_cond_f (congrArg (fun b => some (Value.bool b)) (decide_eq_false hbr)) ?_
      refine g_skip ?_
      refine g_inBlock ?_
      refine g_region ?_
      refine l_move rfl rfl ?_
      first | refine l_add rfl rfl rfl (w_i64 (by omega) (by omega)) ?_ | refine l_addw rfl rfl rfl ?_
      refine l_assign rfl rfl ?_
      refine l_nil ?_
      (first | exact g_againi (ih (i + 1, S2) ⟨⟨by simp only; omega, by simp only; omega, by simp only; omega⟩, hS2, by simp only; omega, by simp only; omega, by simp only; omega⟩ (by simp only; omega)) (.cons rfl (.cons rfl (.cons rfl (.cons rfl (.nil))))) | exact g_againi (ih (i + 1, S) ⟨⟨by simp only; omega, by simp only; omega, by simp only; omega⟩, hS, by simp only; omega, by simp only; omega, by simp only; omega⟩ (by simp only; omega)) (.cons rfl (.cons rfl (.cons rfl (.cons rfl (.nil))))) | exact g_againi (ih (i + 1, ⟨S.p, S.m, S.N, S.C, S.la, S.lc, S.K, S.B, S.ka, S.kc⟩) ⟨⟨by simp only; omega, by simp only; omega, by simp only; omega⟩, hS.swap, by simp only; omega, by simp only; omega, by simp only; omega⟩ (by simp only; omega)) (.cons rfl (.cons rfl (.cons rfl (.cons rfl (.nil))))))
    intro hbr
    have hbr := of_decide_eq_false hbr
    refine g_seq ?_
    refine g_seq ?_
    refine g_region ?_
    refine l_eql rfl rfl rfl ?_
    refine l_assign rfl rfl ?_
    refine l_nil ?_
    refine g_cond rfl ?_ ?_
    · intro hbr
      have hbr := of_decide_eq_true hbr
      refine g_skip ?_
      first | refine g_cond_t rfl ?_ | refine g_cond_t (congrArg (fun b => some (Value.bool b)) (decide_eq_true hbr)) ?_
      refine g_region ?_
      refine l_move rfl rfl ?_
      refine l_lds rfl Try.isAgg53 Try.sizeOf53 rfl rfl ?_
      refine l_take (BigF S.K (fun j => bkA (S.B j))) ?_
      refine l_take (Own 111 4 (.slice S.ka S.K S.kc) S.K (rowsN S.K (fun j => bkR (S.B j)))) ?_
      refine l_take (BigF S.N (fun j => chA (S.C j))) ?_
      refine l_take (Own 95 2 (.slice S.la S.N S.lc) S.N (rowsN S.N (fun j => chR (S.C j)))) ?_
      refine l_take (mpA S.p) ?_
      refine l_take (mpA S.m) ?_
      refine l_take (Blk wb (.cells [Value.pointer (some ⟨S.m.x, 0, none⟩), .pointer (some ⟨S.m.y, 0, none⟩), .pointer (some ⟨S.p.x, 0, none⟩), .pointer (some ⟨S.p.y, 0, none⟩), .slice S.la S.N S.lc, .slice S.ka S.K S.kc, .slice none 0 0].toArray 63 (0, 0))) ?_
      refine l_call rfl Try.call20 rfl (does_ok17 _ _ wb S hS (by omega) (by omega) (by omega) kd hkd.1 hkd.2 who hwho.1 hwho.2 oa hoa.1 hoa.2 ob hob.1 hob.2 oq ox hox.1 hox.2 ga gc G (by omega) hRG.ex hGb sa sc Y (by omega) hRY.ex hYU) ?_; rintro _ _ ⟨S2, rfl, hS2, ⟨hN3, hN2, hK2⟩, rfl⟩
      refine l_assign rfl rfl ?_
      refine l_nil ?_
      refine g_inBlock ?_
      refine g_seq ?_
      refine g_region ?_
      refine l_move rfl rfl ?_
      refine l_not rfl rfl ?_
      refine l_nil ?_
      first | refine g_cond_f rfl ?_ | refine g_cond_f (congrArg (fun b => some (Value.bool b)) (decide_eq_false hbr)) ?_
      refine g_skip ?_
      refine g_inBlock ?_
      refine g_region ?_
      refine l_move rfl rfl ?_
      first | refine l_add rfl rfl rfl (w_i64 (by omega) (by omega)) ?_ | refine l_addw rfl rfl rfl ?_
      refine l_assign rfl rfl ?_
      refine l_nil ?_
      (first | exact g_againi (ih (i + 1, S2) ⟨⟨by simp only; omega, by simp only; omega, by simp only; omega⟩, hS2, by simp only; omega, by simp only; omega, by simp only; omega⟩ (by simp only; omega)) (.cons rfl (.cons rfl (.cons rfl (.cons rfl (.nil))))) | exact g_againi (ih (i + 1, S) ⟨⟨by simp only; omega, by simp only; omega, by simp only; omega⟩, hS, by simp only; omega, by simp only; omega, by simp only; omega⟩ (by simp only; omega)) (.cons rfl (.cons rfl (.cons rfl (.cons rfl (.nil))))) | exact g_againi (ih (i + 1, ⟨S.p, S.m, S.N, S.C, S.la, S.lc, S.K, S.B, S.ka, S.kc⟩) ⟨⟨by simp only; omega, by simp only; omega, by simp only; omega⟩, hS.swap, by simp only; omega, by simp only; omega, by simp only; omega⟩ (by simp only; omega)) (.cons rfl (.cons rfl (.cons rfl (.cons rfl (.nil))))))
    intro hbr
    have hbr := of_decide_eq_false hbr
    refine g_seq ?_
    refine g_region ?_
    refine l_eql rfl rfl rfl ?_
    refine l_assign rfl rfl ?_
    refine l_nil ?_
    refine g_cond rfl ?_ ?_
    · intro hbr
      have hbr := of_decide_eq_true hbr
      refine g_skip ?_
      first | refine g_cond_t rfl ?_ | refine g_cond_t (congrArg (fun b => some (Value.bool b)) (decide_eq_true hbr)) ?_
      refine g_region ?_
      refine l_move rfl rfl ?_
      refine l_lds rfl Try.isAgg53 Try.sizeOf53 rfl rfl ?_
      refine l_take (BigF S.K (fun j => bkA (S.B j))) ?_
      refine l_take (Own 111 4 (.slice S.ka S.K S.kc) S.K (rowsN S.K (fun j => bkR (S.B j)))) ?_
      refine l_take (BigF S.N (fun j => chA (S.C j))) ?_
      refine l_take (Own 95 2 (.slice S.la S.N S.lc) S.N (rowsN S.N (fun j => chR (S.C j)))) ?_
      refine l_take (mpA S.p) ?_
      refine l_take (mpA S.m) ?_
      refine l_take (Blk wb (.cells [Value.pointer (some ⟨S.m.x, 0, none⟩), .pointer (some ⟨S.m.y, 0, none⟩), .pointer (some ⟨S.p.x, 0, none⟩), .pointer (some ⟨S.p.y, 0, none⟩), .slice S.la S.N S.lc, .slice S.ka S.K S.kc, .slice none 0 0].toArray 63 (0, 0))) ?_
      refine l_call rfl Try.call20 rfl (does_ok17 _ _ wb S hS (by omega) (by omega) (by omega) kd hkd.1 hkd.2 who hwho.1 hwho.2 oa hoa.1 hoa.2 ob hob.1 hob.2 oq ox hox.1 hox.2 ga gc G (by omega) hRG.ex hGb sa sc Y (by omega) hRY.ex hYU) ?_; rintro _ _ ⟨S2, rfl, hS2, ⟨hN3, hN2, hK2⟩, rfl⟩
      refine l_assign rfl rfl ?_
      refine l_nil ?_
      refine g_inBlock ?_
      refine g_seq ?_
      refine g_region ?_
      refine l_move rfl rfl ?_
      refine l_not rfl rfl ?_
      refine l_nil ?_
      first | refine g_cond_f rfl ?_ | refine g_cond_f (congrArg (fun b => some (Value.bool b)) (decide_eq_false hbr)) ?_
      refine g_skip ?_
      refine g_inBlock ?_
      refine g_region ?_
      refine l_move rfl rfl ?_
      first | refine l_add rfl rfl rfl (w_i64 (by omega) (by omega)) ?_ | refine l_addw rfl rfl rfl ?_
      refine l_assign rfl rfl ?_
      refine l_nil ?_
      (first | exact g_againi (ih (i + 1, S2) ⟨⟨by simp only; omega, by simp only; omega, by simp only; omega⟩, hS2, by simp only; omega, by simp only; omega, by simp only; omega⟩ (by simp only; omega)) (.cons rfl (.cons rfl (.cons rfl (.cons rfl (.nil))))) | exact g_againi (ih (i + 1, S) ⟨⟨by simp only; omega, by simp only; omega, by simp only; omega⟩, hS, by simp only; omega, by simp only; omega, by simp only; omega⟩ (by simp only; omega)) (.cons rfl (.cons rfl (.cons rfl (.cons rfl (.nil))))) | exact g_againi (ih (i + 1, ⟨S.p, S.m, S.N, S.C, S.la, S.lc, S.K, S.B, S.ka, S.kc⟩) ⟨⟨by simp only; omega, by simp only; omega, by simp only; omega⟩, hS.swap, by simp only; omega, by simp only; omega, by simp only; omega⟩ (by simp only; omega)) (.cons rfl (.cons rfl (.cons rfl (.cons rfl (.nil))))))
    intro hbr
    have hbr := of_decide_eq_false hbr
    refine g_region ?_
    refine l_eql rfl rfl rfl ?_
    refine l_assign rfl rfl ?_
    refine l_nil ?_
    refine g_cond rfl ?_ ?_
    · intro hbr
      have hbr := of_decide_eq_true hbr
      refine g_region ?_
      refine l_move rfl rfl ?_
      refine l_lds rfl Try.isAgg53 Try.sizeOf53 rfl rfl ?_
      refine l_take (BigF S.K (fun j => bkA (S.B j))) ?_
      refine l_take (Own 111 4 (.slice S.ka S.K S.kc) S.K (rowsN S.K (fun j => bkR (S.B j)))) ?_
      refine l_take (BigF S.N (fun j => chA (S.C j))) ?_
      refine l_take (Own 95 2 (.slice S.la S.N S.lc) S.N (rowsN S.N (fun j => chR (S.C j)))) ?_
      refine l_take (mpA S.p) ?_
      refine l_take (mpA S.m) ?_
      refine l_take (Blk wb (.cells [Value.pointer (some ⟨S.m.x, 0, none⟩), .pointer (some ⟨S.m.y, 0, none⟩), .pointer (some ⟨S.p.x, 0, none⟩), .pointer (some ⟨S.p.y, 0, none⟩), .slice S.la S.N S.lc, .slice S.ka S.K S.kc, .slice none 0 0].toArray 63 (0, 0))) ?_
      refine l_call rfl Try.call20 rfl (does_ok17 _ _ wb S hS (by omega) (by omega) (by omega) kd hkd.1 hkd.2 who hwho.1 hwho.2 oa hoa.1 hoa.2 ob hob.1 hob.2 oq ox hox.1 hox.2 ga gc G (by omega) hRG.ex hGb sa sc Y (by omega) hRY.ex hYU) ?_; rintro _ _ ⟨S2, rfl, hS2, ⟨hN3, hN2, hK2⟩, rfl⟩
      refine l_assign rfl rfl ?_
      refine l_nil ?_
      refine g_inBlock ?_
      refine g_seq ?_
      refine g_region ?_
      refine l_move rfl rfl ?_
      refine l_not rfl rfl ?_
      refine l_nil ?_
      first | refine g_cond_f rfl ?_ | refine g_cond_f (congrArg (fun b => some (Value.bool b)) (decide_eq_false hbr)) ?_
      refine g_skip ?_
      refine g_inBlock ?_
      refine g_region ?_
      refine l_move rfl rfl ?_
      first | refine l_add rfl rfl rfl (w_i64 (by omega) (by omega)) ?_ | refine l_addw rfl rfl rfl ?_
      refine l_assign rfl rfl ?_
      refine l_nil ?_
      (first | exact g_againi (ih (i + 1, S2) ⟨⟨by simp only; omega, by simp only; omega, by simp only; omega⟩, hS2, by simp only; omega, by simp only; omega, by simp only; omega⟩ (by simp only; omega)) (.cons rfl (.cons rfl (.cons rfl (.cons rfl (.nil))))) | exact g_againi (ih (i + 1, S) ⟨⟨by simp only; omega, by simp only; omega, by simp only; omega⟩, hS, by simp only; omega, by simp only; omega, by simp only; omega⟩ (by simp only; omega)) (.cons rfl (.cons rfl (.cons rfl (.cons rfl (.nil))))) | exact g_againi (ih (i + 1, ⟨S.p, S.m, S.N, S.C, S.la, S.lc, S.K, S.B, S.ka, S.kc⟩) ⟨⟨by simp only; omega, by simp only; omega, by simp only; omega⟩, hS.swap, by simp only; omega, by simp only; omega, by simp only; omega⟩ (by simp only; omega)) (.cons rfl (.cons rfl (.cons rfl (.cons rfl (.nil))))))
    intro hbr
    have hbr := of_decide_eq_false hbr
    refine g_seq ?_
    refine g_region ?_
    refine l_eql rfl rfl rfl ?_
    refine l_assign rfl rfl ?_
    refine l_nil ?_
    refine g_cond rfl ?_ ?_
    · intro hbr
      have hbr := of_decide_eq_true hbr
      refine g_region ?_
      refine l_move rfl rfl ?_
      refine l_take (BigF S.K (fun j => bkA (S.B j))) ?_
      refine l_take (Own 111 4 (.slice S.ka S.K S.kc) S.K (rowsN S.K (fun j => bkR (S.B j)))) ?_
      refine l_take (BigF S.N (fun j => chA (S.C j))) ?_
      refine l_take (Own 95 2 (.slice S.la S.N S.lc) S.N (rowsN S.N (fun j => chR (S.C j)))) ?_
      refine l_take (mpA S.p) ?_
      refine l_take (mpA S.m) ?_
      refine l_take (Blk wb (.cells [Value.pointer (some ⟨S.m.x, 0, none⟩), .pointer (some ⟨S.m.y, 0, none⟩), .pointer (some ⟨S.p.x, 0, none⟩), .pointer (some ⟨S.p.y, 0, none⟩), .slice S.la S.N S.lc, .slice S.ka S.K S.kc, .slice none 0 0].toArray 63 (0, 0))) ?_
      refine l_call rfl Try.call21 rfl (nobody_ok _ _ wb S) ?_; rintro _ _ ⟨rfl, rfl⟩
      refine l_assign rfl rfl ?_
      refine l_nil ?_
      refine g_inBlock ?_
      refine g_seq ?_
      refine g_region ?_
      refine l_move rfl rfl ?_
      refine l_not rfl rfl ?_
      refine l_nil ?_
      first | refine g_cond_f rfl ?_ | refine g_cond_f (congrArg (fun b => some (Value.bool b)) (decide_eq_false hbr)) ?_
      refine g_skip ?_
      refine g_inBlock ?_
      refine g_region ?_
      refine l_move rfl rfl ?_
      first | refine l_add rfl rfl rfl (w_i64 (by omega) (by omega)) ?_ | refine l_addw rfl rfl rfl ?_
      refine l_assign rfl rfl ?_
      refine l_nil ?_
      (first | exact g_againi (ih (i + 1, S2) ⟨⟨by simp only; omega, by simp only; omega, by simp only; omega⟩, hS2, by simp only; omega, by simp only; omega, by simp only; omega⟩ (by simp only; omega)) (.cons rfl (.cons rfl (.cons rfl (.cons rfl (.nil))))) | exact g_againi (ih (i + 1, S) ⟨⟨by simp only; omega, by simp only; omega, by simp only; omega⟩, hS, by simp only; omega, by simp only; omega, by simp only; omega⟩ (by simp only; omega)) (.cons rfl (.cons rfl (.cons rfl (.cons rfl (.nil))))) | exact g_againi (ih (i + 1, ⟨S.p, S.m, S.N, S.C, S.la, S.lc, S.K, S.B, S.ka, S.kc⟩) ⟨⟨by simp only; omega, by simp only; omega, by simp only; omega⟩, hS.swap, by simp only; omega, by simp only; omega, by simp only; omega⟩ (by simp only; omega)) (.cons rfl (.cons rfl (.cons rfl (.cons rfl (.nil))))))
    intro hbr
    have hbr := of_decide_eq_false hbr
    refine g_seq ?_
    refine g_region ?_
    refine l_eql rfl rfl rfl ?_
    refine l_assign rfl rfl ?_
    refine l_nil ?_
    refine g_cond rfl ?_ ?_
    · intro hbr
      have hbr := of_decide_eq_true hbr
      refine g_region ?_
      refine l_move rfl rfl ?_
      refine l_take (BigF S.K (fun j => bkA (S.B j))) ?_
      refine l_take (Own 111 4 (.slice S.ka S.K S.kc) S.K (rowsN S.K (fun j => bkR (S.B j)))) ?_
      refine l_take (BigF S.N (fun j => chA (S.C j))) ?_
      refine l_take (Own 95 2 (.slice S.la S.N S.lc) S.N (rowsN S.N (fun j => chR (S.C j)))) ?_
      refine l_take (mpA S.p) ?_
      refine l_take (mpA S.m) ?_
      refine l_take (Blk wb (.cells [Value.pointer (some ⟨S.m.x, 0, none⟩), .pointer (some ⟨S.m.y, 0, none⟩), .pointer (some ⟨S.p.x, 0, none⟩), .pointer (some ⟨S.p.y, 0, none⟩), .slice S.la S.N S.lc, .slice S.ka S.K S.kc, .slice none 0 0].toArray 63 (0, 0))) ?_
      refine l_call rfl Try.call22 rfl (swap_ok _ _ wb S) ?_; rintro _ _ rfl
      refine l_nil ?_
      refine g_inBlock ?_
      refine g_seq ?_
      refine g_region ?_
      refine l_move rfl rfl ?_
      refine l_not rfl rfl ?_
      refine l_nil ?_
      first | refine g_cond_f rfl ?_ | refine g_cond_f (congrArg (fun b => some (Value.bool b)) (decide_eq_false hbr)) ?_
      refine g_skip ?_
      refine g_inBlock ?_
      refine g_region ?_
      refine l_move rfl rfl ?_
      first | refine l_add rfl rfl rfl (w_i64 (by omega) (by omega)) ?_ | refine l_addw rfl rfl rfl ?_
      refine l_assign rfl rfl ?_
      refine l_nil ?_
      (first | exact g_againi (ih (i + 1, S2) ⟨⟨by simp only; omega, by simp only; omega, by simp only; omega⟩, hS2, by simp only; omega, by simp only; omega, by simp only; omega⟩ (by simp only; omega)) (.cons rfl (.cons rfl (.cons rfl (.cons rfl (.nil))))) | exact g_againi (ih (i + 1, S) ⟨⟨by simp only; omega, by simp only; omega, by simp only; omega⟩, hS, by simp only; omega, by simp only; omega, by simp only; omega⟩ (by simp only; omega)) (.cons rfl (.cons rfl (.cons rfl (.cons rfl (.nil))))) | exact g_againi (ih (i + 1, ⟨S.p, S.m, S.N, S.C, S.la, S.lc, S.K, S.B, S.ka, S.kc⟩) ⟨⟨by simp only; omega, by simp only; omega, by simp only; omega⟩, hS.swap, by simp only; omega, by simp only; omega, by simp only; omega⟩ (by simp only; omega)) (.cons rfl (.cons rfl (.cons rfl (.cons rfl (.nil))))))
    intro hbr
    have hbr := of_decide_eq_false hbr
    refine g_skip ?_
    refine g_inBlock ?_
    refine g_seq ?_
    refine g_region ?_
    refine l_move rfl rfl ?_
    refine l_not rfl rfl ?_
    refine l_nil ?_
    first | refine g_cond_f rfl ?_ | refine g_cond_f (congrArg (fun b => some (Value.bool b)) (decide_eq_false hbr)) ?_
    refine g_skip ?_
    refine g_inBlock ?_
    refine g_region ?_
    refine l_move rfl rfl ?_
    first | refine l_add rfl rfl rfl (w_i64 (by omega) (by omega)) ?_ | refine l_addw rfl rfl rfl ?_
    refine l_assign rfl rfl ?_
    refine l_nil ?_
    (first | exact g_againi (ih (i + 1, S2) ⟨⟨by simp only; omega, by simp only; omega, by simp only; omega⟩, hS2, by simp only; omega, by simp only; omega, by simp only; omega⟩ (by simp only; omega)) (.cons rfl (.cons rfl (.cons rfl (.cons rfl (.nil))))) | exact g_againi (ih (i + 1, S) ⟨⟨by simp only; omega, by simp only; omega, by simp only; omega⟩, hS, by simp only; omega, by simp only; omega, by simp only; omega⟩ (by simp only; omega)) (.cons rfl (.cons rfl (.cons rfl (.cons rfl (.nil))))) | exact g_againi (ih (i + 1, ⟨S.p, S.m, S.N, S.C, S.la, S.lc, S.K, S.B, S.ka, S.kc⟩) ⟨⟨by simp only; omega, by simp only; omega, by simp only; omega⟩, hS.swap, by simp only; omega, by simp only; omega, by simp only; omega⟩ (by simp only; omega)) (.cons rfl (.cons rfl (.cons rfl (.cons rfl (.nil))))))
  intro hbr
  have hbr := of_decide_eq_false hbr
  refine g_exit rfl ?_
  refine g_seq ?_
  refine g_region ?_
  refine l_take (mpA S.p) ?_
  refine l_openm ?_
  refine l_take (mpA S.m) ?_
  refine l_openm ?_
  refine l_move rfl rfl ?_
  refine l_nilCheck rfl rfl ?_
  refine l_fieldAddr rfl fa_63_0 rfl ?_
  refine l_ld rfl Try.isAgg24 rfl rfl ?_
  refine l_take (Own 51 1 (.slice (some ⟨S.m.g, 0, none⟩) 32 S.m.c) 32 (ints .u32 S.m.W)) ?_
  refine l_take (Blk S.m.x (.cells [Value.slice (some ⟨S.m.g, 0, none⟩) 32 S.m.c].toArray 81 (0, 0))) ?_
  refine l_call rfl Try.call23 rfl (words_ok _ _ S.m.x S.m.g 32 S.m.c S.m.W hS.hm.len hS.hm.hc (by omega)) ?_; rintro _ _ ⟨q1, cq1, rfl, hcq1, rfl⟩
  refine l_assign rfl rfl ?_
  refine l_nil ?_
  refine g_seq ?_
  refine g_region ?_
  refine l_move rfl rfl ?_
  refine l_nilCheck rfl rfl ?_
  refine l_fieldAddr rfl fa_63_2 rfl ?_
  refine l_ld rfl Try.isAgg24 rfl rfl ?_
  refine l_take (Own 51 1 (.slice (some ⟨S.p.g, 0, none⟩) 32 S.p.c) 32 (ints .u32 S.p.W)) ?_
  refine l_take (Blk S.p.x (.cells [Value.slice (some ⟨S.p.g, 0, none⟩) 32 S.p.c].toArray 81 (0, 0))) ?_
  refine l_call rfl Try.call23 rfl (words_ok _ _ S.p.x S.p.g 32 S.p.c S.p.W hS.hp.len hS.hp.hc (by omega)) ?_; rintro _ _ ⟨q2, cq2, rfl, hcq2, rfl⟩
  refine l_assign rfl rfl ?_
  refine l_nil ?_
  refine g_seq ?_
  refine g_region ?_
  refine l_move rfl rfl ?_
  refine l_move rfl rfl ?_
  refine l_nilCheck rfl rfl ?_
  refine l_fieldAddr rfl fa_63_1 rfl ?_
  refine l_ld rfl Try.isAgg56 rfl rfl ?_
  refine l_nilCheck rfl rfl ?_
  refine l_fieldAddr rfl fa_67_0 rfl ?_
  refine l_ld rfl Try.isAgg38 rfl rfl ?_
  refine l_call rfl Try.call24 rfl (samew_ok _ _ (some ⟨q1, 0, none⟩) (some ⟨S.m.h, 0, none⟩) 32 cq1 S.m.d S.m.W (IR.own hS.hm.len (by first | exact mem_getO 0 rfl | exact mem_getO 1 rfl | exact mem_getO 2 rfl | exact mem_getO 3 rfl | exact mem_getO 4 rfl | exact mem_getO 5 rfl | exact mem_getO 6 rfl | exact mem_getO 7 rfl | exact mem_getO 8 rfl | exact mem_getO 9 rfl | exact mem_getO 10 rfl | exact mem_getO 11 rfl | exact mem_getO 12 rfl | exact mem_getO 13 rfl | exact mem_getO 14 rfl | exact mem_getO 15 rfl | exact mem_getO 16 rfl | exact mem_getO 17 rfl | exact mem_getO 18 rfl | exact mem_getO 19 rfl | exact mem_getO 20 rfl | exact mem_getO 21 rfl) (.inr ⟨_, rfl⟩)) (IR.own hS.hm.len (by first | exact mem_getO 0 rfl | exact mem_getO 1 rfl | exact mem_getO 2 rfl | exact mem_getO 3 rfl | exact mem_getO 4 rfl | exact mem_getO 5 rfl | exact mem_getO 6 rfl | exact mem_getO 7 rfl | exact mem_getO 8 rfl | exact mem_getO 9 rfl | exact mem_getO 10 rfl | exact mem_getO 11 rfl | exact mem_getO 12 rfl | exact mem_getO 13 rfl | exact mem_getO 14 rfl | exact mem_getO 15 rfl | exact mem_getO 16 rfl | exact mem_getO 17 rfl | exact mem_getO 18 rfl | exact mem_getO 19 rfl | exact mem_getO 20 rfl | exact mem_getO 21 rfl) (.inr ⟨_, rfl⟩)) hS.hm.u (by omega)) ?_; rintro _ _ ⟨rfl, rfl⟩
  refine l_move rfl rfl ?_
  refine l_guard_yes rfl rfl ?_
  refine l_move rfl rfl ?_
  refine l_guard_yes rfl rfl ?_
  refine l_move rfl rfl ?_
  refine l_guard_yes rfl rfl ?_
  refine l_nilCheck rfl rfl ?_
  refine l_guard_yes rfl rfl ?_
  refine l_fieldAddr rfl fa_63_3 rfl ?_
  refine l_guard_yes rfl rfl ?_
  refine l_ld rfl Try.isAgg56 rfl rfl ?_
  refine l_guard_yes rfl rfl ?_
  refine l_nilCheck rfl rfl ?_
  refine l_guard_yes rfl rfl ?_
  refine l_fieldAddr rfl fa_67_0 rfl ?_
  refine l_guard_yes rfl rfl ?_
  refine l_ld rfl Try.isAgg38 rfl rfl ?_
  refine l_guard_yes rfl rfl ?_
  refine l_call rfl Try.call24 rfl (samew_ok _ _ (some ⟨q2, 0, none⟩) (some ⟨S.p.h, 0, none⟩) 32 cq2 S.p.d S.p.W (IR.own hS.hp.len (by first | exact mem_getO 0 rfl | exact mem_getO 1 rfl | exact mem_getO 2 rfl | exact mem_getO 3 rfl | exact mem_getO 4 rfl | exact mem_getO 5 rfl | exact mem_getO 6 rfl | exact mem_getO 7 rfl | exact mem_getO 8 rfl | exact mem_getO 9 rfl | exact mem_getO 10 rfl | exact mem_getO 11 rfl | exact mem_getO 12 rfl | exact mem_getO 13 rfl | exact mem_getO 14 rfl | exact mem_getO 15 rfl | exact mem_getO 16 rfl | exact mem_getO 17 rfl | exact mem_getO 18 rfl | exact mem_getO 19 rfl | exact mem_getO 20 rfl | exact mem_getO 21 rfl) (.inr ⟨_, rfl⟩)) (IR.own hS.hp.len (by first | exact mem_getO 0 rfl | exact mem_getO 1 rfl | exact mem_getO 2 rfl | exact mem_getO 3 rfl | exact mem_getO 4 rfl | exact mem_getO 5 rfl | exact mem_getO 6 rfl | exact mem_getO 7 rfl | exact mem_getO 8 rfl | exact mem_getO 9 rfl | exact mem_getO 10 rfl | exact mem_getO 11 rfl | exact mem_getO 12 rfl | exact mem_getO 13 rfl | exact mem_getO 14 rfl | exact mem_getO 15 rfl | exact mem_getO 16 rfl | exact mem_getO 17 rfl | exact mem_getO 18 rfl | exact mem_getO 19 rfl | exact mem_getO 20 rfl | exact mem_getO 21 rfl) (.inr ⟨_, rfl⟩)) hS.hp.u (by omega)) ?_; rintro _ _ ⟨rfl, rfl⟩
  refine l_pick_t rfl rfl rfl ?_
  refine l_move rfl rfl ?_
  refine l_guard_yes rfl rfl ?_
  refine l_move rfl rfl ?_
  refine l_guard_yes rfl rfl ?_
  refine l_nilCheck rfl rfl ?_
  refine l_guard_yes rfl rfl ?_
  refine l_fieldAddr rfl fa_63_5 rfl ?_
  refine l_guard_yes rfl rfl ?_
  refine l_take (BigF S.K (fun j => bkA (S.B j))) ?_
  refine l_take (Own 111 4 (.slice S.ka S.K S.kc) S.K (rowsN S.K (fun j => bkR (S.B j)))) ?_
  refine l_take (Blk wb (.cells [Value.pointer (some ⟨S.m.x, 0, none⟩), .pointer (some ⟨S.m.y, 0, none⟩), .pointer (some ⟨S.p.x, 0, none⟩), .pointer (some ⟨S.p.y, 0, none⟩), .slice S.la S.N S.lc, .slice S.ka S.K S.kc, .slice none 0 0].toArray 63 (0, 0))) ?_
  refine l_call rfl Try.call25 rfl (settled_ok _ _ wb _ _ _ _ _ S.ka S.K S.kc S.B hS.hB (by omega) hS.hka) ?_; rintro _ _ ⟨rfl, rfl⟩
  refine l_pick_t rfl rfl rfl ?_
  refine l_assign rfl rfl ?_
  refine l_nil ?_
  refine g_ret Try.func5 rfl (.tmp rfl .nil) ?_
  exact Gives.mki ⟨(by first | rfl | (simp [resVal]; done)), rfl⟩
theorem exact_all (W : World) (a0 : Option Addr) (n0 c0 : Nat) (rows : List (List Value)) (hc0 : n0 ≤ c0) (hm0 : c0 ≤ maxLen) (hl0 : rows.length = n0) (hv0 : ∀ r ∈ rows, r.length = 8 ∧ Viz Try.prog W 53 r)
    (hr0 : (n0 = 0 ∧ (a0 = none → c0 = 0)) ∨ ∃ b o, a0 = some ⟨b, o, none⟩ ∧ ∀ (j : Nat) u, rows.flatten[j]? = some u → W.cell? ⟨b, o + j, none⟩ = some u) :
    CallK Try.prog 5 [.slice a0 n0 c0] W [Old W] (Gives W fun v F2 => v = .bool true ∧ F2 = [Old W]) := by
  simp only [maxLen] at hm0
  obtain ⟨L, hL, hLok⟩ := rows_choose (f := opRow) (R := OpOk W [Old W]) (rows := rows) (fun r hr => viz_op (hv0 r hr).2)
  subst hL
  refine exact_ok W [Old W] a0 n0 c0 L (by simpa using hl0) (by omega) ?_ hLok
  rcases hr0 with ⟨h, _⟩ | ⟨b, o, h, hr⟩
  · exact .inl h
  · exact .inr ⟨b, o, h, RowAt.old (by simp) hr⟩
end Go.Proofs.Ythemlddepepekaa.Fw
