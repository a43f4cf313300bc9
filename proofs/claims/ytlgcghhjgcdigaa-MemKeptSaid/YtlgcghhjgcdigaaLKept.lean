import Derived.Test.YtlgcghhjgcdigaaKept
namespace Go.Proofs.Ytlgcghhjgcdigaa.Fw
open Go Go.Proofs
set_option linter.unusedVariables false
set_option linter.unusedSimpArgs false
set_option maxRecDepth 10000

theorem vis_s58 {w : World} {r : List Value} (h : Vis Try.prog w 58 r) : ∃ (x0 : Int) (x1 : Int) (x2 : Int) (x3 : Int) (x4 : Int) (x5 : Option Addr) (n5 c5 : Nat) (X5 : List Int), r = [.int .i64 x0, .int .i64 x1, .int .i64 x2, .int .i64 x3, .int .u32 x4, .slice x5 n5 c5] ∧ (Lit.int .i64 x0).wf = true ∧ (Lit.int .i64 x1).wf = true ∧ (Lit.int .i64 x2).wf = true ∧ (Lit.int .i64 x3).wf = true ∧ (Lit.int .u32 x4).wf = true ∧ n5 ≤ c5 ∧ c5 ≤ maxLen ∧ X5.length = n5 ∧ (∀ x ∈ X5, (Lit.int .u32 x).wf = true) ∧ ((n5 = 0 ∧ (x5 = none → c5 = 0)) ∨ ∃ b o, x5 = some ⟨b, o, none⟩ ∧ ∀ (j : Nat) u, (ints .u32 X5)[j]? = some u → w.cell? ⟨b, o + j, none⟩ = some u) := by
  obtain ⟨hl, hf⟩ := vis_struct Try.underlying58 h
  have hc : Try.prog.cellsOf 58 = 6 := by kernel_rfl
  have c23 : Try.prog.cellsOf 23 = 1 := by kernel_rfl
  have c3 : Try.prog.cellsOf 3 = 1 := by kernel_rfl
  have c30 : Try.prog.cellsOf 30 = 1 := by kernel_rfl
  match r, hl.trans hc with
  | [z0, z1, z2, z3, z4, z5], _ =>
    obtain ⟨x0, e0, w0⟩ := vis_int Try.underlying3 (hf 0 _ rfl)
    obtain ⟨x1, e1, w1⟩ := vis_int Try.underlying3 (hf 1 _ rfl)
    obtain ⟨x2, e2, w2⟩ := vis_int Try.underlying3 (hf 2 _ rfl)
    obtain ⟨x3, e3, w3⟩ := vis_int Try.underlying3 (hf 3 _ rfl)
    obtain ⟨x4, e4, w4⟩ := vis_int Try.underlying30 (hf 4 _ rfl)
    obtain ⟨x5, n5, c5, X5, e5, w5⟩ := vis_ints Try.underlying23 Try.underlying30 (by kernel_rfl) (hf 5 _ rfl)
    simp [c23, c3, c30] at e0 e1 e2 e3 e4 e5
    subst e0 e1 e2 e3 e4 e5
    exact ⟨x0, x1, x2, x3, x4, x5, n5, c5, X5, rfl, w0, w1, w2, w3, w4, w5⟩
structure ActR where
  kd : Int
  a : Int
  b : Int
  c : Int
  w : Int
  sa : Option Addr
  sn : Nat
  sc : Nat
  Y : List Int
def actRow (r : ActR) : List Value := [.int .i64 r.kd, .int .i64 r.a, .int .i64 r.b, .int .i64 r.c, .int .u32 r.w, .slice r.sa r.sn r.sc]
structure ActOk (w0 : World) (F : List Atom) (r : ActR) : Prop where
  k : -9223372036854775808 ≤ r.kd ∧ r.kd ≤ 9223372036854775807
  a : -9223372036854775808 ≤ r.a ∧ r.a ≤ 9223372036854775807
  b : -9223372036854775808 ≤ r.b ∧ r.b ≤ 9223372036854775807
  c : -9223372036854775808 ≤ r.c ∧ r.c ≤ 9223372036854775807
  n : r.sn ≤ 9223372036854775807
  l : r.Y.length = r.sn
  y : r.sn = 0 ∨ ∃ b o, r.sa = some ⟨b, o, none⟩ ∧ RowAt w0 F b o (ints .u32 r.Y)
theorem act_at {w0 : World} {F : List Atom} {L : List ActR} (h : ∀ r ∈ L, ActOk w0 F r) {i : Nat} (hi : i < L.length) : ∃ r, (L.map actRow)[i]? = some (actRow r) ∧ ActOk w0 F r :=
  ⟨L[i], by simp [hi], h _ (List.getElem_mem _)⟩
theorem act_len (L : List ActR) : ∀ r ∈ L.map actRow, r.length = 6 := by
  intro r hr
  obtain ⟨o, _, rfl⟩ := List.mem_map.1 hr
  rfl
theorem lay_word {w0 : World} {F0 : List Atom} {sn : Nat} {sa : Option Addr} {Y : List Int} {j : Nat} (h : sn = 0 ∨ ∃ b o, sa = some ⟨b, o, none⟩ ∧ RowAt w0 F0 b o (ints .u32 Y)) (hj : j < sn) : ∃ b o, sa = some ⟨b, o, none⟩ ∧ RowAt w0 F0 b o (ints .u32 Y) := by
  rcases h with h | h
  · omega
  · exact h
theorem vis_act {w : World} {r : List Value} (h : Vis Try.prog w 58 r) : ∃ o, r = actRow o ∧ ActOk w [Old w] o := by
  obtain ⟨a, b, c, d, e, sa, sn, sc, Y, rfl, w0, w1, w2, w3, w4, hc, hm, hl, hwf, hr⟩ := vis_s58 h
  simp only [maxLen] at hm
  refine ⟨⟨a, b, c, d, e, sa, sn, sc, Y⟩, rfl, wf_i64 w0, wf_i64 w1, wf_i64 w2, wf_i64 w3, by simp only; omega, hl, ?_⟩
  rcases hr with ⟨h, _⟩ | ⟨b, o, rfl, hr⟩
  · exact .inl h
  · exact .inr ⟨b, o, rfl, RowAt.old (by simp) hr⟩
set_option maxHeartbeats 8000000 in
theorem kept_some (w0 : World) (F : List Atom) (fr : Int) (f0 : -9223372036854775808 ≤ fr) (f1 : fr ≤ 9223372036854775807) (bs os_ ns cs : Nat) (L : List ActR) (hLn : L.length = ns) (hns : ns ≤ 9223372036854775807) (hL : ∀ r ∈ L, ActOk w0 F r) (hs : RowAt w0 F bs os_ (L.map actRow).flatten) :
    CallK Try.prog 6 [.int .i64 fr, .slice (some ⟨bs, os_, none⟩) ns cs] w0 (F) (Gives w0 fun v F2 => v = .bool true ∧ F2 = F) := by
  have hp8 := pk_lt fr (show (0:Int) < 8 by omega)
  refine c_enter Try.func6 rfl rfl rfl ?_
  refine g_seq ?_
  refine g_region ?_
  refine l_assign rfl rfl ?_
  refine l_nil ?_
  refine g_seq ?_
  refine g_region ?_
  refine l_move rfl rfl ?_
  refine l_call rfl Try.call8 rfl (pick_ok _ _ _ _ (by omega) (by omega) (by omega) (by omega)) ?_; rintro _ F9 ⟨rfl, hF9⟩; rw [hF9]; clear hF9 F9
  first | refine l_add rfl rfl rfl (w_i64 (by omega) (by omega)) ?_ | refine l_addw rfl rfl rfl ?_
  refine l_call rfl Try.call9 rfl (new_ok _ _ _ (by omega) (by omega)) ?_; rintro _ _ ⟨b, g, c, rfl, hc, rfl⟩
  generalize hN : ((1 + pk fr 8) * 16).toNat = n at hc ⊢
  have hn : n ≤ 1073741824 := by omega
  obtain ⟨W, hW, hW0⟩ : ∃ W : List Int, W.length = n ∧ List.replicate n 0 = W := ⟨_, List.length_replicate, rfl⟩
  rw [hW0]
  clear hW0
  refine l_move rfl rfl ?_
  refine l_extract rfl rfl rfl ?_
  refine l_extract rfl rfl rfl ?_
  refine l_assign rfl rfl ?_
  refine l_assign rfl rfl ?_
  refine l_nil ?_
  refine g_seq ?_
  refine g_seq ?_
  refine g_region ?_
  refine l_move rfl rfl ?_
  refine l_neq rfl rfl rfl ?_
  refine l_move rfl rfl ?_
  refine l_split 28 rfl ?_ ?_
  · intro hbr
    have hbr := of_decide_eq_true hbr
    (exfalso; omega)
  intro hbr
  have hbr := of_decide_eq_false hbr
  refine l_guard_yes rfl rfl ?_
  refine l_move rfl rfl ?_
  refine l_guard_yes rfl rfl ?_
  refine l_eqpn rfl Try.underlying25 rfl rfl ?_
  refine l_pick_f rfl rfl rfl ?_
  refine l_move rfl rfl ?_
  refine l_guard_yes rfl rfl ?_
  refine l_move rfl rfl ?_
  refine l_guard_yes rfl rfl ?_
  refine l_fronto g ?_
  refine l_frontb b ?_
  refine l_call rfl Try.call17 rfl (frames_ok _ _ b g n c W hW hc hn) ?_; rintro _ _ ⟨rfl, rfl⟩
  refine l_guard_yes rfl rfl ?_
  refine l_move rfl rfl ?_
  refine l_guard_yes rfl rfl ?_
  refine l_call rfl Try.call8 rfl (pick_ok _ _ _ _ (by omega) (by omega) (by omega) (by omega)) ?_; rintro _ F9 ⟨rfl, hF9⟩; rw [hF9]; clear hF9 F9
  refine l_guard_yes rfl rfl ?_
  first | refine l_add rfl rfl rfl (w_i64 (by omega) (by omega)) ?_ | refine l_addw rfl rfl rfl ?_
  refine l_guard_yes rfl rfl ?_
  refine l_neq rfl rfl rfl ?_
  refine l_pick_f rfl rfl rfl ?_
  refine l_nil ?_
  refine g_cond rfl ?_ ?_
  · intro hbr
    have hbr := of_decide_eq_true hbr
    (exfalso; omega)
  intro hbr
  have hbr := of_decide_eq_false hbr
  refine g_skip ?_
  refine g_seq ?_
  refine g_seq ?_
  refine g_region ?_
  refine l_assign rfl rfl ?_
  refine l_nil ?_
  refine g_block ?_
  refine g_loop (X := Int × List Int) (fun z => 0 ≤ z.1 ∧ z.1 ≤ ns ∧ z.2.length = n) (fun z => (ns - z.1).toNat) (fun z => [(0, .int .i64 fr), (1, .slice (some ⟨bs, os_, none⟩) ns cs), (5, .pointer (some ⟨b, 0, none⟩)), (7, .int .i64 z.1)]) (fun z => Blk b (.cells [.slice (some ⟨g, 0, none⟩) n c].toArray 77 (0, 0)) :: Own 30 1 (.slice (some ⟨g, 0, none⟩) n c) n (ints .u32 z.2) :: F) (0, W) ⟨by simp only; omega, by simp only; omega, hW⟩ (.cons rfl (.cons rfl (.cons rfl (.cons rfl (.nil))))) (fun w hw => SPI.holds hw) ?_; clear hW; clear W
  rintro ⟨i, W⟩ ⟨i0, i1, hW⟩ ih
  dsimp only
  simp only at i0 i1 hW
  refine g_seq ?_
  refine g_seq ?_
  refine g_region ?_
  refine l_move rfl rfl ?_
  refine l_move rfl rfl ?_
  refine l_len rfl Try.underlying51 rfl ?_
  refine l_lss rfl rfl rfl ?_
  refine l_nil ?_
  refine g_cond rfl ?_ ?_
  · intro hbr
    have hbr := of_decide_eq_true hbr
    refine g_skip ?_
    refine g_seq ?_
    refine g_block ?_
    refine g_seq ?_
    refine g_region ?_
    refine l_move rfl rfl ?_
    refine l_fronto g ?_
    refine l_frontb b ?_
    refine l_call rfl Try.call18 rfl (words_ok _ _ b g n c W hW hc hn) ?_; rintro _ _ ⟨qa, ca, rfl, hca, rfl⟩
    refine l_assign rfl rfl ?_
    refine l_nil ?_
    refine g_seq ?_
    refine g_region ?_
    refine l_move rfl rfl ?_
    refine l_fronto g ?_
    refine l_frontb b ?_
    refine l_call rfl Try.call19 rfl (clonem_ok _ _ b g n c W hW hc hn) ?_; rintro _ _ ⟨b2, g2, c2, rfl, hc2, rfl⟩
    refine l_assign rfl rfl ?_
    refine l_nil ?_
    refine g_seq ?_
    refine g_region ?_
    refine l_move rfl rfl ?_
    refine l_move rfl rfl ?_
    refine l_move rfl rfl ?_
    refine l_ixs rfl Try.underlying51 Try.sizeOf58 rfl rfl (by omega) (by omega) ?_
    obtain ⟨⟨kd, a, bb, x, w, sa, sn, sc, Y⟩, hrow, ok, oa, ob, oc, on, ol, oy⟩ := act_at hL (show i.toNat < L.length by omega)
    simp only at ok oa ob oc on ol oy
    have hp4 := pk_lt kd (show (0:Int) < 4 by omega)
    refine l_loadr (l := actRow ⟨kd, a, bb, x, w, sa, sn, sc, Y⟩) rfl Try.isAgg58 Try.sizeOf58 rfl rfl (row_elem hs.ex (act_len L) hrow) ?_
    refine l_fronto g ?_
    refine l_frontb b ?_
    refine l_call rfl Try.call20 rfl (does_any _ _ b g n c W hW hc hn kd a bb x w ok.1 ok.2 oa.1 oa.2 ob.1 ob.2 oc.1 oc.2 sa sn sc on Y ol (oy.imp id fun ⟨u, v, h1, h2⟩ => ⟨u, v, h1, h2.ex⟩)) ?_; rintro _ _ ⟨cnt, e, W2, want, rfl, rfl, hdid⟩
    have hlen2 := hdid.len
    have hlo := hdid.lo
    have hhi := hdid.hi
    have her := hdid.er
    have hbad := hdid.bad
    have hgood := hdid.good
    have hout := hdid.out
    have hmost := hdid.most
    have hmove := fun h1 h2 => (hdid.move h1 h2).1
    have hlay := fun h1 => (hdid.lay h1).1
    unfold inR at hgood hout hmost hmove
    refine l_move rfl rfl ?_
    refine l_extract rfl rfl rfl ?_
    refine l_extract rfl rfl rfl ?_
    refine l_extract rfl rfl rfl ?_
    refine l_assign rfl rfl ?_
    refine l_assign rfl rfl ?_
    refine l_assign rfl rfl ?_
    refine l_nil ?_
    refine g_seq ?_
    refine g_region ?_
    refine l_move rfl rfl ?_
    refine l_fronto g ?_
    refine l_frontb b ?_
    refine l_call rfl Try.call18 rfl (words_ok _ _ b g n c W2 hdid.len hc hn) ?_; rintro _ _ ⟨qb, cb, rfl, hcb, rfl⟩
    refine l_assign rfl rfl ?_
    refine l_nil ?_
    refine g_seq ?_
    refine g_region ?_
    refine l_move rfl rfl ?_
    refine l_geq rfl rfl rfl ?_
    refine l_move rfl rfl ?_
    refine l_split 64 rfl ?_ ?_
    · intro hbr
      have hbr := of_decide_eq_true hbr
      refine l_guard_yes rfl rfl ?_
      refine l_move rfl rfl ?_
      refine l_guard_yes rfl rfl ?_
      refine l_geq rfl rfl rfl ?_
      refine l_pick_t rfl rfl rfl ?_
      refine l_move rfl rfl ?_
      refine l_split 68 rfl ?_ ?_
      · intro hbr
        have hbr := of_decide_eq_true hbr
        refine l_guard_yes rfl rfl ?_
        refine l_move rfl rfl ?_
        refine l_guard_yes rfl rfl ?_
        refine l_move rfl rfl ?_
        refine l_guard_yes rfl rfl ?_
        refine l_len rfl Try.underlying23 rfl ?_
        refine l_guard_yes rfl rfl ?_
        refine l_leq rfl rfl rfl ?_
        refine l_pick_t rfl rfl rfl ?_
        refine l_move rfl rfl ?_
        refine l_split 74 rfl ?_ ?_
        · intro hbr
          have hbr := of_decide_eq_true hbr
          refine l_guard_yes rfl rfl ?_
          refine l_move rfl rfl ?_
          refine l_guard_yes rfl rfl ?_
          refine l_move rfl rfl ?_
          refine l_guard_yes rfl rfl ?_
          refine l_len rfl Try.underlying23 rfl ?_
          refine l_guard_yes rfl rfl ?_
          refine l_move rfl rfl ?_
          refine l_guard_yes rfl rfl ?_
          first | refine l_sub_ rfl rfl rfl (w_i64 (by omega) (by omega)) ?_ | refine l_subw rfl rfl rfl ?_
          refine l_guard_yes rfl rfl ?_
          refine l_leq rfl rfl rfl ?_
          refine l_pick_t rfl rfl rfl ?_
          refine l_assign rfl rfl ?_
          refine l_nil ?_
          refine g_seq ?_
          refine g_seq ?_
          refine g_region ?_
          refine l_move rfl rfl ?_
          refine l_len rfl Try.underlying23 rfl ?_
          refine l_move rfl rfl ?_
          refine l_len rfl Try.underlying23 rfl ?_
          refine l_neq rfl rfl rfl ?_
          refine l_move rfl rfl ?_
          refine l_split 87 rfl ?_ ?_
          · intro hbr
            have hbr := of_decide_eq_true hbr
            (exfalso; omega)
          intro hbr
          have hbr := of_decide_eq_false hbr
          refine l_guard_yes rfl rfl ?_
          refine l_move rfl rfl ?_
          refine l_guard_yes rfl rfl ?_
          refine l_len rfl Try.underlying23 rfl ?_
          refine l_guard_yes rfl rfl ?_
          refine l_move rfl rfl ?_
          refine l_guard_yes rfl rfl ?_
          refine l_call rfl Try.call8 rfl (pick_ok _ _ _ _ (by omega) (by omega) (by omega) (by omega)) ?_; rintro _ F9 ⟨rfl, hF9⟩; rw [hF9]; clear hF9 F9
          refine l_guard_yes rfl rfl ?_
          first | refine l_add rfl rfl rfl (w_i64 (by omega) (by omega)) ?_ | refine l_addw rfl rfl rfl ?_
          refine l_guard_yes rfl rfl ?_
          first | refine l_mul rfl rfl rfl (w_i64 (by omega) (by omega)) ?_ | refine l_mulw rfl rfl rfl ?_
          refine l_guard_yes rfl rfl ?_
          refine l_neq rfl rfl rfl ?_
          refine l_pick_f rfl rfl rfl ?_
          refine l_move rfl rfl ?_
          refine l_split 96 rfl ?_ ?_
          · intro hbr
            have hbr := of_decide_eq_true hbr
            (exfalso; omega)
          intro hbr
          have hbr := of_decide_eq_false hbr
          refine l_guard_yes rfl rfl ?_
          refine l_move rfl rfl ?_
          refine l_guard_yes rfl rfl ?_
          refine l_not rfl rfl ?_
          refine l_guard_yes rfl rfl ?_
          refine l_move rfl rfl ?_
          refine l_split 99 rfl ?_ ?_
          · intro hbr
            have hbr := of_decide_eq_false (nb_t hbr)
            refine l_guard_yes rfl rfl ?_
            refine l_move rfl rfl ?_
            refine l_guard_yes rfl rfl ?_
            refine l_neq rfl rfl rfl ?_
            refine l_guard_yes rfl rfl ?_
            refine l_pick_t rfl rfl rfl ?_
            refine l_pick_f rfl rfl rfl ?_
            refine l_nil ?_
            refine g_cond rfl ?_ ?_
            · intro hbr
              have hbr := of_decide_eq_true hbr
              (exfalso; omega)
            intro hbr
            have hbr := of_decide_eq_false hbr
            refine g_skip ?_
            refine g_seq ?_
            refine g_seq ?_
            refine g_region ?_
            refine l_move rfl rfl ?_
            refine l_move rfl rfl ?_
            refine l_ixs rfl Try.underlying51 Try.sizeOf58 rfl rfl (by omega) (by omega) ?_
            refine l_fieldAddr rfl fa_58_0 rfl ?_
            refine l_loadc rfl Try.isAgg3 rfl ((row_elem hs.ex (act_len L) hrow).cell (j := 0) (v := .int .i64 kd) rfl) ?_
            refine l_call rfl Try.call8 rfl (pick_ok _ _ _ _ (by omega) (by omega) (by omega) (by omega)) ?_; rintro _ F9 ⟨rfl, hF9⟩; rw [hF9]; clear hF9 F9
            refine l_lss rfl rfl rfl ?_
            refine l_move rfl rfl ?_
            refine l_split 111 rfl ?_ ?_
            · intro hbr
              have hbr := of_decide_eq_true hbr
              refine l_guard_yes rfl rfl ?_
              refine l_move rfl rfl ?_
              refine l_pick_t rfl rfl rfl ?_
              refine l_move rfl rfl ?_
              refine l_split 114 rfl ?_ ?_
              · intro hbr
                have hbr := of_decide_eq_true hbr
                (exfalso; omega)
              intro hbr
              have hbr := of_decide_eq_false hbr
              refine l_guard_no rfl rfl rfl ?_
              refine l_guard_no rfl rfl rfl ?_
              refine l_pick_f rfl rfl rfl ?_
              refine l_nil ?_
              refine g_cond_f rfl ?_
              refine g_skip ?_
              refine g_seq ?_
              refine g_seq ?_
              refine g_region ?_
              refine l_assign rfl rfl ?_
              refine l_nil ?_
              refine g_block ?_
              refine g_loop (X := Int) (fun k => 0 ≤ k ∧ k ≤ n) (fun k => (n - k).toNat) (fun k => [(0, .int .i64 fr), (1, .slice (some ⟨bs, os_, none⟩) ns cs), (5, .pointer (some ⟨b, 0, none⟩)), (7, .int .i64 i), (8, .slice (some ⟨qa, 0, none⟩) n ca), (9, .pointer (some ⟨b2, 0, none⟩)), (10, .int .i64 a), (11, .int .i64 cnt), (12, .int .i64 e), (13, .slice (some ⟨qb, 0, none⟩) n cb), (15, .int .i64 k)]) (fun k => Own 30 1 (.slice (some ⟨qa, 0, none⟩) n ca) n (ints .u32 W) :: Own 30 1 (.slice (some ⟨qb, 0, none⟩) n cb) n (ints .u32 W2) :: Blk b2 (.cells [.slice (some ⟨g2, 0, none⟩) n c2].toArray 77 (0, 0)) :: Own 30 1 (.slice (some ⟨g2, 0, none⟩) n c2) n (ints .u32 W) :: Blk b (.cells [.slice (some ⟨g, 0, none⟩) n c].toArray 77 (0, 0)) :: Own 30 1 (.slice (some ⟨g, 0, none⟩) n c) n (ints .u32 W2) :: F) 0 (by omega) (.cons rfl (.cons rfl (.cons rfl (.cons rfl (.cons rfl (.cons rfl (.cons rfl (.cons rfl (.cons rfl (.cons rfl (.cons rfl (.nil)))))))))))) (fun w hw => SPI.holds hw) ?_
              rintro k ⟨k0, k1⟩ ihk
              have hat := hdid.at_
              have hatk := fun h => hat h k.toNat
              have hpl := fun h1 h2 => hdid.plain h1 h2 k.toNat
              have hly := fun h1 => (hdid.lay h1).2 k.toNat
              have hmv := fun h1 h2 => (hdid.move h1 h2).2 k.toNat
              rw [Int.toNat_of_nonneg k0] at hpl hly hmv
              have hbk : e ≠ 0 → W2.getD k.toNat 0 = W.getD k.toNat 0 := fun h => by rw [hbad h]
              have hin : e = 0 → a ≤ k → k < a + cnt → W2.getD k.toNat 0 = want k := fun h h1 h2 => by rw [hatk h, if_pos (by omega), Int.toNat_of_nonneg k0]
              have hno : e = 0 → ¬ (a ≤ k ∧ k < a + cnt) → W2.getD k.toNat 0 = W.getD k.toNat 0 := fun h h1 => by rw [hatk h, if_neg (by omega)]
              clear hat hatk
              refine g_seq ?_
              refine g_seq ?_
              refine g_region ?_
              refine l_move rfl rfl ?_
              refine l_move rfl rfl ?_
              refine l_len rfl Try.underlying23 rfl ?_
              refine l_lss rfl rfl rfl ?_
              refine l_nil ?_
              refine g_cond rfl ?_ ?_
              · intro hbr
                have hbr := of_decide_eq_true hbr
                refine g_skip ?_
                refine g_seq ?_
                refine g_block ?_
                refine g_seq ?_
                refine g_region ?_
                refine l_move rfl rfl ?_
                refine l_eql rfl rfl rfl ?_
                refine l_move rfl rfl ?_
                refine l_split 126 rfl ?_ ?_
                · intro hbr
                  have hbr := of_decide_eq_true hbr
                  (exfalso; omega)
                intro hbr
                have hbr := of_decide_eq_false hbr
                refine l_guard_no rfl rfl rfl ?_
                refine l_guard_no rfl rfl rfl ?_
                refine l_guard_no rfl rfl rfl ?_
                refine l_pick_f rfl rfl rfl ?_
                refine l_move rfl rfl ?_
                refine l_guard_no rfl rfl rfl ?_
                refine l_guard_no rfl rfl rfl ?_
                refine l_guard_no rfl rfl rfl ?_
                refine l_guard_no rfl rfl rfl ?_
                refine l_guard_no rfl rfl rfl ?_
                refine l_pick_f rfl rfl rfl ?_
                refine l_assign rfl rfl ?_
                refine l_nil ?_
                refine g_seq ?_
                refine g_seq ?_
                refine gp_start mo (by kernel_rfl) (by kernel_rfl) ?_
                refine gp_quiet 0 rfl rfl rfl rfl rfl rfl (q_move rfl) ?_
                refine gp_quiet 1 rfl rfl rfl rfl rfl rfl (q_not rfl) ?_
                refine gp_quiet 2 rfl rfl rfl rfl rfl rfl (q_move rfl) ?_
                refine gp_quietg 3 rfl rfl rfl rfl rfl rfl (.yes rfl rfl (q_move rfl)) ?_
                refine gp_quietg 4 rfl rfl rfl rfl rfl rfl (.yes rfl rfl (q_move rfl)) ?_
                refine gp_quietg 5 rfl rfl rfl rfl rfl rfl (.yes rfl rfl (q_ixs Try.underlying23 Try.sizeOf30 rfl rfl (by omega) (by omega))) ?_
                first | refine gp_quietg 6 rfl rfl rfl rfl rfl rfl (.yes rfl rfl (q_ld Try.isAgg30 rfl rfl)) ?_ | refine gp_quietg 6 rfl rfl rfl rfl rfl rfl (.yes rfl rfl (q_ldw Try.isAgg30 rfl (by omega))) ?_
                refine gp_quietg 7 rfl rfl rfl rfl rfl rfl (.yes rfl rfl (q_move rfl)) ?_
                refine gp_quietg 8 rfl rfl rfl rfl rfl rfl (.yes rfl rfl (q_move rfl)) ?_
                refine gp_quietg 9 rfl rfl rfl rfl rfl rfl (.yes rfl rfl (q_ixs Try.underlying23 Try.sizeOf30 rfl rfl (by omega) (by omega))) ?_
                first | refine gp_quietg 10 rfl rfl rfl rfl rfl rfl (.yes rfl rfl (q_ld Try.isAgg30 rfl rfl)) ?_ | refine gp_quietg 10 rfl rfl rfl rfl rfl rfl (.yes rfl rfl (q_ldw Try.isAgg30 rfl (by omega))) ?_
                refine gp_quietg 11 rfl rfl rfl rfl rfl rfl (.yes rfl rfl (q_neq rfl rfl)) ?_
                refine gp_quiet 12 rfl rfl rfl rfl rfl rfl (q_pick_t rfl rfl) ?_
                refine gp_end rfl rfl ?_
                refine g_cond rfl ?_ ?_
                · intro hbr
                  have hbr := of_decide_eq_true hbr
                  (exfalso; omega)
                intro hbr
                have hbr := of_decide_eq_false hbr
                refine g_skip ?_
                refine g_seq ?_
                refine g_region ?_
                refine l_move rfl rfl ?_
                refine l_nil ?_
                refine g_cond_f rfl ?_
                refine g_skip ?_
                refine g_inBlock ?_
                refine g_region ?_
                refine l_move rfl rfl ?_
                first | refine l_add rfl rfl rfl (w_i64 (by omega) (by omega)) ?_ | refine l_addw rfl rfl rfl ?_
                refine l_assign rfl rfl ?_
                refine l_nil ?_
                exact g_againi (ihk (k + 1) (by omega) (by omega)) (.cons rfl (.cons rfl (.cons rfl (.cons rfl (.cons rfl (.cons rfl (.cons rfl (.cons rfl (.cons rfl (.cons rfl (.cons rfl (.nil))))))))))))
              intro hbr
              have hbr := of_decide_eq_false hbr
              refine g_exit rfl ?_
              refine g_seq ?_
              refine g_region ?_
              refine l_move rfl rfl ?_
              refine l_fronto g2 ?_
              refine l_frontb b2 ?_
              refine l_call rfl Try.call18 rfl (words_ok _ _ b2 g2 n c2 W hW hc2 hn) ?_; rintro _ _ ⟨qc, cc, rfl, hcc, rfl⟩
              refine l_move rfl rfl ?_
              refine l_fronto qa ?_
              refine l_fronto qc ?_
              refine l_call rfl Try.call21 rfl (same_words _ _ _ _ _ _ _ _ _ W hW hn (.own (mem_getO 0 rfl)) (.own (mem_getO 1 rfl))) ?_; rintro _ _ ⟨rfl, rfl⟩
              refine l_not rfl rfl ?_
              refine l_nil ?_
              refine g_cond_f rfl ?_
              refine g_skip ?_
              refine g_inBlock ?_
              refine g_region ?_
              refine l_move rfl rfl ?_
              first | refine l_add rfl rfl rfl (w_i64 (by omega) (by omega)) ?_ | refine l_addw rfl rfl rfl ?_
              refine l_assign rfl rfl ?_
              refine l_nil ?_
              exact g_againi (ih (i + 1, W2) ⟨by simp only; omega, by simp only; omega, hlen2⟩ (by simp only; omega)) (.cons rfl (.cons rfl (.cons rfl (.cons rfl (.nil)))))
            intro hbr
            have hbr := of_decide_eq_false hbr
            refine l_guard_no rfl rfl rfl ?_
            refine l_pick_f rfl rfl rfl ?_
            refine l_move rfl rfl ?_
            refine l_guard_no rfl rfl rfl ?_
            refine l_guard_no rfl rfl rfl ?_
            refine l_pick_f rfl rfl rfl ?_
            refine l_nil ?_
            refine g_cond_f rfl ?_
            refine g_skip ?_
            refine g_seq ?_
            refine g_seq ?_
            refine g_region ?_
            refine l_assign rfl rfl ?_
            refine l_nil ?_
            refine g_block ?_
            refine g_loop (X := Int) (fun k => 0 ≤ k ∧ k ≤ n) (fun k => (n - k).toNat) (fun k => [(0, .int .i64 fr), (1, .slice (some ⟨bs, os_, none⟩) ns cs), (5, .pointer (some ⟨b, 0, none⟩)), (7, .int .i64 i), (8, .slice (some ⟨qa, 0, none⟩) n ca), (9, .pointer (some ⟨b2, 0, none⟩)), (10, .int .i64 a), (11, .int .i64 cnt), (12, .int .i64 e), (13, .slice (some ⟨qb, 0, none⟩) n cb), (15, .int .i64 k)]) (fun k => Own 30 1 (.slice (some ⟨qa, 0, none⟩) n ca) n (ints .u32 W) :: Own 30 1 (.slice (some ⟨qb, 0, none⟩) n cb) n (ints .u32 W2) :: Blk b2 (.cells [.slice (some ⟨g2, 0, none⟩) n c2].toArray 77 (0, 0)) :: Own 30 1 (.slice (some ⟨g2, 0, none⟩) n c2) n (ints .u32 W) :: Blk b (.cells [.slice (some ⟨g, 0, none⟩) n c].toArray 77 (0, 0)) :: Own 30 1 (.slice (some ⟨g, 0, none⟩) n c) n (ints .u32 W2) :: F) 0 (by omega) (.cons rfl (.cons rfl (.cons rfl (.cons rfl (.cons rfl (.cons rfl (.cons rfl (.cons rfl (.cons rfl (.cons rfl (.cons rfl (.nil)))))))))))) (fun w hw => SPI.holds hw) ?_
            rintro k ⟨k0, k1⟩ ihk
            have hat := hdid.at_
            have hatk := fun h => hat h k.toNat
            have hpl := fun h1 h2 => hdid.plain h1 h2 k.toNat
            have hly := fun h1 => (hdid.lay h1).2 k.toNat
            have hmv := fun h1 h2 => (hdid.move h1 h2).2 k.toNat
            rw [Int.toNat_of_nonneg k0] at hpl hly hmv
            have hbk : e ≠ 0 → W2.getD k.toNat 0 = W.getD k.toNat 0 := fun h => by rw [hbad h]
            have hin : e = 0 → a ≤ k → k < a + cnt → W2.getD k.toNat 0 = want k := fun h h1 h2 => by rw [hatk h, if_pos (by omega), Int.toNat_of_nonneg k0]
            have hno : e = 0 → ¬ (a ≤ k ∧ k < a + cnt) → W2.getD k.toNat 0 = W.getD k.toNat 0 := fun h h1 => by rw [hatk h, if_neg (by omega)]
            clear hat hatk
            refine g_seq ?_
            refine g_seq ?_
            refine g_region ?_
            refine l_move rfl rfl ?_
            refine l_move rfl rfl ?_
            refine l_len rfl Try.underlying23 rfl ?_
            refine l_lss rfl rfl rfl ?_
            refine l_nil ?_
            refine g_cond rfl ?_ ?_
            · intro hbr
              have hbr := of_decide_eq_true hbr
              refine g_skip ?_
              refine g_seq ?_
              refine g_block ?_
              refine g_seq ?_
              refine g_region ?_
              refine l_move rfl rfl ?_
              refine l_eql rfl rfl rfl ?_
              refine l_move rfl rfl ?_
              refine l_split 126 rfl ?_ ?_
              · intro hbr
                have hbr := of_decide_eq_true hbr
                (exfalso; omega)
              intro hbr
              have hbr := of_decide_eq_false hbr
              refine l_guard_no rfl rfl rfl ?_
              refine l_guard_no rfl rfl rfl ?_
              refine l_guard_no rfl rfl rfl ?_
              refine l_pick_f rfl rfl rfl ?_
              refine l_move rfl rfl ?_
              refine l_guard_no rfl rfl rfl ?_
              refine l_guard_no rfl rfl rfl ?_
              refine l_guard_no rfl rfl rfl ?_
              refine l_guard_no rfl rfl rfl ?_
              refine l_guard_no rfl rfl rfl ?_
              refine l_pick_f rfl rfl rfl ?_
              refine l_assign rfl rfl ?_
              refine l_nil ?_
              refine g_seq ?_
              refine g_seq ?_
              refine gp_start mo (by kernel_rfl) (by kernel_rfl) ?_
              refine gp_quiet 0 rfl rfl rfl rfl rfl rfl (q_move rfl) ?_
              refine gp_quiet 1 rfl rfl rfl rfl rfl rfl (q_not rfl) ?_
              refine gp_quiet 2 rfl rfl rfl rfl rfl rfl (q_move rfl) ?_
              refine gp_quietg 3 rfl rfl rfl rfl rfl rfl (.yes rfl rfl (q_move rfl)) ?_
              refine gp_quietg 4 rfl rfl rfl rfl rfl rfl (.yes rfl rfl (q_move rfl)) ?_
              refine gp_quietg 5 rfl rfl rfl rfl rfl rfl (.yes rfl rfl (q_ixs Try.underlying23 Try.sizeOf30 rfl rfl (by omega) (by omega))) ?_
              first | refine gp_quietg 6 rfl rfl rfl rfl rfl rfl (.yes rfl rfl (q_ld Try.isAgg30 rfl rfl)) ?_ | refine gp_quietg 6 rfl rfl rfl rfl rfl rfl (.yes rfl rfl (q_ldw Try.isAgg30 rfl (by omega))) ?_
              refine gp_quietg 7 rfl rfl rfl rfl rfl rfl (.yes rfl rfl (q_move rfl)) ?_
              refine gp_quietg 8 rfl rfl rfl rfl rfl rfl (.yes rfl rfl (q_move rfl)) ?_
              refine gp_quietg 9 rfl rfl rfl rfl rfl rfl (.yes rfl rfl (q_ixs Try.underlying23 Try.sizeOf30 rfl rfl (by omega) (by omega))) ?_
              first | refine gp_quietg 10 rfl rfl rfl rfl rfl rfl (.yes rfl rfl (q_ld Try.isAgg30 rfl rfl)) ?_ | refine gp_quietg 10 rfl rfl rfl rfl rfl rfl (.yes rfl rfl (q_ldw Try.isAgg30 rfl (by omega))) ?_
              refine gp_quietg 11 rfl rfl rfl rfl rfl rfl (.yes rfl rfl (q_neq rfl rfl)) ?_
              refine gp_quiet 12 rfl rfl rfl rfl rfl rfl (q_pick_t rfl rfl) ?_
              refine gp_end rfl rfl ?_
              refine g_cond rfl ?_ ?_
              · intro hbr
                have hbr := of_decide_eq_true hbr
                (exfalso; omega)
              intro hbr
              have hbr := of_decide_eq_false hbr
              refine g_skip ?_
              refine g_seq ?_
              refine g_region ?_
              refine l_move rfl rfl ?_
              refine l_nil ?_
              refine g_cond_f rfl ?_
              refine g_skip ?_
              refine g_inBlock ?_
              refine g_region ?_
              refine l_move rfl rfl ?_
              first | refine l_add rfl rfl rfl (w_i64 (by omega) (by omega)) ?_ | refine l_addw rfl rfl rfl ?_
              refine l_assign rfl rfl ?_
              refine l_nil ?_
              exact g_againi (ihk (k + 1) (by omega) (by omega)) (.cons rfl (.cons rfl (.cons rfl (.cons rfl (.cons rfl (.cons rfl (.cons rfl (.cons rfl (.cons rfl (.cons rfl (.cons rfl (.nil))))))))))))
            intro hbr
            have hbr := of_decide_eq_false hbr
            refine g_exit rfl ?_
            refine g_seq ?_
            refine g_region ?_
            refine l_move rfl rfl ?_
            refine l_fronto g2 ?_
            refine l_frontb b2 ?_
            refine l_call rfl Try.call18 rfl (words_ok _ _ b2 g2 n c2 W hW hc2 hn) ?_; rintro _ _ ⟨qc, cc, rfl, hcc, rfl⟩
            refine l_move rfl rfl ?_
            refine l_fronto qa ?_
            refine l_fronto qc ?_
            refine l_call rfl Try.call21 rfl (same_words _ _ _ _ _ _ _ _ _ W hW hn (.own (mem_getO 0 rfl)) (.own (mem_getO 1 rfl))) ?_; rintro _ _ ⟨rfl, rfl⟩
            refine l_not rfl rfl ?_
            refine l_nil ?_
            refine g_cond_f rfl ?_
            refine g_skip ?_
            refine g_inBlock ?_
            refine g_region ?_
            refine l_move rfl rfl ?_
            first | refine l_add rfl rfl rfl (w_i64 (by omega) (by omega)) ?_ | refine l_addw rfl rfl rfl ?_
            refine l_assign rfl rfl ?_
            refine l_nil ?_
            exact g_againi (ih (i + 1, W2) ⟨by simp only; omega, by simp only; omega, hlen2⟩ (by simp only; omega)) (.cons rfl (.cons rfl (.cons rfl (.cons rfl (.nil)))))
          intro hbr
          have hbr := of_decide_eq_true (nb_f hbr)
          refine l_guard_no rfl rfl rfl ?_
          refine l_guard_no rfl rfl rfl ?_
          refine l_guard_yes rfl rfl ?_
          refine l_pick_f rfl rfl rfl ?_
          refine l_pick_f rfl rfl rfl ?_
          refine l_nil ?_
          refine g_cond_f rfl ?_
          refine g_skip ?_
          refine g_seq ?_
          refine g_seq ?_
          refine g_region ?_
          refine l_move rfl rfl ?_
          refine l_move rfl rfl ?_
          refine l_ixs rfl Try.underlying51 Try.sizeOf58 rfl rfl (by omega) (by omega) ?_
          refine l_fieldAddr rfl fa_58_0 rfl ?_
          refine l_loadc rfl Try.isAgg3 rfl ((row_elem hs.ex (act_len L) hrow).cell (j := 0) (v := .int .i64 kd) rfl) ?_
          refine l_call rfl Try.call8 rfl (pick_ok _ _ _ _ (by omega) (by omega) (by omega) (by omega)) ?_; rintro _ F9 ⟨rfl, hF9⟩; rw [hF9]; clear hF9 F9
          refine l_lss rfl rfl rfl ?_
          refine l_move rfl rfl ?_
          refine l_split 111 rfl ?_ ?_
          · intro hbr
            have hbr := of_decide_eq_true hbr
            refine l_guard_yes rfl rfl ?_
            refine l_move rfl rfl ?_
            refine l_pick_t rfl rfl rfl ?_
            refine l_move rfl rfl ?_
            refine l_split 114 rfl ?_ ?_
            · intro hbr
              have hbr := of_decide_eq_true hbr
              refine l_guard_yes rfl rfl ?_
              refine l_move rfl rfl ?_
              refine l_guard_yes rfl rfl ?_
              refine l_neq rfl rfl rfl ?_
              refine l_pick_t rfl rfl rfl ?_
              refine l_nil ?_
              refine g_cond rfl ?_ ?_
              · intro hbr
                have hbr := of_decide_eq_true hbr
                (exfalso; omega)
              intro hbr
              have hbr := of_decide_eq_false hbr
              refine g_skip ?_
              refine g_seq ?_
              refine g_seq ?_
              refine g_region ?_
              refine l_assign rfl rfl ?_
              refine l_nil ?_
              refine g_block ?_
              refine g_loop (X := Int) (fun k => 0 ≤ k ∧ k ≤ n) (fun k => (n - k).toNat) (fun k => [(0, .int .i64 fr), (1, .slice (some ⟨bs, os_, none⟩) ns cs), (5, .pointer (some ⟨b, 0, none⟩)), (7, .int .i64 i), (8, .slice (some ⟨qa, 0, none⟩) n ca), (9, .pointer (some ⟨b2, 0, none⟩)), (10, .int .i64 a), (11, .int .i64 cnt), (12, .int .i64 e), (13, .slice (some ⟨qb, 0, none⟩) n cb), (15, .int .i64 k)]) (fun k => Own 30 1 (.slice (some ⟨qa, 0, none⟩) n ca) n (ints .u32 W) :: Own 30 1 (.slice (some ⟨qb, 0, none⟩) n cb) n (ints .u32 W2) :: Blk b2 (.cells [.slice (some ⟨g2, 0, none⟩) n c2].toArray 77 (0, 0)) :: Own 30 1 (.slice (some ⟨g2, 0, none⟩) n c2) n (ints .u32 W) :: Blk b (.cells [.slice (some ⟨g, 0, none⟩) n c].toArray 77 (0, 0)) :: Own 30 1 (.slice (some ⟨g, 0, none⟩) n c) n (ints .u32 W2) :: F) 0 (by omega) (.cons rfl (.cons rfl (.cons rfl (.cons rfl (.cons rfl (.cons rfl (.cons rfl (.cons rfl (.cons rfl (.cons rfl (.cons rfl (.nil)))))))))))) (fun w hw => SPI.holds hw) ?_
              rintro k ⟨k0, k1⟩ ihk
              have hat := hdid.at_
              have hatk := fun h => hat h k.toNat
              have hpl := fun h1 h2 => hdid.plain h1 h2 k.toNat
              have hly := fun h1 => (hdid.lay h1).2 k.toNat
              have hmv := fun h1 h2 => (hdid.move h1 h2).2 k.toNat
              rw [Int.toNat_of_nonneg k0] at hpl hly hmv
              have hbk : e ≠ 0 → W2.getD k.toNat 0 = W.getD k.toNat 0 := fun h => by rw [hbad h]
              have hin : e = 0 → a ≤ k → k < a + cnt → W2.getD k.toNat 0 = want k := fun h h1 h2 => by rw [hatk h, if_pos (by omega), Int.toNat_of_nonneg k0]
              have hno : e = 0 → ¬ (a ≤ k ∧ k < a + cnt) → W2.getD k.toNat 0 = W.getD k.toNat 0 := fun h h1 => by rw [hatk h, if_neg (by omega)]
              clear hat hatk
              refine g_seq ?_
              refine g_seq ?_
              refine g_region ?_
              refine l_move rfl rfl ?_
              refine l_move rfl rfl ?_
              refine l_len rfl Try.underlying23 rfl ?_
              refine l_lss rfl rfl rfl ?_
              refine l_nil ?_
              refine g_cond rfl ?_ ?_
              · intro hbr
                have hbr := of_decide_eq_true hbr
                refine g_skip ?_
                refine g_seq ?_
                refine g_block ?_
                refine g_seq ?_
                refine g_region ?_
                refine l_move rfl rfl ?_
                refine l_eql rfl rfl rfl ?_
                refine l_move rfl rfl ?_
                refine l_split 126 rfl ?_ ?_
                · intro hbr
                  have hbr := of_decide_eq_true hbr
                  refine l_guard_yes rfl rfl ?_
                  refine l_move rfl rfl ?_
                  refine l_guard_yes rfl rfl ?_
                  refine l_move rfl rfl ?_
                  refine l_guard_yes rfl rfl ?_
                  refine l_geq rfl rfl rfl ?_
                  refine l_pick_t rfl rfl rfl ?_
                  refine l_move rfl rfl ?_
                  refine l_split 131 rfl ?_ ?_
                  · intro hbr
                    have hbr := of_decide_eq_true hbr
                    refine l_guard_yes rfl rfl ?_
                    refine l_move rfl rfl ?_
                    refine l_guard_yes rfl rfl ?_
                    refine l_move rfl rfl ?_
                    refine l_guard_yes rfl rfl ?_
                    refine l_move rfl rfl ?_
                    refine l_guard_yes rfl rfl ?_
                    first | refine l_add rfl rfl rfl (w_i64 (by omega) (by omega)) ?_ | refine l_addw rfl rfl rfl ?_
                    refine l_guard_yes rfl rfl ?_
                    refine l_lss rfl rfl rfl ?_
                    refine l_pick_t rfl rfl rfl ?_
                    refine l_assign rfl rfl ?_
                    refine l_nil ?_
                    refine g_seq ?_
                    refine g_seq ?_
                    refine gp_start mo (by kernel_rfl) (by kernel_rfl) ?_
                    refine gp_quiet 0 rfl rfl rfl rfl rfl rfl (q_move rfl) ?_
                    refine gp_quiet 1 rfl rfl rfl rfl rfl rfl (q_not rfl) ?_
                    refine gp_quiet 2 rfl rfl rfl rfl rfl rfl (q_move rfl) ?_
                    refine gp_split 140 rfl ?_ ?_
                    · intro hbr
                      have hg140 := hbr
                      have hbr := of_decide_eq_false (nb_t hbr)
                      refine gp_quietg 3 rfl rfl rfl rfl rfl rfl (.yes rfl rfl (q_move rfl)) ?_
                      refine gp_quietg 4 rfl rfl rfl rfl rfl rfl (.yes rfl rfl (q_move rfl)) ?_
                      refine gp_quietg 5 rfl rfl rfl rfl rfl rfl (.yes rfl rfl (q_ixs Try.underlying23 Try.sizeOf30 rfl rfl (by omega) (by omega))) ?_
                      first | refine gp_quietg 6 rfl rfl rfl rfl rfl rfl (.yes rfl rfl (q_ld Try.isAgg30 rfl rfl)) ?_ | refine gp_quietg 6 rfl rfl rfl rfl rfl rfl (.yes rfl rfl (q_ldw Try.isAgg30 rfl (by omega))) ?_
                      refine gp_quietg 7 rfl rfl rfl rfl rfl rfl (.yes rfl rfl (q_move rfl)) ?_
                      refine gp_quietg 8 rfl rfl rfl rfl rfl rfl (.yes rfl rfl (q_move rfl)) ?_
                      refine gp_quietg 9 rfl rfl rfl rfl rfl rfl (.yes rfl rfl (q_ixs Try.underlying23 Try.sizeOf30 rfl rfl (by omega) (by omega))) ?_
                      first | refine gp_quietg 10 rfl rfl rfl rfl rfl rfl (.yes rfl rfl (q_ld Try.isAgg30 rfl rfl)) ?_ | refine gp_quietg 10 rfl rfl rfl rfl rfl rfl (.yes rfl rfl (q_ldw Try.isAgg30 rfl (by omega))) ?_
                      refine gp_quietg 11 rfl rfl rfl rfl rfl rfl (.yes rfl rfl (q_neq rfl rfl)) ?_
                      refine gp_quiet 12 rfl rfl rfl rfl rfl rfl (q_pick_t rfl rfl) ?_
                      refine gp_end rfl rfl ?_
                      refine g_cond rfl ?_ ?_
                      · intro hbr
                        have hbr := of_decide_eq_true hbr
                        (exfalso; omega)
                      intro hbr
                      have hbr := of_decide_eq_false hbr
                      refine g_skip ?_
                      refine g_seq ?_
                      refine g_region ?_
                      refine l_move rfl rfl ?_
                      refine l_nil ?_
                      refine g_cond rfl ?_ ?_
                      · intro hbr
                        have hbr := of_decide_eq_true hbr
                        (exfalso; omega)
                      intro hbr
                      have hbr := of_decide_eq_false hbr
                      refine g_skip ?_
                      refine g_inBlock ?_
                      refine g_region ?_
                      refine l_move rfl rfl ?_
                      first | refine l_add rfl rfl rfl (w_i64 (by omega) (by omega)) ?_ | refine l_addw rfl rfl rfl ?_
                      refine l_assign rfl rfl ?_
                      refine l_nil ?_
                      exact g_againi (ihk (k + 1) (by omega) (by omega)) (.cons rfl (.cons rfl (.cons rfl (.cons rfl (.cons rfl (.cons rfl (.cons rfl (.cons rfl (.cons rfl (.cons rfl (.cons rfl (.nil))))))))))))
                    intro hbr
                    have hg140 := hbr
                    have hbr := of_decide_eq_true (nb_f hbr)
                    refine gp_quietg 3 rfl rfl rfl rfl rfl rfl (.no rfl rfl) ?_
                    refine gp_quietg 4 rfl rfl rfl rfl rfl rfl (.no rfl rfl) ?_
                    refine gp_quietg 5 rfl rfl rfl rfl rfl rfl (.no rfl rfl) ?_
                    refine gp_quietg 6 rfl rfl rfl rfl rfl rfl (.no rfl rfl) ?_
                    refine gp_quietg 7 rfl rfl rfl rfl rfl rfl (.no rfl rfl) ?_
                    refine gp_quietg 8 rfl rfl rfl rfl rfl rfl (.no rfl rfl) ?_
                    refine gp_quietg 9 rfl rfl rfl rfl rfl rfl (.no rfl rfl) ?_
                    refine gp_quietg 10 rfl rfl rfl rfl rfl rfl (.no rfl rfl) ?_
                    refine gp_quietg 11 rfl rfl rfl rfl rfl rfl (.no rfl rfl) ?_
                    refine gp_quiet 12 rfl rfl rfl rfl rfl rfl (q_pick_f rfl rfl) ?_
                    refine gp_end rfl rfl ?_
                    refine g_cond_f rfl ?_
                    refine g_skip ?_
                    refine g_seq ?_
                    refine g_region ?_
                    refine l_move rfl rfl ?_
                    refine l_nil ?_
                    refine g_cond rfl ?_ ?_
                    · intro hbr
                      have hbr := of_decide_eq_true hbr
                      refine g_seq ?_
                      refine g_region ?_
                      refine l_move rfl rfl ?_
                      refine l_move rfl rfl ?_
                      refine l_ixs rfl Try.underlying51 Try.sizeOf58 rfl rfl (by omega) (by omega) ?_
                      refine l_fieldAddr rfl fa_58_2 rfl ?_
                      refine l_loadc rfl Try.isAgg3 rfl ((row_elem hs.ex (act_len L) hrow).cell (j := 2) (v := .int .i64 bb) rfl) ?_
                      refine l_move rfl rfl ?_
                      first | refine l_add rfl rfl rfl (w_i64 (by omega) (by omega)) ?_ | refine l_addw rfl rfl rfl ?_
                      refine l_move rfl rfl ?_
                      first | refine l_sub_ rfl rfl rfl (w_i64 (by omega) (by omega)) ?_ | refine l_subw rfl rfl rfl ?_
                      refine l_assign rfl rfl ?_
                      refine l_nil ?_
                      refine g_seq ?_
                      refine g_seq ?_
                      refine g_region ?_
                      refine l_move rfl rfl ?_
                      refine l_move rfl rfl ?_
                      refine l_ixs rfl Try.underlying51 Try.sizeOf58 rfl rfl (by omega) (by omega) ?_
                      refine l_fieldAddr rfl fa_58_0 rfl ?_
                      refine l_loadc rfl Try.isAgg3 rfl ((row_elem hs.ex (act_len L) hrow).cell (j := 0) (v := .int .i64 kd) rfl) ?_
                      refine l_call rfl Try.call8 rfl (pick_ok _ _ _ _ (by omega) (by omega) (by omega) (by omega)) ?_; rintro _ F9 ⟨rfl, hF9⟩; rw [hF9]; clear hF9 F9
                      refine l_eql rfl rfl rfl ?_
                      refine l_move rfl rfl ?_
                      refine l_split 168 rfl ?_ ?_
                      · intro hbr
                        have hbr := of_decide_eq_true hbr
                        (exfalso; omega)
                      intro hbr
                      have hbr := of_decide_eq_false hbr
                      refine l_guard_no rfl rfl rfl ?_
                      refine l_guard_no rfl rfl rfl ?_
                      refine l_guard_no rfl rfl rfl ?_
                      refine l_guard_nou rfl rfl rfl ?_
                      refine l_guard_nou rfl rfl rfl ?_
                      refine l_guard_nou rfl rfl rfl ?_
                      refine l_guard_nou rfl rfl rfl ?_
                      refine l_guard_no rfl rfl rfl ?_
                      refine l_pick_f rfl rfl rfl ?_
                      refine l_nil ?_
                      refine g_cond_f rfl ?_
                      refine g_skip ?_
                      refine g_seq ?_
                      refine g_region ?_
                      refine l_move rfl rfl ?_
                      refine l_move rfl rfl ?_
                      refine l_ixs rfl Try.underlying51 Try.sizeOf58 rfl rfl (by omega) (by omega) ?_
                      refine l_fieldAddr rfl fa_58_4 rfl ?_
                      refine l_loadc rfl Try.isAgg30 rfl ((row_elem hs.ex (act_len L) hrow).cell (j := 4) (v := .int .u32 w) rfl) ?_
                      refine l_assign rfl rfl ?_
                      refine l_nil ?_
                      refine g_seq ?_
                      refine g_seq ?_
                      refine g_region ?_
                      refine l_move rfl rfl ?_
                      refine l_move rfl rfl ?_
                      refine l_ixs rfl Try.underlying51 Try.sizeOf58 rfl rfl (by omega) (by omega) ?_
                      refine l_fieldAddr rfl fa_58_0 rfl ?_
                      refine l_loadc rfl Try.isAgg3 rfl ((row_elem hs.ex (act_len L) hrow).cell (j := 0) (v := .int .i64 kd) rfl) ?_
                      refine l_call rfl Try.call8 rfl (pick_ok _ _ _ _ (by omega) (by omega) (by omega) (by omega)) ?_; rintro _ F9 ⟨rfl, hF9⟩; rw [hF9]; clear hF9 F9
                      refine l_eql rfl rfl rfl ?_
                      refine l_nil ?_
                      refine g_cond rfl ?_ ?_
                      · intro hbr
                        have hbr := of_decide_eq_true hbr
                        refine g_region ?_
                        refine l_move rfl rfl ?_
                        refine l_move rfl rfl ?_
                        refine l_ixs rfl Try.underlying51 Try.sizeOf58 rfl rfl (by omega) (by omega) ?_
                        refine l_fieldAddr rfl fa_58_5 rfl ?_
                        refine l_loadc rfl Try.isAgg23 rfl ((row_elem hs.ex (act_len L) hrow).cell (j := 5) (v := .slice sa sn sc) rfl) ?_
                        refine l_move rfl rfl ?_
                        refine l_move rfl rfl ?_
                        first | refine l_sub_ rfl rfl rfl (w_i64 (by omega) (by omega)) ?_ | refine l_subw rfl rfl rfl ?_
                        obtain ⟨bY, oY, rfl, hrY⟩ := lay_word oy (show (k - a).toNat < sn by omega)
                        refine l_ixs rfl Try.underlying23 Try.sizeOf30 rfl rfl (by omega) (by omega) ?_
                        refine l_loadc rfl Try.isAgg30 rfl (word_row hrY.ex (by omega)) ?_
                        refine l_assign rfl rfl ?_
                        refine l_nil ?_
                        refine g_seq ?_
                        refine g_seq ?_
                        refine g_region ?_
                        refine l_move rfl rfl ?_
                        refine l_move rfl rfl ?_
                        refine l_ixs rfl Try.underlying51 Try.sizeOf58 rfl rfl (by omega) (by omega) ?_
                        refine l_fieldAddr rfl fa_58_0 rfl ?_
                        refine l_loadc rfl Try.isAgg3 rfl ((row_elem hs.ex (act_len L) hrow).cell (j := 0) (v := .int .i64 kd) rfl) ?_
                        refine l_call rfl Try.call8 rfl (pick_ok _ _ _ _ (by omega) (by omega) (by omega) (by omega)) ?_; rintro _ F9 ⟨rfl, hF9⟩; rw [hF9]; clear hF9 F9
                        refine l_eql rfl rfl rfl ?_
                        refine l_nil ?_
                        refine g_cond rfl ?_ ?_
                        · intro hbr
                          have hbr := of_decide_eq_true hbr
                          (exfalso; omega)
                        intro hbr
                        have hbr := of_decide_eq_false hbr
                        refine g_skip ?_
                        refine g_seq ?_
                        refine g_region ?_
                        refine l_move rfl rfl ?_
                        refine l_move rfl rfl ?_
                        refine l_ixs rfl Try.underlying23 Try.sizeOf30 rfl rfl (by omega) (by omega) ?_
                        first | refine l_ld rfl Try.isAgg30 rfl rfl ?_ | refine l_ldw rfl Try.isAgg30 rfl (by omega) ?_
                        refine l_move rfl rfl ?_
                        refine l_neq rfl rfl rfl ?_
                        refine l_nil ?_
                        refine g_cond rfl ?_ ?_
                        · intro hbr
                          have hbr := of_decide_eq_true hbr
                          (exfalso; omega)
                        intro hbr
                        have hbr := of_decide_eq_false hbr
                        refine g_skip ?_
                        refine g_inBlock ?_
                        refine g_region ?_
                        refine l_move rfl rfl ?_
                        first | refine l_add rfl rfl rfl (w_i64 (by omega) (by omega)) ?_ | refine l_addw rfl rfl rfl ?_
                        refine l_assign rfl rfl ?_
                        refine l_nil ?_
                        exact g_againi (ihk (k + 1) (by omega) (by omega)) (.cons rfl (.cons rfl (.cons rfl (.cons rfl (.cons rfl (.cons rfl (.cons rfl (.cons rfl (.cons rfl (.cons rfl (.cons rfl (.nil))))))))))))
                      intro hbr
                      have hbr := of_decide_eq_false hbr
                      refine g_skip ?_
                      refine g_seq ?_
                      refine g_seq ?_
                      refine g_region ?_
                      refine l_move rfl rfl ?_
                      refine l_move rfl rfl ?_
                      refine l_ixs rfl Try.underlying51 Try.sizeOf58 rfl rfl (by omega) (by omega) ?_
                      refine l_fieldAddr rfl fa_58_0 rfl ?_
                      refine l_loadc rfl Try.isAgg3 rfl ((row_elem hs.ex (act_len L) hrow).cell (j := 0) (v := .int .i64 kd) rfl) ?_
                      refine l_call rfl Try.call8 rfl (pick_ok _ _ _ _ (by omega) (by omega) (by omega) (by omega)) ?_; rintro _ F9 ⟨rfl, hF9⟩; rw [hF9]; clear hF9 F9
                      refine l_eql rfl rfl rfl ?_
                      refine l_nil ?_
                      refine g_cond rfl ?_ ?_
                      · intro hbr
                        have hbr := of_decide_eq_true hbr
                        (exfalso; omega)
                      intro hbr
                      have hbr := of_decide_eq_false hbr
                      refine g_skip ?_
                      refine g_seq ?_
                      refine g_region ?_
                      refine l_move rfl rfl ?_
                      refine l_move rfl rfl ?_
                      refine l_ixs rfl Try.underlying23 Try.sizeOf30 rfl rfl (by omega) (by omega) ?_
                      first | refine l_ld rfl Try.isAgg30 rfl rfl ?_ | refine l_ldw rfl Try.isAgg30 rfl (by omega) ?_
                      refine l_move rfl rfl ?_
                      refine l_neq rfl rfl rfl ?_
                      refine l_nil ?_
                      refine g_cond rfl ?_ ?_
                      · intro hbr
                        have hbr := of_decide_eq_true hbr
                        (exfalso; omega)
                      intro hbr
                      have hbr := of_decide_eq_false hbr
                      refine g_skip ?_
                      refine g_inBlock ?_
                      refine g_region ?_
                      refine l_move rfl rfl ?_
                      first | refine l_add rfl rfl rfl (w_i64 (by omega) (by omega)) ?_ | refine l_addw rfl rfl rfl ?_
                      refine l_assign rfl rfl ?_
                      refine l_nil ?_
                      exact g_againi (ihk (k + 1) (by omega) (by omega)) (.cons rfl (.cons rfl (.cons rfl (.cons rfl (.cons rfl (.cons rfl (.cons rfl (.cons rfl (.cons rfl (.cons rfl (.cons rfl (.nil))))))))))))
                    · intro hbr
                      have hbr := of_decide_eq_false hbr
                      (exfalso; omega)
                  intro hbr
                  have hbr := of_decide_eq_false hbr
                  refine l_guard_no rfl rfl rfl ?_
                  refine l_guard_no rfl rfl rfl ?_
                  refine l_guard_no rfl rfl rfl ?_
                  refine l_guard_no rfl rfl rfl ?_
                  refine l_guard_no rfl rfl rfl ?_
                  refine l_pick_f rfl rfl rfl ?_
                  refine l_assign rfl rfl ?_
                  refine l_nil ?_
                  refine g_seq ?_
                  refine g_seq ?_
                  refine gp_start mo (by kernel_rfl) (by kernel_rfl) ?_
                  refine gp_quiet 0 rfl rfl rfl rfl rfl rfl (q_move rfl) ?_
                  refine gp_quiet 1 rfl rfl rfl rfl rfl rfl (q_not rfl) ?_
                  refine gp_quiet 2 rfl rfl rfl rfl rfl rfl (q_move rfl) ?_
                  refine gp_quietg 3 rfl rfl rfl rfl rfl rfl (.yes rfl rfl (q_move rfl)) ?_
                  refine gp_quietg 4 rfl rfl rfl rfl rfl rfl (.yes rfl rfl (q_move rfl)) ?_
                  refine gp_quietg 5 rfl rfl rfl rfl rfl rfl (.yes rfl rfl (q_ixs Try.underlying23 Try.sizeOf30 rfl rfl (by omega) (by omega))) ?_
                  first | refine gp_quietg 6 rfl rfl rfl rfl rfl rfl (.yes rfl rfl (q_ld Try.isAgg30 rfl rfl)) ?_ | refine gp_quietg 6 rfl rfl rfl rfl rfl rfl (.yes rfl rfl (q_ldw Try.isAgg30 rfl (by omega))) ?_
                  refine gp_quietg 7 rfl rfl rfl rfl rfl rfl (.yes rfl rfl (q_move rfl)) ?_
                  refine gp_quietg 8 rfl rfl rfl rfl rfl rfl (.yes rfl rfl (q_move rfl)) ?_
                  refine gp_quietg 9 rfl rfl rfl rfl rfl rfl (.yes rfl rfl (q_ixs Try.underlying23 Try.sizeOf30 rfl rfl (by omega) (by omega))) ?_
                  first | refine gp_quietg 10 rfl rfl rfl rfl rfl rfl (.yes rfl rfl (q_ld Try.isAgg30 rfl rfl)) ?_ | refine gp_quietg 10 rfl rfl rfl rfl rfl rfl (.yes rfl rfl (q_ldw Try.isAgg30 rfl (by omega))) ?_
                  refine gp_quietg 11 rfl rfl rfl rfl rfl rfl (.yes rfl rfl (q_neq rfl rfl)) ?_
                  refine gp_quiet 12 rfl rfl rfl rfl rfl rfl (q_pick_t rfl rfl) ?_
                  refine gp_end rfl rfl ?_
                  refine g_cond rfl ?_ ?_
                  · intro hbr
                    have hbr := of_decide_eq_true hbr
                    (exfalso; omega)
                  intro hbr
                  have hbr := of_decide_eq_false hbr
                  refine g_skip ?_
                  refine g_seq ?_
                  refine g_region ?_
                  refine l_move rfl rfl ?_
                  refine l_nil ?_
                  refine g_cond_f rfl ?_
                  refine g_skip ?_
                  refine g_inBlock ?_
                  refine g_region ?_
                  refine l_move rfl rfl ?_
                  first | refine l_add rfl rfl rfl (w_i64 (by omega) (by omega)) ?_ | refine l_addw rfl rfl rfl ?_
                  refine l_assign rfl rfl ?_
                  refine l_nil ?_
                  exact g_againi (ihk (k + 1) (by omega) (by omega)) (.cons rfl (.cons rfl (.cons rfl (.cons rfl (.cons rfl (.cons rfl (.cons rfl (.cons rfl (.cons rfl (.cons rfl (.cons rfl (.nil))))))))))))
                · intro hbr
                  have hbr := of_decide_eq_false hbr
                  (exfalso; omega)
              intro hbr
              have hbr := of_decide_eq_false hbr
              refine g_exit rfl ?_
              refine g_seq ?_
              refine g_region ?_
              refine l_move rfl rfl ?_
              refine l_fronto g2 ?_
              refine l_frontb b2 ?_
              refine l_call rfl Try.call18 rfl (words_ok _ _ b2 g2 n c2 W hW hc2 hn) ?_; rintro _ _ ⟨qc, cc, rfl, hcc, rfl⟩
              refine l_move rfl rfl ?_
              refine l_fronto qa ?_
              refine l_fronto qc ?_
              refine l_call rfl Try.call21 rfl (same_words _ _ _ _ _ _ _ _ _ W hW hn (.own (mem_getO 0 rfl)) (.own (mem_getO 1 rfl))) ?_; rintro _ _ ⟨rfl, rfl⟩
              refine l_not rfl rfl ?_
              refine l_nil ?_
              refine g_cond_f rfl ?_
              refine g_skip ?_
              refine g_inBlock ?_
              refine g_region ?_
              refine l_move rfl rfl ?_
              first | refine l_add rfl rfl rfl (w_i64 (by omega) (by omega)) ?_ | refine l_addw rfl rfl rfl ?_
              refine l_assign rfl rfl ?_
              refine l_nil ?_
              exact g_againi (ih (i + 1, W2) ⟨by simp only; omega, by simp only; omega, hlen2⟩ (by simp only; omega)) (.cons rfl (.cons rfl (.cons rfl (.cons rfl (.nil)))))
            · intro hbr
              have hbr := of_decide_eq_false hbr
              (exfalso; omega)
          intro hbr
          have hbr := of_decide_eq_false hbr
          refine l_guard_no rfl rfl rfl ?_
          refine l_pick_f rfl rfl rfl ?_
          refine l_move rfl rfl ?_
          refine l_guard_no rfl rfl rfl ?_
          refine l_guard_no rfl rfl rfl ?_
          refine l_pick_f rfl rfl rfl ?_
          refine l_nil ?_
          refine g_cond_f rfl ?_
          refine g_skip ?_
          refine g_seq ?_
          refine g_seq ?_
          refine g_region ?_
          refine l_assign rfl rfl ?_
          refine l_nil ?_
          refine g_block ?_
          refine g_loop (X := Int) (fun k => 0 ≤ k ∧ k ≤ n) (fun k => (n - k).toNat) (fun k => [(0, .int .i64 fr), (1, .slice (some ⟨bs, os_, none⟩) ns cs), (5, .pointer (some ⟨b, 0, none⟩)), (7, .int .i64 i), (8, .slice (some ⟨qa, 0, none⟩) n ca), (9, .pointer (some ⟨b2, 0, none⟩)), (10, .int .i64 a), (11, .int .i64 cnt), (12, .int .i64 e), (13, .slice (some ⟨qb, 0, none⟩) n cb), (15, .int .i64 k)]) (fun k => Own 30 1 (.slice (some ⟨qa, 0, none⟩) n ca) n (ints .u32 W) :: Own 30 1 (.slice (some ⟨qb, 0, none⟩) n cb) n (ints .u32 W2) :: Blk b2 (.cells [.slice (some ⟨g2, 0, none⟩) n c2].toArray 77 (0, 0)) :: Own 30 1 (.slice (some ⟨g2, 0, none⟩) n c2) n (ints .u32 W) :: Blk b (.cells [.slice (some ⟨g, 0, none⟩) n c].toArray 77 (0, 0)) :: Own 30 1 (.slice (some ⟨g, 0, none⟩) n c) n (ints .u32 W2) :: F) 0 (by omega) (.cons rfl (.cons rfl (.cons rfl (.cons rfl (.cons rfl (.cons rfl (.cons rfl (.cons rfl (.cons rfl (.cons rfl (.cons rfl (.nil)))))))))))) (fun w hw => SPI.holds hw) ?_
          rintro k ⟨k0, k1⟩ ihk
          have hat := hdid.at_
          have hatk := fun h => hat h k.toNat
          have hpl := fun h1 h2 => hdid.plain h1 h2 k.toNat
          have hly := fun h1 => (hdid.lay h1).2 k.toNat
          have hmv := fun h1 h2 => (hdid.move h1 h2).2 k.toNat
          rw [Int.toNat_of_nonneg k0] at hpl hly hmv
          have hbk : e ≠ 0 → W2.getD k.toNat 0 = W.getD k.toNat 0 := fun h => by rw [hbad h]
          have hin : e = 0 → a ≤ k → k < a + cnt → W2.getD k.toNat 0 = want k := fun h h1 h2 => by rw [hatk h, if_pos (by omega), Int.toNat_of_nonneg k0]
          have hno : e = 0 → ¬ (a ≤ k ∧ k < a + cnt) → W2.getD k.toNat 0 = W.getD k.toNat 0 := fun h h1 => by rw [hatk h, if_neg (by omega)]
          clear hat hatk
          refine g_seq ?_
          refine g_seq ?_
          refine g_region ?_
          refine l_move rfl rfl ?_
          refine l_move rfl rfl ?_
          refine l_len rfl Try.underlying23 rfl ?_
          refine l_lss rfl rfl rfl ?_
          refine l_nil ?_
          refine g_cond rfl ?_ ?_
          · intro hbr
            have hbr := of_decide_eq_true hbr
            refine g_skip ?_
            refine g_seq ?_
            refine g_block ?_
            refine g_seq ?_
            refine g_region ?_
            refine l_move rfl rfl ?_
            refine l_eql rfl rfl rfl ?_
            refine l_move rfl rfl ?_
            refine l_split 126 rfl ?_ ?_
            · intro hbr
              have hbr := of_decide_eq_true hbr
              refine l_guard_yes rfl rfl ?_
              refine l_move rfl rfl ?_
              refine l_guard_yes rfl rfl ?_
              refine l_move rfl rfl ?_
              refine l_guard_yes rfl rfl ?_
              refine l_geq rfl rfl rfl ?_
              refine l_pick_t rfl rfl rfl ?_
              refine l_move rfl rfl ?_
              refine l_split 131 rfl ?_ ?_
              · intro hbr
                have hbr := of_decide_eq_true hbr
                refine l_guard_yes rfl rfl ?_
                refine l_move rfl rfl ?_
                refine l_guard_yes rfl rfl ?_
                refine l_move rfl rfl ?_
                refine l_guard_yes rfl rfl ?_
                refine l_move rfl rfl ?_
                refine l_guard_yes rfl rfl ?_
                first | refine l_add rfl rfl rfl (w_i64 (by omega) (by omega)) ?_ | refine l_addw rfl rfl rfl ?_
                refine l_guard_yes rfl rfl ?_
                refine l_lss rfl rfl rfl ?_
                refine l_pick_t rfl rfl rfl ?_
                refine l_assign rfl rfl ?_
                refine l_nil ?_
                refine g_seq ?_
                refine g_seq ?_
                refine gp_start mo (by kernel_rfl) (by kernel_rfl) ?_
                refine gp_quiet 0 rfl rfl rfl rfl rfl rfl (q_move rfl) ?_
                refine gp_quiet 1 rfl rfl rfl rfl rfl rfl (q_not rfl) ?_
                refine gp_quiet 2 rfl rfl rfl rfl rfl rfl (q_move rfl) ?_
                refine gp_split 140 rfl ?_ ?_
                · intro hbr
                  have hg140 := hbr
                  have hbr := of_decide_eq_false (nb_t hbr)
                  refine gp_quietg 3 rfl rfl rfl rfl rfl rfl (.yes rfl rfl (q_move rfl)) ?_
                  refine gp_quietg 4 rfl rfl rfl rfl rfl rfl (.yes rfl rfl (q_move rfl)) ?_
                  refine gp_quietg 5 rfl rfl rfl rfl rfl rfl (.yes rfl rfl (q_ixs Try.underlying23 Try.sizeOf30 rfl rfl (by omega) (by omega))) ?_
                  first | refine gp_quietg 6 rfl rfl rfl rfl rfl rfl (.yes rfl rfl (q_ld Try.isAgg30 rfl rfl)) ?_ | refine gp_quietg 6 rfl rfl rfl rfl rfl rfl (.yes rfl rfl (q_ldw Try.isAgg30 rfl (by omega))) ?_
                  refine gp_quietg 7 rfl rfl rfl rfl rfl rfl (.yes rfl rfl (q_move rfl)) ?_
                  refine gp_quietg 8 rfl rfl rfl rfl rfl rfl (.yes rfl rfl (q_move rfl)) ?_
                  refine gp_quietg 9 rfl rfl rfl rfl rfl rfl (.yes rfl rfl (q_ixs Try.underlying23 Try.sizeOf30 rfl rfl (by omega) (by omega))) ?_
                  first | refine gp_quietg 10 rfl rfl rfl rfl rfl rfl (.yes rfl rfl (q_ld Try.isAgg30 rfl rfl)) ?_ | refine gp_quietg 10 rfl rfl rfl rfl rfl rfl (.yes rfl rfl (q_ldw Try.isAgg30 rfl (by omega))) ?_
                  refine gp_quietg 11 rfl rfl rfl rfl rfl rfl (.yes rfl rfl (q_neq rfl rfl)) ?_
                  refine gp_quiet 12 rfl rfl rfl rfl rfl rfl (q_pick_t rfl rfl) ?_
                  refine gp_end rfl rfl ?_
                  refine g_cond rfl ?_ ?_
                  · intro hbr
                    have hbr := of_decide_eq_true hbr
                    (exfalso; omega)
                  intro hbr
                  have hbr := of_decide_eq_false hbr
                  refine g_skip ?_
                  refine g_seq ?_
                  refine g_region ?_
                  refine l_move rfl rfl ?_
                  refine l_nil ?_
                  refine g_cond rfl ?_ ?_
                  · intro hbr
                    have hbr := of_decide_eq_true hbr
                    (exfalso; omega)
                  intro hbr
                  have hbr := of_decide_eq_false hbr
                  refine g_skip ?_
                  refine g_inBlock ?_
                  refine g_region ?_
                  refine l_move rfl rfl ?_
                  first | refine l_add rfl rfl rfl (w_i64 (by omega) (by omega)) ?_ | refine l_addw rfl rfl rfl ?_
                  refine l_assign rfl rfl ?_
                  refine l_nil ?_
                  exact g_againi (ihk (k + 1) (by omega) (by omega)) (.cons rfl (.cons rfl (.cons rfl (.cons rfl (.cons rfl (.cons rfl (.cons rfl (.cons rfl (.cons rfl (.cons rfl (.cons rfl (.nil))))))))))))
                intro hbr
                have hg140 := hbr
                have hbr := of_decide_eq_true (nb_f hbr)
                refine gp_quietg 3 rfl rfl rfl rfl rfl rfl (.no rfl rfl) ?_
                refine gp_quietg 4 rfl rfl rfl rfl rfl rfl (.no rfl rfl) ?_
                refine gp_quietg 5 rfl rfl rfl rfl rfl rfl (.no rfl rfl) ?_
                refine gp_quietg 6 rfl rfl rfl rfl rfl rfl (.no rfl rfl) ?_
                refine gp_quietg 7 rfl rfl rfl rfl rfl rfl (.no rfl rfl) ?_
                refine gp_quietg 8 rfl rfl rfl rfl rfl rfl (.no rfl rfl) ?_
                refine gp_quietg 9 rfl rfl rfl rfl rfl rfl (.no rfl rfl) ?_
                refine gp_quietg 10 rfl rfl rfl rfl rfl rfl (.no rfl rfl) ?_
                refine gp_quietg 11 rfl rfl rfl rfl rfl rfl (.no rfl rfl) ?_
                refine gp_quiet 12 rfl rfl rfl rfl rfl rfl (q_pick_f rfl rfl) ?_
                refine gp_end rfl rfl ?_
                refine g_cond_f rfl ?_
                refine g_skip ?_
                refine g_seq ?_
                refine g_region ?_
                refine l_move rfl rfl ?_
                refine l_nil ?_
                refine g_cond rfl ?_ ?_
                · intro hbr
                  have hbr := of_decide_eq_true hbr
                  refine g_seq ?_
                  refine g_region ?_
                  refine l_move rfl rfl ?_
                  refine l_move rfl rfl ?_
                  refine l_ixs rfl Try.underlying51 Try.sizeOf58 rfl rfl (by omega) (by omega) ?_
                  refine l_fieldAddr rfl fa_58_2 rfl ?_
                  refine l_loadc rfl Try.isAgg3 rfl ((row_elem hs.ex (act_len L) hrow).cell (j := 2) (v := .int .i64 bb) rfl) ?_
                  refine l_move rfl rfl ?_
                  first | refine l_add rfl rfl rfl (w_i64 (by omega) (by omega)) ?_ | refine l_addw rfl rfl rfl ?_
                  refine l_move rfl rfl ?_
                  first | refine l_sub_ rfl rfl rfl (w_i64 (by omega) (by omega)) ?_ | refine l_subw rfl rfl rfl ?_
                  refine l_assign rfl rfl ?_
                  refine l_nil ?_
                  refine g_seq ?_
                  refine g_seq ?_
                  refine g_region ?_
                  refine l_move rfl rfl ?_
                  refine l_move rfl rfl ?_
                  refine l_ixs rfl Try.underlying51 Try.sizeOf58 rfl rfl (by omega) (by omega) ?_
                  refine l_fieldAddr rfl fa_58_0 rfl ?_
                  refine l_loadc rfl Try.isAgg3 rfl ((row_elem hs.ex (act_len L) hrow).cell (j := 0) (v := .int .i64 kd) rfl) ?_
                  refine l_call rfl Try.call8 rfl (pick_ok _ _ _ _ (by omega) (by omega) (by omega) (by omega)) ?_; rintro _ F9 ⟨rfl, hF9⟩; rw [hF9]; clear hF9 F9
                  refine l_eql rfl rfl rfl ?_
                  refine l_move rfl rfl ?_
                  refine l_split 168 rfl ?_ ?_
                  · intro hbr
                    have hbr := of_decide_eq_true hbr
                    refine l_guard_yes rfl rfl ?_
                    refine l_move rfl rfl ?_
                    refine l_guard_yes rfl rfl ?_
                    refine l_lss rfl rfl rfl ?_
                    refine l_guard_yes rfl rfl ?_
                    refine l_move rfl rfl ?_
                    refine l_split 171 rfl ?_ ?_
                    · intro hbr
                      have hbr := of_decide_eq_true hbr
                      (exfalso; omega)
                    intro hbr
                    have hbr := of_decide_eq_false hbr
                    refine l_guard_yes rfl rfl ?_
                    refine l_move rfl rfl ?_
                    refine l_guard_yes rfl rfl ?_
                    refine l_move rfl rfl ?_
                    refine l_guard_yes rfl rfl ?_
                    refine l_len rfl Try.underlying23 rfl ?_
                    refine l_guard_yes rfl rfl ?_
                    refine l_geq rfl rfl rfl ?_
                    refine l_guard_yes rfl rfl ?_
                    refine l_pick_f rfl rfl rfl ?_
                    refine l_pick_t rfl rfl rfl ?_
                    refine l_nil ?_
                    refine g_cond rfl ?_ ?_
                    · intro hbr
                      have hbr := of_decide_eq_true hbr
                      (exfalso; omega)
                    intro hbr
                    have hbr := of_decide_eq_false hbr
                    refine g_skip ?_
                    refine g_seq ?_
                    refine g_region ?_
                    refine l_move rfl rfl ?_
                    refine l_move rfl rfl ?_
                    refine l_ixs rfl Try.underlying51 Try.sizeOf58 rfl rfl (by omega) (by omega) ?_
                    refine l_fieldAddr rfl fa_58_4 rfl ?_
                    refine l_loadc rfl Try.isAgg30 rfl ((row_elem hs.ex (act_len L) hrow).cell (j := 4) (v := .int .u32 w) rfl) ?_
                    refine l_assign rfl rfl ?_
                    refine l_nil ?_
                    refine g_seq ?_
                    refine g_seq ?_
                    refine g_region ?_
                    refine l_move rfl rfl ?_
                    refine l_move rfl rfl ?_
                    refine l_ixs rfl Try.underlying51 Try.sizeOf58 rfl rfl (by omega) (by omega) ?_
                    refine l_fieldAddr rfl fa_58_0 rfl ?_
                    refine l_loadc rfl Try.isAgg3 rfl ((row_elem hs.ex (act_len L) hrow).cell (j := 0) (v := .int .i64 kd) rfl) ?_
                    refine l_call rfl Try.call8 rfl (pick_ok _ _ _ _ (by omega) (by omega) (by omega) (by omega)) ?_; rintro _ F9 ⟨rfl, hF9⟩; rw [hF9]; clear hF9 F9
                    refine l_eql rfl rfl rfl ?_
                    refine l_nil ?_
                    refine g_cond rfl ?_ ?_
                    · intro hbr
                      have hbr := of_decide_eq_true hbr
                      (exfalso; omega)
                    intro hbr
                    have hbr := of_decide_eq_false hbr
                    refine g_skip ?_
                    refine g_seq ?_
                    refine g_seq ?_
                    refine g_region ?_
                    refine l_move rfl rfl ?_
                    refine l_move rfl rfl ?_
                    refine l_ixs rfl Try.underlying51 Try.sizeOf58 rfl rfl (by omega) (by omega) ?_
                    refine l_fieldAddr rfl fa_58_0 rfl ?_
                    refine l_loadc rfl Try.isAgg3 rfl ((row_elem hs.ex (act_len L) hrow).cell (j := 0) (v := .int .i64 kd) rfl) ?_
                    refine l_call rfl Try.call8 rfl (pick_ok _ _ _ _ (by omega) (by omega) (by omega) (by omega)) ?_; rintro _ F9 ⟨rfl, hF9⟩; rw [hF9]; clear hF9 F9
                    refine l_eql rfl rfl rfl ?_
                    refine l_nil ?_
                    refine g_cond rfl ?_ ?_
                    · intro hbr
                      have hbr := of_decide_eq_true hbr
                      refine g_region ?_
                      refine l_move rfl rfl ?_
                      refine l_move rfl rfl ?_
                      refine l_ixs rfl Try.underlying23 Try.sizeOf30 rfl rfl (by omega) (by omega) ?_
                      first | refine l_ld rfl Try.isAgg30 rfl rfl ?_ | refine l_ldw rfl Try.isAgg30 rfl (by omega) ?_
                      refine l_assign rfl rfl ?_
                      refine l_nil ?_
                      refine g_seq ?_
                      refine g_region ?_
                      refine l_move rfl rfl ?_
                      refine l_move rfl rfl ?_
                      refine l_ixs rfl Try.underlying23 Try.sizeOf30 rfl rfl (by omega) (by omega) ?_
                      first | refine l_ld rfl Try.isAgg30 rfl rfl ?_ | refine l_ldw rfl Try.isAgg30 rfl (by omega) ?_
                      refine l_move rfl rfl ?_
                      refine l_neq rfl rfl rfl ?_
                      refine l_nil ?_
                      refine g_cond rfl ?_ ?_
                      · intro hbr
                        have hbr := of_decide_eq_true hbr
                        (exfalso; omega)
                      intro hbr
                      have hbr := of_decide_eq_false hbr
                      refine g_skip ?_
                      refine g_inBlock ?_
                      refine g_region ?_
                      refine l_move rfl rfl ?_
                      first | refine l_add rfl rfl rfl (w_i64 (by omega) (by omega)) ?_ | refine l_addw rfl rfl rfl ?_
                      refine l_assign rfl rfl ?_
                      refine l_nil ?_
                      exact g_againi (ihk (k + 1) (by omega) (by omega)) (.cons rfl (.cons rfl (.cons rfl (.cons rfl (.cons rfl (.cons rfl (.cons rfl (.cons rfl (.cons rfl (.cons rfl (.cons rfl (.nil))))))))))))
                    · intro hbr
                      have hbr := of_decide_eq_false hbr
                      (exfalso; omega)
                  · intro hbr
                    have hbr := of_decide_eq_false hbr
                    (exfalso; omega)
                · intro hbr
                  have hbr := of_decide_eq_false hbr
                  (exfalso; omega)
              intro hbr
              have hbr := of_decide_eq_false hbr
              refine l_guard_no rfl rfl rfl ?_
              refine l_guard_no rfl rfl rfl ?_
              refine l_guard_no rfl rfl rfl ?_
              refine l_guard_no rfl rfl rfl ?_
              refine l_guard_no rfl rfl rfl ?_
              refine l_pick_f rfl rfl rfl ?_
              refine l_assign rfl rfl ?_
              refine l_nil ?_
              refine g_seq ?_
              refine g_seq ?_
              refine gp_start mo (by kernel_rfl) (by kernel_rfl) ?_
              refine gp_quiet 0 rfl rfl rfl rfl rfl rfl (q_move rfl) ?_
              refine gp_quiet 1 rfl rfl rfl rfl rfl rfl (q_not rfl) ?_
              refine gp_quiet 2 rfl rfl rfl rfl rfl rfl (q_move rfl) ?_
              refine gp_quietg 3 rfl rfl rfl rfl rfl rfl (.yes rfl rfl (q_move rfl)) ?_
              refine gp_quietg 4 rfl rfl rfl rfl rfl rfl (.yes rfl rfl (q_move rfl)) ?_
              refine gp_quietg 5 rfl rfl rfl rfl rfl rfl (.yes rfl rfl (q_ixs Try.underlying23 Try.sizeOf30 rfl rfl (by omega) (by omega))) ?_
              first | refine gp_quietg 6 rfl rfl rfl rfl rfl rfl (.yes rfl rfl (q_ld Try.isAgg30 rfl rfl)) ?_ | refine gp_quietg 6 rfl rfl rfl rfl rfl rfl (.yes rfl rfl (q_ldw Try.isAgg30 rfl (by omega))) ?_
              refine gp_quietg 7 rfl rfl rfl rfl rfl rfl (.yes rfl rfl (q_move rfl)) ?_
              refine gp_quietg 8 rfl rfl rfl rfl rfl rfl (.yes rfl rfl (q_move rfl)) ?_
              refine gp_quietg 9 rfl rfl rfl rfl rfl rfl (.yes rfl rfl (q_ixs Try.underlying23 Try.sizeOf30 rfl rfl (by omega) (by omega))) ?_
              first | refine gp_quietg 10 rfl rfl rfl rfl rfl rfl (.yes rfl rfl (q_ld Try.isAgg30 rfl rfl)) ?_ | refine gp_quietg 10 rfl rfl rfl rfl rfl rfl (.yes rfl rfl (q_ldw Try.isAgg30 rfl (by omega))) ?_
              refine gp_quietg 11 rfl rfl rfl rfl rfl rfl (.yes rfl rfl (q_neq rfl rfl)) ?_
              refine gp_quiet 12 rfl rfl rfl rfl rfl rfl (q_pick_t rfl rfl) ?_
              refine gp_end rfl rfl ?_
              refine g_cond rfl ?_ ?_
              · intro hbr
                have hbr := of_decide_eq_true hbr
                (exfalso; omega)
              intro hbr
              have hbr := of_decide_eq_false hbr
              refine g_skip ?_
              refine g_seq ?_
              refine g_region ?_
              refine l_move rfl rfl ?_
              refine l_nil ?_
              refine g_cond_f rfl ?_
              refine g_skip ?_
              refine g_inBlock ?_
              refine g_region ?_
              refine l_move rfl rfl ?_
              first | refine l_add rfl rfl rfl (w_i64 (by omega) (by omega)) ?_ | refine l_addw rfl rfl rfl ?_
              refine l_assign rfl rfl ?_
              refine l_nil ?_
              exact g_againi (ihk (k + 1) (by omega) (by omega)) (.cons rfl (.cons rfl (.cons rfl (.cons rfl (.cons rfl (.cons rfl (.cons rfl (.cons rfl (.cons rfl (.cons rfl (.cons rfl (.nil))))))))))))
            intro hbr
            have hbr := of_decide_eq_false hbr
            refine l_guard_no rfl rfl rfl ?_
            refine l_guard_no rfl rfl rfl ?_
            refine l_guard_no rfl rfl rfl ?_
            refine l_pick_f rfl rfl rfl ?_
            refine l_move rfl rfl ?_
            refine l_guard_no rfl rfl rfl ?_
            refine l_guard_no rfl rfl rfl ?_
            refine l_guard_no rfl rfl rfl ?_
            refine l_guard_no rfl rfl rfl ?_
            refine l_guard_no rfl rfl rfl ?_
            refine l_pick_f rfl rfl rfl ?_
            refine l_assign rfl rfl ?_
            refine l_nil ?_
            refine g_seq ?_
            refine g_seq ?_
            refine gp_start mo (by kernel_rfl) (by kernel_rfl) ?_
            refine gp_quiet 0 rfl rfl rfl rfl rfl rfl (q_move rfl) ?_
            refine gp_quiet 1 rfl rfl rfl rfl rfl rfl (q_not rfl) ?_
            refine gp_quiet 2 rfl rfl rfl rfl rfl rfl (q_move rfl) ?_
            refine gp_quietg 3 rfl rfl rfl rfl rfl rfl (.yes rfl rfl (q_move rfl)) ?_
            refine gp_quietg 4 rfl rfl rfl rfl rfl rfl (.yes rfl rfl (q_move rfl)) ?_
            refine gp_quietg 5 rfl rfl rfl rfl rfl rfl (.yes rfl rfl (q_ixs Try.underlying23 Try.sizeOf30 rfl rfl (by omega) (by omega))) ?_
            first | refine gp_quietg 6 rfl rfl rfl rfl rfl rfl (.yes rfl rfl (q_ld Try.isAgg30 rfl rfl)) ?_ | refine gp_quietg 6 rfl rfl rfl rfl rfl rfl (.yes rfl rfl (q_ldw Try.isAgg30 rfl (by omega))) ?_
            refine gp_quietg 7 rfl rfl rfl rfl rfl rfl (.yes rfl rfl (q_move rfl)) ?_
            refine gp_quietg 8 rfl rfl rfl rfl rfl rfl (.yes rfl rfl (q_move rfl)) ?_
            refine gp_quietg 9 rfl rfl rfl rfl rfl rfl (.yes rfl rfl (q_ixs Try.underlying23 Try.sizeOf30 rfl rfl (by omega) (by omega))) ?_
            first | refine gp_quietg 10 rfl rfl rfl rfl rfl rfl (.yes rfl rfl (q_ld Try.isAgg30 rfl rfl)) ?_ | refine gp_quietg 10 rfl rfl rfl rfl rfl rfl (.yes rfl rfl (q_ldw Try.isAgg30 rfl (by omega))) ?_
            refine gp_quietg 11 rfl rfl rfl rfl rfl rfl (.yes rfl rfl (q_neq rfl rfl)) ?_
            refine gp_quiet 12 rfl rfl rfl rfl rfl rfl (q_pick_t rfl rfl) ?_
            refine gp_end rfl rfl ?_
            refine g_cond rfl ?_ ?_
            · intro hbr
              have hbr := of_decide_eq_true hbr
              (exfalso; omega)
            intro hbr
            have hbr := of_decide_eq_false hbr
            refine g_skip ?_
            refine g_seq ?_
            refine g_region ?_
            refine l_move rfl rfl ?_
            refine l_nil ?_
            refine g_cond_f rfl ?_
            refine g_skip ?_
            refine g_inBlock ?_
            refine g_region ?_
            refine l_move rfl rfl ?_
            first | refine l_add rfl rfl rfl (w_i64 (by omega) (by omega)) ?_ | refine l_addw rfl rfl rfl ?_
            refine l_assign rfl rfl ?_
            refine l_nil ?_
            exact g_againi (ihk (k + 1) (by omega) (by omega)) (.cons rfl (.cons rfl (.cons rfl (.cons rfl (.cons rfl (.cons rfl (.cons rfl (.cons rfl (.cons rfl (.cons rfl (.cons rfl (.nil))))))))))))
          intro hbr
          have hbr := of_decide_eq_false hbr
          refine g_exit rfl ?_
          refine g_seq ?_
          refine g_region ?_
          refine l_move rfl rfl ?_
          refine l_fronto g2 ?_
          refine l_frontb b2 ?_
          refine l_call rfl Try.call18 rfl (words_ok _ _ b2 g2 n c2 W hW hc2 hn) ?_; rintro _ _ ⟨qc, cc, rfl, hcc, rfl⟩
          refine l_move rfl rfl ?_
          refine l_fronto qa ?_
          refine l_fronto qc ?_
          refine l_call rfl Try.call21 rfl (same_words _ _ _ _ _ _ _ _ _ W hW hn (.own (mem_getO 0 rfl)) (.own (mem_getO 1 rfl))) ?_; rintro _ _ ⟨rfl, rfl⟩
          refine l_not rfl rfl ?_
          refine l_nil ?_
          refine g_cond_f rfl ?_
          refine g_skip ?_
          refine g_inBlock ?_
          refine g_region ?_
          refine l_move rfl rfl ?_
          first | refine l_add rfl rfl rfl (w_i64 (by omega) (by omega)) ?_ | refine l_addw rfl rfl rfl ?_
          refine l_assign rfl rfl ?_
          refine l_nil ?_
          exact g_againi (ih (i + 1, W2) ⟨by simp only; omega, by simp only; omega, hlen2⟩ (by simp only; omega)) (.cons rfl (.cons rfl (.cons rfl (.cons rfl (.nil)))))
        intro hbr
        have hbr := of_decide_eq_false hbr
        refine l_guard_no rfl rfl rfl ?_
        refine l_guard_no rfl rfl rfl ?_
        refine l_guard_no rfl rfl rfl ?_
        refine l_guard_no rfl rfl rfl ?_
        refine l_guard_no rfl rfl rfl ?_
        refine l_guard_no rfl rfl rfl ?_
        refine l_pick_f rfl rfl rfl ?_
        refine l_assign rfl rfl ?_
        refine l_nil ?_
        refine g_seq ?_
        refine g_seq ?_
        refine g_region ?_
        refine l_move rfl rfl ?_
        refine l_len rfl Try.underlying23 rfl ?_
        refine l_move rfl rfl ?_
        refine l_len rfl Try.underlying23 rfl ?_
        refine l_neq rfl rfl rfl ?_
        refine l_move rfl rfl ?_
        refine l_split 87 rfl ?_ ?_
        · intro hbr
          have hbr := of_decide_eq_true hbr
          (exfalso; omega)
        intro hbr
        have hbr := of_decide_eq_false hbr
        refine l_guard_yes rfl rfl ?_
        refine l_move rfl rfl ?_
        refine l_guard_yes rfl rfl ?_
        refine l_len rfl Try.underlying23 rfl ?_
        refine l_guard_yes rfl rfl ?_
        refine l_move rfl rfl ?_
        refine l_guard_yes rfl rfl ?_
        refine l_call rfl Try.call8 rfl (pick_ok _ _ _ _ (by omega) (by omega) (by omega) (by omega)) ?_; rintro _ F9 ⟨rfl, hF9⟩; rw [hF9]; clear hF9 F9
        refine l_guard_yes rfl rfl ?_
        first | refine l_add rfl rfl rfl (w_i64 (by omega) (by omega)) ?_ | refine l_addw rfl rfl rfl ?_
        refine l_guard_yes rfl rfl ?_
        first | refine l_mul rfl rfl rfl (w_i64 (by omega) (by omega)) ?_ | refine l_mulw rfl rfl rfl ?_
        refine l_guard_yes rfl rfl ?_
        refine l_neq rfl rfl rfl ?_
        refine l_pick_f rfl rfl rfl ?_
        refine l_move rfl rfl ?_
        refine l_split 96 rfl ?_ ?_
        · intro hbr
          have hbr := of_decide_eq_true hbr
          (exfalso; omega)
        intro hbr
        have hbr := of_decide_eq_false hbr
        refine l_guard_yes rfl rfl ?_
        refine l_move rfl rfl ?_
        refine l_guard_yes rfl rfl ?_
        refine l_not rfl rfl ?_
        refine l_guard_yes rfl rfl ?_
        refine l_move rfl rfl ?_
        refine l_guard_yes rfl rfl ?_
        refine l_move rfl rfl ?_
        refine l_guard_yes rfl rfl ?_
        refine l_neq rfl rfl rfl ?_
        refine l_guard_yes rfl rfl ?_
        refine l_pick_t rfl rfl rfl ?_
        refine l_pick_f rfl rfl rfl ?_
        refine l_nil ?_
        refine g_cond rfl ?_ ?_
        · intro hbr
          have hbr := of_decide_eq_true hbr
          (exfalso; omega)
        intro hbr
        have hbr := of_decide_eq_false hbr
        refine g_skip ?_
        refine g_seq ?_
        refine g_seq ?_
        refine g_region ?_
        refine l_move rfl rfl ?_
        refine l_move rfl rfl ?_
        refine l_ixs rfl Try.underlying51 Try.sizeOf58 rfl rfl (by omega) (by omega) ?_
        refine l_fieldAddr rfl fa_58_0 rfl ?_
        refine l_loadc rfl Try.isAgg3 rfl ((row_elem hs.ex (act_len L) hrow).cell (j := 0) (v := .int .i64 kd) rfl) ?_
        refine l_call rfl Try.call8 rfl (pick_ok _ _ _ _ (by omega) (by omega) (by omega) (by omega)) ?_; rintro _ F9 ⟨rfl, hF9⟩; rw [hF9]; clear hF9 F9
        refine l_lss rfl rfl rfl ?_
        refine l_move rfl rfl ?_
        refine l_split 111 rfl ?_ ?_
        · intro hbr
          have hbr := of_decide_eq_true hbr
          refine l_guard_yes rfl rfl ?_
          refine l_move rfl rfl ?_
          refine l_pick_t rfl rfl rfl ?_
          refine l_move rfl rfl ?_
          refine l_guard_no rfl rfl rfl ?_
          refine l_guard_no rfl rfl rfl ?_
          refine l_pick_f rfl rfl rfl ?_
          refine l_nil ?_
          refine g_cond_f rfl ?_
          refine g_skip ?_
          refine g_seq ?_
          refine g_seq ?_
          refine g_region ?_
          refine l_assign rfl rfl ?_
          refine l_nil ?_
          refine g_block ?_
          refine g_loop (X := Int) (fun k => 0 ≤ k ∧ k ≤ n) (fun k => (n - k).toNat) (fun k => [(0, .int .i64 fr), (1, .slice (some ⟨bs, os_, none⟩) ns cs), (5, .pointer (some ⟨b, 0, none⟩)), (7, .int .i64 i), (8, .slice (some ⟨qa, 0, none⟩) n ca), (9, .pointer (some ⟨b2, 0, none⟩)), (10, .int .i64 a), (11, .int .i64 cnt), (12, .int .i64 e), (13, .slice (some ⟨qb, 0, none⟩) n cb), (15, .int .i64 k)]) (fun k => Own 30 1 (.slice (some ⟨qa, 0, none⟩) n ca) n (ints .u32 W) :: Own 30 1 (.slice (some ⟨qb, 0, none⟩) n cb) n (ints .u32 W2) :: Blk b2 (.cells [.slice (some ⟨g2, 0, none⟩) n c2].toArray 77 (0, 0)) :: Own 30 1 (.slice (some ⟨g2, 0, none⟩) n c2) n (ints .u32 W) :: Blk b (.cells [.slice (some ⟨g, 0, none⟩) n c].toArray 77 (0, 0)) :: Own 30 1 (.slice (some ⟨g, 0, none⟩) n c) n (ints .u32 W2) :: F) 0 (by omega) (.cons rfl (.cons rfl (.cons rfl (.cons rfl (.cons rfl (.cons rfl (.cons rfl (.cons rfl (.cons rfl (.cons rfl (.cons rfl (.nil)))))))))))) (fun w hw => SPI.holds hw) ?_
          rintro k ⟨k0, k1⟩ ihk
          have hat := hdid.at_
          have hatk := fun h => hat h k.toNat
          have hpl := fun h1 h2 => hdid.plain h1 h2 k.toNat
          have hly := fun h1 => (hdid.lay h1).2 k.toNat
          have hmv := fun h1 h2 => (hdid.move h1 h2).2 k.toNat
          rw [Int.toNat_of_nonneg k0] at hpl hly hmv
          have hbk : e ≠ 0 → W2.getD k.toNat 0 = W.getD k.toNat 0 := fun h => by rw [hbad h]
          have hin : e = 0 → a ≤ k → k < a + cnt → W2.getD k.toNat 0 = want k := fun h h1 h2 => by rw [hatk h, if_pos (by omega), Int.toNat_of_nonneg k0]
          have hno : e = 0 → ¬ (a ≤ k ∧ k < a + cnt) → W2.getD k.toNat 0 = W.getD k.toNat 0 := fun h h1 => by rw [hatk h, if_neg (by omega)]
          clear hat hatk
          refine g_seq ?_
          refine g_seq ?_
          refine g_region ?_
          refine l_move rfl rfl ?_
          refine l_move rfl rfl ?_
          refine l_len rfl Try.underlying23 rfl ?_
          refine l_lss rfl rfl rfl ?_
          refine l_nil ?_
          refine g_cond rfl ?_ ?_
          · intro hbr
            have hbr := of_decide_eq_true hbr
            refine g_skip ?_
            refine g_seq ?_
            refine g_block ?_
            refine g_seq ?_
            refine g_region ?_
            refine l_move rfl rfl ?_
            refine l_eql rfl rfl rfl ?_
            refine l_move rfl rfl ?_
            refine l_split 126 rfl ?_ ?_
            · intro hbr
              have hbr := of_decide_eq_true hbr
              (exfalso; omega)
            intro hbr
            have hbr := of_decide_eq_false hbr
            refine l_guard_no rfl rfl rfl ?_
            refine l_guard_no rfl rfl rfl ?_
            refine l_guard_no rfl rfl rfl ?_
            refine l_pick_f rfl rfl rfl ?_
            refine l_move rfl rfl ?_
            refine l_guard_no rfl rfl rfl ?_
            refine l_guard_no rfl rfl rfl ?_
            refine l_guard_no rfl rfl rfl ?_
            refine l_guard_no rfl rfl rfl ?_
            refine l_guard_no rfl rfl rfl ?_
            refine l_pick_f rfl rfl rfl ?_
            refine l_assign rfl rfl ?_
            refine l_nil ?_
            refine g_seq ?_
            refine g_seq ?_
            refine gp_start mo (by kernel_rfl) (by kernel_rfl) ?_
            refine gp_quiet 0 rfl rfl rfl rfl rfl rfl (q_move rfl) ?_
            refine gp_quiet 1 rfl rfl rfl rfl rfl rfl (q_not rfl) ?_
            refine gp_quiet 2 rfl rfl rfl rfl rfl rfl (q_move rfl) ?_
            refine gp_quietg 3 rfl rfl rfl rfl rfl rfl (.yes rfl rfl (q_move rfl)) ?_
            refine gp_quietg 4 rfl rfl rfl rfl rfl rfl (.yes rfl rfl (q_move rfl)) ?_
            refine gp_quietg 5 rfl rfl rfl rfl rfl rfl (.yes rfl rfl (q_ixs Try.underlying23 Try.sizeOf30 rfl rfl (by omega) (by omega))) ?_
            first | refine gp_quietg 6 rfl rfl rfl rfl rfl rfl (.yes rfl rfl (q_ld Try.isAgg30 rfl rfl)) ?_ | refine gp_quietg 6 rfl rfl rfl rfl rfl rfl (.yes rfl rfl (q_ldw Try.isAgg30 rfl (by omega))) ?_
            refine gp_quietg 7 rfl rfl rfl rfl rfl rfl (.yes rfl rfl (q_move rfl)) ?_
            refine gp_quietg 8 rfl rfl rfl rfl rfl rfl (.yes rfl rfl (q_move rfl)) ?_
            refine gp_quietg 9 rfl rfl rfl rfl rfl rfl (.yes rfl rfl (q_ixs Try.underlying23 Try.sizeOf30 rfl rfl (by omega) (by omega))) ?_
            first | refine gp_quietg 10 rfl rfl rfl rfl rfl rfl (.yes rfl rfl (q_ld Try.isAgg30 rfl rfl)) ?_ | refine gp_quietg 10 rfl rfl rfl rfl rfl rfl (.yes rfl rfl (q_ldw Try.isAgg30 rfl (by omega))) ?_
            refine gp_quietg 11 rfl rfl rfl rfl rfl rfl (.yes rfl rfl (q_neq rfl rfl)) ?_
            refine gp_quiet 12 rfl rfl rfl rfl rfl rfl (q_pick_t rfl rfl) ?_
            refine gp_end rfl rfl ?_
            refine g_cond rfl ?_ ?_
            · intro hbr
              have hbr := of_decide_eq_true hbr
              (exfalso; omega)
            intro hbr
            have hbr := of_decide_eq_false hbr
            refine g_skip ?_
            refine g_seq ?_
            refine g_region ?_
            refine l_move rfl rfl ?_
            refine l_nil ?_
            refine g_cond_f rfl ?_
            refine g_skip ?_
            refine g_inBlock ?_
            refine g_region ?_
            refine l_move rfl rfl ?_
            first | refine l_add rfl rfl rfl (w_i64 (by omega) (by omega)) ?_ | refine l_addw rfl rfl rfl ?_
            refine l_assign rfl rfl ?_
            refine l_nil ?_
            exact g_againi (ihk (k + 1) (by omega) (by omega)) (.cons rfl (.cons rfl (.cons rfl (.cons rfl (.cons rfl (.cons rfl (.cons rfl (.cons rfl (.cons rfl (.cons rfl (.cons rfl (.nil))))))))))))
          intro hbr
          have hbr := of_decide_eq_false hbr
          refine g_exit rfl ?_
          refine g_seq ?_
          refine g_region ?_
          refine l_move rfl rfl ?_
          refine l_fronto g2 ?_
          refine l_frontb b2 ?_
          refine l_call rfl Try.call18 rfl (words_ok _ _ b2 g2 n c2 W hW hc2 hn) ?_; rintro _ _ ⟨qc, cc, rfl, hcc, rfl⟩
          refine l_move rfl rfl ?_
          refine l_fronto qa ?_
          refine l_fronto qc ?_
          refine l_call rfl Try.call21 rfl (same_words _ _ _ _ _ _ _ _ _ W hW hn (.own (mem_getO 0 rfl)) (.own (mem_getO 1 rfl))) ?_; rintro _ _ ⟨rfl, rfl⟩
          refine l_not rfl rfl ?_
          refine l_nil ?_
          refine g_cond_f rfl ?_
          refine g_skip ?_
          refine g_inBlock ?_
          refine g_region ?_
          refine l_move rfl rfl ?_
          first | refine l_add rfl rfl rfl (w_i64 (by omega) (by omega)) ?_ | refine l_addw rfl rfl rfl ?_
          refine l_assign rfl rfl ?_
          refine l_nil ?_
          exact g_againi (ih (i + 1, W2) ⟨by simp only; omega, by simp only; omega, hlen2⟩ (by simp only; omega)) (.cons rfl (.cons rfl (.cons rfl (.cons rfl (.nil)))))
        intro hbr
        have hbr := of_decide_eq_false hbr
        refine l_guard_no rfl rfl rfl ?_
        refine l_pick_f rfl rfl rfl ?_
        refine l_move rfl rfl ?_
        refine l_guard_no rfl rfl rfl ?_
        refine l_guard_no rfl rfl rfl ?_
        refine l_pick_f rfl rfl rfl ?_
        refine l_nil ?_
        refine g_cond_f rfl ?_
        refine g_skip ?_
        refine g_seq ?_
        refine g_seq ?_
        refine g_region ?_
        refine l_assign rfl rfl ?_
        refine l_nil ?_
        refine g_block ?_
        refine g_loop (X := Int) (fun k => 0 ≤ k ∧ k ≤ n) (fun k => (n - k).toNat) (fun k => [(0, .int .i64 fr), (1, .slice (some ⟨bs, os_, none⟩) ns cs), (5, .pointer (some ⟨b, 0, none⟩)), (7, .int .i64 i), (8, .slice (some ⟨qa, 0, none⟩) n ca), (9, .pointer (some ⟨b2, 0, none⟩)), (10, .int .i64 a), (11, .int .i64 cnt), (12, .int .i64 e), (13, .slice (some ⟨qb, 0, none⟩) n cb), (15, .int .i64 k)]) (fun k => Own 30 1 (.slice (some ⟨qa, 0, none⟩) n ca) n (ints .u32 W) :: Own 30 1 (.slice (some ⟨qb, 0, none⟩) n cb) n (ints .u32 W2) :: Blk b2 (.cells [.slice (some ⟨g2, 0, none⟩) n c2].toArray 77 (0, 0)) :: Own 30 1 (.slice (some ⟨g2, 0, none⟩) n c2) n (ints .u32 W) :: Blk b (.cells [.slice (some ⟨g, 0, none⟩) n c].toArray 77 (0, 0)) :: Own 30 1 (.slice (some ⟨g, 0, none⟩) n c) n (ints .u32 W2) :: F) 0 (by omega) (.cons rfl (.cons rfl (.cons rfl (.cons rfl (.cons rfl (.cons rfl (.cons rfl (.cons rfl (.cons rfl (.cons rfl (.cons rfl (.nil)))))))))))) (fun w hw => SPI.holds hw) ?_
        rintro k ⟨k0, k1⟩ ihk
        have hat := hdid.at_
        have hatk := fun h => hat h k.toNat
        have hpl := fun h1 h2 => hdid.plain h1 h2 k.toNat
        have hly := fun h1 => (hdid.lay h1).2 k.toNat
        have hmv := fun h1 h2 => (hdid.move h1 h2).2 k.toNat
        rw [Int.toNat_of_nonneg k0] at hpl hly hmv
        have hbk : e ≠ 0 → W2.getD k.toNat 0 = W.getD k.toNat 0 := fun h => by rw [hbad h]
        have hin : e = 0 → a ≤ k → k < a + cnt → W2.getD k.toNat 0 = want k := fun h h1 h2 => by rw [hatk h, if_pos (by omega), Int.toNat_of_nonneg k0]
        have hno : e = 0 → ¬ (a ≤ k ∧ k < a + cnt) → W2.getD k.toNat 0 = W.getD k.toNat 0 := fun h h1 => by rw [hatk h, if_neg (by omega)]
        clear hat hatk
        refine g_seq ?_
        refine g_seq ?_
        refine g_region ?_
        refine l_move rfl rfl ?_
        refine l_move rfl rfl ?_
        refine l_len rfl Try.underlying23 rfl ?_
        refine l_lss rfl rfl rfl ?_
        refine l_nil ?_
        refine g_cond rfl ?_ ?_
        · intro hbr
          have hbr := of_decide_eq_true hbr
          refine g_skip ?_
          refine g_seq ?_
          refine g_block ?_
          refine g_seq ?_
          refine g_region ?_
          refine l_move rfl rfl ?_
          refine l_eql rfl rfl rfl ?_
          refine l_move rfl rfl ?_
          refine l_split 126 rfl ?_ ?_
          · intro hbr
            have hbr := of_decide_eq_true hbr
            (exfalso; omega)
          intro hbr
          have hbr := of_decide_eq_false hbr
          refine l_guard_no rfl rfl rfl ?_
          refine l_guard_no rfl rfl rfl ?_
          refine l_guard_no rfl rfl rfl ?_
          refine l_pick_f rfl rfl rfl ?_
          refine l_move rfl rfl ?_
          refine l_guard_no rfl rfl rfl ?_
          refine l_guard_no rfl rfl rfl ?_
          refine l_guard_no rfl rfl rfl ?_
          refine l_guard_no rfl rfl rfl ?_
          refine l_guard_no rfl rfl rfl ?_
          refine l_pick_f rfl rfl rfl ?_
          refine l_assign rfl rfl ?_
          refine l_nil ?_
          refine g_seq ?_
          refine g_seq ?_
          refine gp_start mo (by kernel_rfl) (by kernel_rfl) ?_
          refine gp_quiet 0 rfl rfl rfl rfl rfl rfl (q_move rfl) ?_
          refine gp_quiet 1 rfl rfl rfl rfl rfl rfl (q_not rfl) ?_
          refine gp_quiet 2 rfl rfl rfl rfl rfl rfl (q_move rfl) ?_
          refine gp_quietg 3 rfl rfl rfl rfl rfl rfl (.yes rfl rfl (q_move rfl)) ?_
          refine gp_quietg 4 rfl rfl rfl rfl rfl rfl (.yes rfl rfl (q_move rfl)) ?_
          refine gp_quietg 5 rfl rfl rfl rfl rfl rfl (.yes rfl rfl (q_ixs Try.underlying23 Try.sizeOf30 rfl rfl (by omega) (by omega))) ?_
          first | refine gp_quietg 6 rfl rfl rfl rfl rfl rfl (.yes rfl rfl (q_ld Try.isAgg30 rfl rfl)) ?_ | refine gp_quietg 6 rfl rfl rfl rfl rfl rfl (.yes rfl rfl (q_ldw Try.isAgg30 rfl (by omega))) ?_
          refine gp_quietg 7 rfl rfl rfl rfl rfl rfl (.yes rfl rfl (q_move rfl)) ?_
          refine gp_quietg 8 rfl rfl rfl rfl rfl rfl (.yes rfl rfl (q_move rfl)) ?_
          refine gp_quietg 9 rfl rfl rfl rfl rfl rfl (.yes rfl rfl (q_ixs Try.underlying23 Try.sizeOf30 rfl rfl (by omega) (by omega))) ?_
          first | refine gp_quietg 10 rfl rfl rfl rfl rfl rfl (.yes rfl rfl (q_ld Try.isAgg30 rfl rfl)) ?_ | refine gp_quietg 10 rfl rfl rfl rfl rfl rfl (.yes rfl rfl (q_ldw Try.isAgg30 rfl (by omega))) ?_
          refine gp_quietg 11 rfl rfl rfl rfl rfl rfl (.yes rfl rfl (q_neq rfl rfl)) ?_
          refine gp_quiet 12 rfl rfl rfl rfl rfl rfl (q_pick_t rfl rfl) ?_
          refine gp_end rfl rfl ?_
          refine g_cond rfl ?_ ?_
          · intro hbr
            have hbr := of_decide_eq_true hbr
            (exfalso; omega)
          intro hbr
          have hbr := of_decide_eq_false hbr
          refine g_skip ?_
          refine g_seq ?_
          refine g_region ?_
          refine l_move rfl rfl ?_
          refine l_nil ?_
          refine g_cond_f rfl ?_
          refine g_skip ?_
          refine g_inBlock ?_
          refine g_region ?_
          refine l_move rfl rfl ?_
          first | refine l_add rfl rfl rfl (w_i64 (by omega) (by omega)) ?_ | refine l_addw rfl rfl rfl ?_
          refine l_assign rfl rfl ?_
          refine l_nil ?_
          exact g_againi (ihk (k + 1) (by omega) (by omega)) (.cons rfl (.cons rfl (.cons rfl (.cons rfl (.cons rfl (.cons rfl (.cons rfl (.cons rfl (.cons rfl (.cons rfl (.cons rfl (.nil))))))))))))
        intro hbr
        have hbr := of_decide_eq_false hbr
        refine g_exit rfl ?_
        refine g_seq ?_
        refine g_region ?_
        refine l_move rfl rfl ?_
        refine l_fronto g2 ?_
        refine l_frontb b2 ?_
        refine l_call rfl Try.call18 rfl (words_ok _ _ b2 g2 n c2 W hW hc2 hn) ?_; rintro _ _ ⟨qc, cc, rfl, hcc, rfl⟩
        refine l_move rfl rfl ?_
        refine l_fronto qa ?_
        refine l_fronto qc ?_
        refine l_call rfl Try.call21 rfl (same_words _ _ _ _ _ _ _ _ _ W hW hn (.own (mem_getO 0 rfl)) (.own (mem_getO 1 rfl))) ?_; rintro _ _ ⟨rfl, rfl⟩
        refine l_not rfl rfl ?_
        refine l_nil ?_
        refine g_cond_f rfl ?_
        refine g_skip ?_
        refine g_inBlock ?_
        refine g_region ?_
        refine l_move rfl rfl ?_
        first | refine l_add rfl rfl rfl (w_i64 (by omega) (by omega)) ?_ | refine l_addw rfl rfl rfl ?_
        refine l_assign rfl rfl ?_
        refine l_nil ?_
        exact g_againi (ih (i + 1, W2) ⟨by simp only; omega, by simp only; omega, hlen2⟩ (by simp only; omega)) (.cons rfl (.cons rfl (.cons rfl (.cons rfl (.nil)))))
      intro hbr
      have hbr := of_decide_eq_false hbr
      refine l_guard_no rfl rfl rfl ?_
      refine l_guard_no rfl rfl rfl ?_
      refine l_guard_no rfl rfl rfl ?_
      refine l_guard_no rfl rfl rfl ?_
      refine l_pick_f rfl rfl rfl ?_
      refine l_move rfl rfl ?_
      refine l_guard_no rfl rfl rfl ?_
      refine l_guard_no rfl rfl rfl ?_
      refine l_guard_no rfl rfl rfl ?_
      refine l_guard_no rfl rfl rfl ?_
      refine l_guard_no rfl rfl rfl ?_
      refine l_guard_no rfl rfl rfl ?_
      refine l_pick_f rfl rfl rfl ?_
      refine l_assign rfl rfl ?_
      refine l_nil ?_
      refine g_seq ?_
      refine g_seq ?_
      refine g_region ?_
      refine l_move rfl rfl ?_
      refine l_len rfl Try.underlying23 rfl ?_
      refine l_move rfl rfl ?_
      refine l_len rfl Try.underlying23 rfl ?_
      refine l_neq rfl rfl rfl ?_
      refine l_move rfl rfl ?_
      refine l_split 87 rfl ?_ ?_
      · intro hbr
        have hbr := of_decide_eq_true hbr
        (exfalso; omega)
      intro hbr
      have hbr := of_decide_eq_false hbr
      refine l_guard_yes rfl rfl ?_
      refine l_move rfl rfl ?_
      refine l_guard_yes rfl rfl ?_
      refine l_len rfl Try.underlying23 rfl ?_
      refine l_guard_yes rfl rfl ?_
      refine l_move rfl rfl ?_
      refine l_guard_yes rfl rfl ?_
      refine l_call rfl Try.call8 rfl (pick_ok _ _ _ _ (by omega) (by omega) (by omega) (by omega)) ?_; rintro _ F9 ⟨rfl, hF9⟩; rw [hF9]; clear hF9 F9
      refine l_guard_yes rfl rfl ?_
      first | refine l_add rfl rfl rfl (w_i64 (by omega) (by omega)) ?_ | refine l_addw rfl rfl rfl ?_
      refine l_guard_yes rfl rfl ?_
      first | refine l_mul rfl rfl rfl (w_i64 (by omega) (by omega)) ?_ | refine l_mulw rfl rfl rfl ?_
      refine l_guard_yes rfl rfl ?_
      refine l_neq rfl rfl rfl ?_
      refine l_pick_f rfl rfl rfl ?_
      refine l_move rfl rfl ?_
      refine l_split 96 rfl ?_ ?_
      · intro hbr
        have hbr := of_decide_eq_true hbr
        (exfalso; omega)
      intro hbr
      have hbr := of_decide_eq_false hbr
      refine l_guard_yes rfl rfl ?_
      refine l_move rfl rfl ?_
      refine l_guard_yes rfl rfl ?_
      refine l_not rfl rfl ?_
      refine l_guard_yes rfl rfl ?_
      refine l_move rfl rfl ?_
      refine l_guard_yes rfl rfl ?_
      refine l_move rfl rfl ?_
      refine l_guard_yes rfl rfl ?_
      refine l_neq rfl rfl rfl ?_
      refine l_guard_yes rfl rfl ?_
      refine l_pick_t rfl rfl rfl ?_
      refine l_pick_f rfl rfl rfl ?_
      refine l_nil ?_
      refine g_cond rfl ?_ ?_
      · intro hbr
        have hbr := of_decide_eq_true hbr
        (exfalso; omega)
      intro hbr
      have hbr := of_decide_eq_false hbr
      refine g_skip ?_
      refine g_seq ?_
      refine g_seq ?_
      refine g_region ?_
      refine l_move rfl rfl ?_
      refine l_move rfl rfl ?_
      refine l_ixs rfl Try.underlying51 Try.sizeOf58 rfl rfl (by omega) (by omega) ?_
      refine l_fieldAddr rfl fa_58_0 rfl ?_
      refine l_loadc rfl Try.isAgg3 rfl ((row_elem hs.ex (act_len L) hrow).cell (j := 0) (v := .int .i64 kd) rfl) ?_
      refine l_call rfl Try.call8 rfl (pick_ok _ _ _ _ (by omega) (by omega) (by omega) (by omega)) ?_; rintro _ F9 ⟨rfl, hF9⟩; rw [hF9]; clear hF9 F9
      refine l_lss rfl rfl rfl ?_
      refine l_move rfl rfl ?_
      refine l_split 111 rfl ?_ ?_
      · intro hbr
        have hbr := of_decide_eq_true hbr
        refine l_guard_yes rfl rfl ?_
        refine l_move rfl rfl ?_
        refine l_pick_t rfl rfl rfl ?_
        refine l_move rfl rfl ?_
        refine l_guard_no rfl rfl rfl ?_
        refine l_guard_no rfl rfl rfl ?_
        refine l_pick_f rfl rfl rfl ?_
        refine l_nil ?_
        refine g_cond_f rfl ?_
        refine g_skip ?_
        refine g_seq ?_
        refine g_seq ?_
        refine g_region ?_
        refine l_assign rfl rfl ?_
        refine l_nil ?_
        refine g_block ?_
        refine g_loop (X := Int) (fun k => 0 ≤ k ∧ k ≤ n) (fun k => (n - k).toNat) (fun k => [(0, .int .i64 fr), (1, .slice (some ⟨bs, os_, none⟩) ns cs), (5, .pointer (some ⟨b, 0, none⟩)), (7, .int .i64 i), (8, .slice (some ⟨qa, 0, none⟩) n ca), (9, .pointer (some ⟨b2, 0, none⟩)), (10, .int .i64 a), (11, .int .i64 cnt), (12, .int .i64 e), (13, .slice (some ⟨qb, 0, none⟩) n cb), (15, .int .i64 k)]) (fun k => Own 30 1 (.slice (some ⟨qa, 0, none⟩) n ca) n (ints .u32 W) :: Own 30 1 (.slice (some ⟨qb, 0, none⟩) n cb) n (ints .u32 W2) :: Blk b2 (.cells [.slice (some ⟨g2, 0, none⟩) n c2].toArray 77 (0, 0)) :: Own 30 1 (.slice (some ⟨g2, 0, none⟩) n c2) n (ints .u32 W) :: Blk b (.cells [.slice (some ⟨g, 0, none⟩) n c].toArray 77 (0, 0)) :: Own 30 1 (.slice (some ⟨g, 0, none⟩) n c) n (ints .u32 W2) :: F) 0 (by omega) (.cons rfl (.cons rfl (.cons rfl (.cons rfl (.cons rfl (.cons rfl (.cons rfl (.cons rfl (.cons rfl (.cons rfl (.cons rfl (.nil)))))))))))) (fun w hw => SPI.holds hw) ?_
        rintro k ⟨k0, k1⟩ ihk
        have hat := hdid.at_
        have hatk := fun h => hat h k.toNat
        have hpl := fun h1 h2 => hdid.plain h1 h2 k.toNat
        have hly := fun h1 => (hdid.lay h1).2 k.toNat
        have hmv := fun h1 h2 => (hdid.move h1 h2).2 k.toNat
        rw [Int.toNat_of_nonneg k0] at hpl hly hmv
        have hbk : e ≠ 0 → W2.getD k.toNat 0 = W.getD k.toNat 0 := fun h => by rw [hbad h]
        have hin : e = 0 → a ≤ k → k < a + cnt → W2.getD k.toNat 0 = want k := fun h h1 h2 => by rw [hatk h, if_pos (by omega), Int.toNat_of_nonneg k0]
        have hno : e = 0 → ¬ (a ≤ k ∧ k < a + cnt) → W2.getD k.toNat 0 = W.getD k.toNat 0 := fun h h1 => by rw [hatk h, if_neg (by omega)]
        clear hat hatk
        refine g_seq ?_
        refine g_seq ?_
        refine g_region ?_
        refine l_move rfl rfl ?_
        refine l_move rfl rfl ?_
        refine l_len rfl Try.underlying23 rfl ?_
        refine l_lss rfl rfl rfl ?_
        refine l_nil ?_
        refine g_cond rfl ?_ ?_
        · intro hbr
          have hbr := of_decide_eq_true hbr
          refine g_skip ?_
          refine g_seq ?_
          refine g_block ?_
          refine g_seq ?_
          refine g_region ?_
          refine l_move rfl rfl ?_
          refine l_eql rfl rfl rfl ?_
          refine l_move rfl rfl ?_
          refine l_split 126 rfl ?_ ?_
          · intro hbr
            have hbr := of_decide_eq_true hbr
            (exfalso; omega)
          intro hbr
          have hbr := of_decide_eq_false hbr
          refine l_guard_no rfl rfl rfl ?_
          refine l_guard_no rfl rfl rfl ?_
          refine l_guard_no rfl rfl rfl ?_
          refine l_pick_f rfl rfl rfl ?_
          refine l_move rfl rfl ?_
          refine l_guard_no rfl rfl rfl ?_
          refine l_guard_no rfl rfl rfl ?_
          refine l_guard_no rfl rfl rfl ?_
          refine l_guard_no rfl rfl rfl ?_
          refine l_guard_no rfl rfl rfl ?_
          refine l_pick_f rfl rfl rfl ?_
          refine l_assign rfl rfl ?_
          refine l_nil ?_
          refine g_seq ?_
          refine g_seq ?_
          refine gp_start mo (by kernel_rfl) (by kernel_rfl) ?_
          refine gp_quiet 0 rfl rfl rfl rfl rfl rfl (q_move rfl) ?_
          refine gp_quiet 1 rfl rfl rfl rfl rfl rfl (q_not rfl) ?_
          refine gp_quiet 2 rfl rfl rfl rfl rfl rfl (q_move rfl) ?_
          refine gp_quietg 3 rfl rfl rfl rfl rfl rfl (.yes rfl rfl (q_move rfl)) ?_
          refine gp_quietg 4 rfl rfl rfl rfl rfl rfl (.yes rfl rfl (q_move rfl)) ?_
          refine gp_quietg 5 rfl rfl rfl rfl rfl rfl (.yes rfl rfl (q_ixs Try.underlying23 Try.sizeOf30 rfl rfl (by omega) (by omega))) ?_
          first | refine gp_quietg 6 rfl rfl rfl rfl rfl rfl (.yes rfl rfl (q_ld Try.isAgg30 rfl rfl)) ?_ | refine gp_quietg 6 rfl rfl rfl rfl rfl rfl (.yes rfl rfl (q_ldw Try.isAgg30 rfl (by omega))) ?_
          refine gp_quietg 7 rfl rfl rfl rfl rfl rfl (.yes rfl rfl (q_move rfl)) ?_
          refine gp_quietg 8 rfl rfl rfl rfl rfl rfl (.yes rfl rfl (q_move rfl)) ?_
          refine gp_quietg 9 rfl rfl rfl rfl rfl rfl (.yes rfl rfl (q_ixs Try.underlying23 Try.sizeOf30 rfl rfl (by omega) (by omega))) ?_
          first | refine gp_quietg 10 rfl rfl rfl rfl rfl rfl (.yes rfl rfl (q_ld Try.isAgg30 rfl rfl)) ?_ | refine gp_quietg 10 rfl rfl rfl rfl rfl rfl (.yes rfl rfl (q_ldw Try.isAgg30 rfl (by omega))) ?_
          refine gp_quietg 11 rfl rfl rfl rfl rfl rfl (.yes rfl rfl (q_neq rfl rfl)) ?_
          refine gp_quiet 12 rfl rfl rfl rfl rfl rfl (q_pick_t rfl rfl) ?_
          refine gp_end rfl rfl ?_
          refine g_cond rfl ?_ ?_
          · intro hbr
            have hbr := of_decide_eq_true hbr
            (exfalso; omega)
          intro hbr
          have hbr := of_decide_eq_false hbr
          refine g_skip ?_
          refine g_seq ?_
          refine g_region ?_
          refine l_move rfl rfl ?_
          refine l_nil ?_
          refine g_cond_f rfl ?_
          refine g_skip ?_
          refine g_inBlock ?_
          refine g_region ?_
          refine l_move rfl rfl ?_
          first | refine l_add rfl rfl rfl (w_i64 (by omega) (by omega)) ?_ | refine l_addw rfl rfl rfl ?_
          refine l_assign rfl rfl ?_
          refine l_nil ?_
          exact g_againi (ihk (k + 1) (by omega) (by omega)) (.cons rfl (.cons rfl (.cons rfl (.cons rfl (.cons rfl (.cons rfl (.cons rfl (.cons rfl (.cons rfl (.cons rfl (.cons rfl (.nil))))))))))))
        intro hbr
        have hbr := of_decide_eq_false hbr
        refine g_exit rfl ?_
        refine g_seq ?_
        refine g_region ?_
        refine l_move rfl rfl ?_
        refine l_fronto g2 ?_
        refine l_frontb b2 ?_
        refine l_call rfl Try.call18 rfl (words_ok _ _ b2 g2 n c2 W hW hc2 hn) ?_; rintro _ _ ⟨qc, cc, rfl, hcc, rfl⟩
        refine l_move rfl rfl ?_
        refine l_fronto qa ?_
        refine l_fronto qc ?_
        refine l_call rfl Try.call21 rfl (same_words _ _ _ _ _ _ _ _ _ W hW hn (.own (mem_getO 0 rfl)) (.own (mem_getO 1 rfl))) ?_; rintro _ _ ⟨rfl, rfl⟩
        refine l_not rfl rfl ?_
        refine l_nil ?_
        refine g_cond_f rfl ?_
        refine g_skip ?_
        refine g_inBlock ?_
        refine g_region ?_
        refine l_move rfl rfl ?_
        first | refine l_add rfl rfl rfl (w_i64 (by omega) (by omega)) ?_ | refine l_addw rfl rfl rfl ?_
        refine l_assign rfl rfl ?_
        refine l_nil ?_
        exact g_againi (ih (i + 1, W2) ⟨by simp only; omega, by simp only; omega, hlen2⟩ (by simp only; omega)) (.cons rfl (.cons rfl (.cons rfl (.cons rfl (.nil)))))
      intro hbr
      have hbr := of_decide_eq_false hbr
      refine l_guard_no rfl rfl rfl ?_
      refine l_pick_f rfl rfl rfl ?_
      refine l_move rfl rfl ?_
      refine l_guard_no rfl rfl rfl ?_
      refine l_guard_no rfl rfl rfl ?_
      refine l_pick_f rfl rfl rfl ?_
      refine l_nil ?_
      refine g_cond_f rfl ?_
      refine g_skip ?_
      refine g_seq ?_
      refine g_seq ?_
      refine g_region ?_
      refine l_assign rfl rfl ?_
      refine l_nil ?_
      refine g_block ?_
      refine g_loop (X := Int) (fun k => 0 ≤ k ∧ k ≤ n) (fun k => (n - k).toNat) (fun k => [(0, .int .i64 fr), (1, .slice (some ⟨bs, os_, none⟩) ns cs), (5, .pointer (some ⟨b, 0, none⟩)), (7, .int .i64 i), (8, .slice (some ⟨qa, 0, none⟩) n ca), (9, .pointer (some ⟨b2, 0, none⟩)), (10, .int .i64 a), (11, .int .i64 cnt), (12, .int .i64 e), (13, .slice (some ⟨qb, 0, none⟩) n cb), (15, .int .i64 k)]) (fun k => Own 30 1 (.slice (some ⟨qa, 0, none⟩) n ca) n (ints .u32 W) :: Own 30 1 (.slice (some ⟨qb, 0, none⟩) n cb) n (ints .u32 W2) :: Blk b2 (.cells [.slice (some ⟨g2, 0, none⟩) n c2].toArray 77 (0, 0)) :: Own 30 1 (.slice (some ⟨g2, 0, none⟩) n c2) n (ints .u32 W) :: Blk b (.cells [.slice (some ⟨g, 0, none⟩) n c].toArray 77 (0, 0)) :: Own 30 1 (.slice (some ⟨g, 0, none⟩) n c) n (ints .u32 W2) :: F) 0 (by omega) (.cons rfl (.cons rfl (.cons rfl (.cons rfl (.cons rfl (.cons rfl (.cons rfl (.cons rfl (.cons rfl (.cons rfl (.cons rfl (.nil)))))))))))) (fun w hw => SPI.holds hw) ?_
      rintro k ⟨k0, k1⟩ ihk
      have hat := hdid.at_
      have hatk := fun h => hat h k.toNat
      have hpl := fun h1 h2 => hdid.plain h1 h2 k.toNat
      have hly := fun h1 => (hdid.lay h1).2 k.toNat
      have hmv := fun h1 h2 => (hdid.move h1 h2).2 k.toNat
      rw [Int.toNat_of_nonneg k0] at hpl hly hmv
      have hbk : e ≠ 0 → W2.getD k.toNat 0 = W.getD k.toNat 0 := fun h => by rw [hbad h]
      have hin : e = 0 → a ≤ k → k < a + cnt → W2.getD k.toNat 0 = want k := fun h h1 h2 => by rw [hatk h, if_pos (by omega), Int.toNat_of_nonneg k0]
      have hno : e = 0 → ¬ (a ≤ k ∧ k < a + cnt) → W2.getD k.toNat 0 = W.getD k.toNat 0 := fun h h1 => by rw [hatk h, if_neg (by omega)]
      clear hat hatk
      refine g_seq ?_
      refine g_seq ?_
      refine g_region ?_
      refine l_move rfl rfl ?_
      refine l_move rfl rfl ?_
      refine l_len rfl Try.underlying23 rfl ?_
      refine l_lss rfl rfl rfl ?_
      refine l_nil ?_
      refine g_cond rfl ?_ ?_
      · intro hbr
        have hbr := of_decide_eq_true hbr
        refine g_skip ?_
        refine g_seq ?_
        refine g_block ?_
        refine g_seq ?_
        refine g_region ?_
        refine l_move rfl rfl ?_
        refine l_eql rfl rfl rfl ?_
        refine l_move rfl rfl ?_
        refine l_split 126 rfl ?_ ?_
        · intro hbr
          have hbr := of_decide_eq_true hbr
          (exfalso; omega)
        intro hbr
        have hbr := of_decide_eq_false hbr
        refine l_guard_no rfl rfl rfl ?_
        refine l_guard_no rfl rfl rfl ?_
        refine l_guard_no rfl rfl rfl ?_
        refine l_pick_f rfl rfl rfl ?_
        refine l_move rfl rfl ?_
        refine l_guard_no rfl rfl rfl ?_
        refine l_guard_no rfl rfl rfl ?_
        refine l_guard_no rfl rfl rfl ?_
        refine l_guard_no rfl rfl rfl ?_
        refine l_guard_no rfl rfl rfl ?_
        refine l_pick_f rfl rfl rfl ?_
        refine l_assign rfl rfl ?_
        refine l_nil ?_
        refine g_seq ?_
        refine g_seq ?_
        refine gp_start mo (by kernel_rfl) (by kernel_rfl) ?_
        refine gp_quiet 0 rfl rfl rfl rfl rfl rfl (q_move rfl) ?_
        refine gp_quiet 1 rfl rfl rfl rfl rfl rfl (q_not rfl) ?_
        refine gp_quiet 2 rfl rfl rfl rfl rfl rfl (q_move rfl) ?_
        refine gp_quietg 3 rfl rfl rfl rfl rfl rfl (.yes rfl rfl (q_move rfl)) ?_
        refine gp_quietg 4 rfl rfl rfl rfl rfl rfl (.yes rfl rfl (q_move rfl)) ?_
        refine gp_quietg 5 rfl rfl rfl rfl rfl rfl (.yes rfl rfl (q_ixs Try.underlying23 Try.sizeOf30 rfl rfl (by omega) (by omega))) ?_
        first | refine gp_quietg 6 rfl rfl rfl rfl rfl rfl (.yes rfl rfl (q_ld Try.isAgg30 rfl rfl)) ?_ | refine gp_quietg 6 rfl rfl rfl rfl rfl rfl (.yes rfl rfl (q_ldw Try.isAgg30 rfl (by omega))) ?_
        refine gp_quietg 7 rfl rfl rfl rfl rfl rfl (.yes rfl rfl (q_move rfl)) ?_
        refine gp_quietg 8 rfl rfl rfl rfl rfl rfl (.yes rfl rfl (q_move rfl)) ?_
        refine gp_quietg 9 rfl rfl rfl rfl rfl rfl (.yes rfl rfl (q_ixs Try.underlying23 Try.sizeOf30 rfl rfl (by omega) (by omega))) ?_
        first | refine gp_quietg 10 rfl rfl rfl rfl rfl rfl (.yes rfl rfl (q_ld Try.isAgg30 rfl rfl)) ?_ | refine gp_quietg 10 rfl rfl rfl rfl rfl rfl (.yes rfl rfl (q_ldw Try.isAgg30 rfl (by omega))) ?_
        refine gp_quietg 11 rfl rfl rfl rfl rfl rfl (.yes rfl rfl (q_neq rfl rfl)) ?_
        refine gp_quiet 12 rfl rfl rfl rfl rfl rfl (q_pick_t rfl rfl) ?_
        refine gp_end rfl rfl ?_
        refine g_cond rfl ?_ ?_
        · intro hbr
          have hbr := of_decide_eq_true hbr
          (exfalso; omega)
        intro hbr
        have hbr := of_decide_eq_false hbr
        refine g_skip ?_
        refine g_seq ?_
        refine g_region ?_
        refine l_move rfl rfl ?_
        refine l_nil ?_
        refine g_cond_f rfl ?_
        refine g_skip ?_
        refine g_inBlock ?_
        refine g_region ?_
        refine l_move rfl rfl ?_
        first | refine l_add rfl rfl rfl (w_i64 (by omega) (by omega)) ?_ | refine l_addw rfl rfl rfl ?_
        refine l_assign rfl rfl ?_
        refine l_nil ?_
        exact g_againi (ihk (k + 1) (by omega) (by omega)) (.cons rfl (.cons rfl (.cons rfl (.cons rfl (.cons rfl (.cons rfl (.cons rfl (.cons rfl (.cons rfl (.cons rfl (.cons rfl (.nil))))))))))))
      intro hbr
      have hbr := of_decide_eq_false hbr
      refine g_exit rfl ?_
      refine g_seq ?_
      refine g_region ?_
      refine l_move rfl rfl ?_
      refine l_fronto g2 ?_
      refine l_frontb b2 ?_
      refine l_call rfl Try.call18 rfl (words_ok _ _ b2 g2 n c2 W hW hc2 hn) ?_; rintro _ _ ⟨qc, cc, rfl, hcc, rfl⟩
      refine l_move rfl rfl ?_
      refine l_fronto qa ?_
      refine l_fronto qc ?_
      refine l_call rfl Try.call21 rfl (same_words _ _ _ _ _ _ _ _ _ W hW hn (.own (mem_getO 0 rfl)) (.own (mem_getO 1 rfl))) ?_; rintro _ _ ⟨rfl, rfl⟩
      refine l_not rfl rfl ?_
      refine l_nil ?_
      refine g_cond_f rfl ?_
      refine g_skip ?_
      refine g_inBlock ?_
      refine g_region ?_
      refine l_move rfl rfl ?_
      first | refine l_add rfl rfl rfl (w_i64 (by omega) (by omega)) ?_ | refine l_addw rfl rfl rfl ?_
      refine l_assign rfl rfl ?_
      refine l_nil ?_
      exact g_againi (ih (i + 1, W2) ⟨by simp only; omega, by simp only; omega, hlen2⟩ (by simp only; omega)) (.cons rfl (.cons rfl (.cons rfl (.cons rfl (.nil)))))
    intro hbr
    have hbr := of_decide_eq_false hbr
    refine l_guard_no rfl rfl rfl ?_
    refine l_guard_no rfl rfl rfl ?_
    refine l_pick_f rfl rfl rfl ?_
    refine l_move rfl rfl ?_
    refine l_guard_no rfl rfl rfl ?_
    refine l_guard_no rfl rfl rfl ?_
    refine l_guard_no rfl rfl rfl ?_
    refine l_guard_no rfl rfl rfl ?_
    refine l_pick_f rfl rfl rfl ?_
    refine l_move rfl rfl ?_
    refine l_guard_no rfl rfl rfl ?_
    refine l_guard_no rfl rfl rfl ?_
    refine l_guard_no rfl rfl rfl ?_
    refine l_guard_no rfl rfl rfl ?_
    refine l_guard_no rfl rfl rfl ?_
    refine l_guard_no rfl rfl rfl ?_
    refine l_pick_f rfl rfl rfl ?_
    refine l_assign rfl rfl ?_
    refine l_nil ?_
    refine g_seq ?_
    refine g_seq ?_
    refine g_region ?_
    refine l_move rfl rfl ?_
    refine l_len rfl Try.underlying23 rfl ?_
    refine l_move rfl rfl ?_
    refine l_len rfl Try.underlying23 rfl ?_
    refine l_neq rfl rfl rfl ?_
    refine l_move rfl rfl ?_
    refine l_split 87 rfl ?_ ?_
    · intro hbr
      have hbr := of_decide_eq_true hbr
      (exfalso; omega)
    intro hbr
    have hbr := of_decide_eq_false hbr
    refine l_guard_yes rfl rfl ?_
    refine l_move rfl rfl ?_
    refine l_guard_yes rfl rfl ?_
    refine l_len rfl Try.underlying23 rfl ?_
    refine l_guard_yes rfl rfl ?_
    refine l_move rfl rfl ?_
    refine l_guard_yes rfl rfl ?_
    refine l_call rfl Try.call8 rfl (pick_ok _ _ _ _ (by omega) (by omega) (by omega) (by omega)) ?_; rintro _ F9 ⟨rfl, hF9⟩; rw [hF9]; clear hF9 F9
    refine l_guard_yes rfl rfl ?_
    first | refine l_add rfl rfl rfl (w_i64 (by omega) (by omega)) ?_ | refine l_addw rfl rfl rfl ?_
    refine l_guard_yes rfl rfl ?_
    first | refine l_mul rfl rfl rfl (w_i64 (by omega) (by omega)) ?_ | refine l_mulw rfl rfl rfl ?_
    refine l_guard_yes rfl rfl ?_
    refine l_neq rfl rfl rfl ?_
    refine l_pick_f rfl rfl rfl ?_
    refine l_move rfl rfl ?_
    refine l_split 96 rfl ?_ ?_
    · intro hbr
      have hbr := of_decide_eq_true hbr
      (exfalso; omega)
    intro hbr
    have hbr := of_decide_eq_false hbr
    refine l_guard_yes rfl rfl ?_
    refine l_move rfl rfl ?_
    refine l_guard_yes rfl rfl ?_
    refine l_not rfl rfl ?_
    refine l_guard_yes rfl rfl ?_
    refine l_move rfl rfl ?_
    refine l_guard_yes rfl rfl ?_
    refine l_move rfl rfl ?_
    refine l_guard_yes rfl rfl ?_
    refine l_neq rfl rfl rfl ?_
    refine l_guard_yes rfl rfl ?_
    refine l_pick_t rfl rfl rfl ?_
    refine l_pick_f rfl rfl rfl ?_
    refine l_nil ?_
    refine g_cond rfl ?_ ?_
    · intro hbr
      have hbr := of_decide_eq_true hbr
      (exfalso; omega)
    intro hbr
    have hbr := of_decide_eq_false hbr
    refine g_skip ?_
    refine g_seq ?_
    refine g_seq ?_
    refine g_region ?_
    refine l_move rfl rfl ?_
    refine l_move rfl rfl ?_
    refine l_ixs rfl Try.underlying51 Try.sizeOf58 rfl rfl (by omega) (by omega) ?_
    refine l_fieldAddr rfl fa_58_0 rfl ?_
    refine l_loadc rfl Try.isAgg3 rfl ((row_elem hs.ex (act_len L) hrow).cell (j := 0) (v := .int .i64 kd) rfl) ?_
    refine l_call rfl Try.call8 rfl (pick_ok _ _ _ _ (by omega) (by omega) (by omega) (by omega)) ?_; rintro _ F9 ⟨rfl, hF9⟩; rw [hF9]; clear hF9 F9
    refine l_lss rfl rfl rfl ?_
    refine l_move rfl rfl ?_
    refine l_split 111 rfl ?_ ?_
    · intro hbr
      have hbr := of_decide_eq_true hbr
      refine l_guard_yes rfl rfl ?_
      refine l_move rfl rfl ?_
      refine l_pick_t rfl rfl rfl ?_
      refine l_move rfl rfl ?_
      refine l_guard_no rfl rfl rfl ?_
      refine l_guard_no rfl rfl rfl ?_
      refine l_pick_f rfl rfl rfl ?_
      refine l_nil ?_
      refine g_cond_f rfl ?_
      refine g_skip ?_
      refine g_seq ?_
      refine g_seq ?_
      refine g_region ?_
      refine l_assign rfl rfl ?_
      refine l_nil ?_
      refine g_block ?_
      refine g_loop (X := Int) (fun k => 0 ≤ k ∧ k ≤ n) (fun k => (n - k).toNat) (fun k => [(0, .int .i64 fr), (1, .slice (some ⟨bs, os_, none⟩) ns cs), (5, .pointer (some ⟨b, 0, none⟩)), (7, .int .i64 i), (8, .slice (some ⟨qa, 0, none⟩) n ca), (9, .pointer (some ⟨b2, 0, none⟩)), (10, .int .i64 a), (11, .int .i64 cnt), (12, .int .i64 e), (13, .slice (some ⟨qb, 0, none⟩) n cb), (15, .int .i64 k)]) (fun k => Own 30 1 (.slice (some ⟨qa, 0, none⟩) n ca) n (ints .u32 W) :: Own 30 1 (.slice (some ⟨qb, 0, none⟩) n cb) n (ints .u32 W2) :: Blk b2 (.cells [.slice (some ⟨g2, 0, none⟩) n c2].toArray 77 (0, 0)) :: Own 30 1 (.slice (some ⟨g2, 0, none⟩) n c2) n (ints .u32 W) :: Blk b (.cells [.slice (some ⟨g, 0, none⟩) n c].toArray 77 (0, 0)) :: Own 30 1 (.slice (some ⟨g, 0, none⟩) n c) n (ints .u32 W2) :: F) 0 (by omega) (.cons rfl (.cons rfl (.cons rfl (.cons rfl (.cons rfl (.cons rfl (.cons rfl (.cons rfl (.cons rfl (.cons rfl (.cons rfl (.nil)))))))))))) (fun w hw => SPI.holds hw) ?_
      rintro k ⟨k0, k1⟩ ihk
      have hat := hdid.at_
      have hatk := fun h => hat h k.toNat
      have hpl := fun h1 h2 => hdid.plain h1 h2 k.toNat
      have hly := fun h1 => (hdid.lay h1).2 k.toNat
      have hmv := fun h1 h2 => (hdid.move h1 h2).2 k.toNat
      rw [Int.toNat_of_nonneg k0] at hpl hly hmv
      have hbk : e ≠ 0 → W2.getD k.toNat 0 = W.getD k.toNat 0 := fun h => by rw [hbad h]
      have hin : e = 0 → a ≤ k → k < a + cnt → W2.getD k.toNat 0 = want k := fun h h1 h2 => by rw [hatk h, if_pos (by omega), Int.toNat_of_nonneg k0]
      have hno : e = 0 → ¬ (a ≤ k ∧ k < a + cnt) → W2.getD k.toNat 0 = W.getD k.toNat 0 := fun h h1 => by rw [hatk h, if_neg (by omega)]
      clear hat hatk
      refine g_seq ?_
      refine g_seq ?_
      refine g_region ?_
      refine l_move rfl rfl ?_
      refine l_move rfl rfl ?_
      refine l_len rfl Try.underlying23 rfl ?_
      refine l_lss rfl rfl rfl ?_
      refine l_nil ?_
      refine g_cond rfl ?_ ?_
      · intro hbr
        have hbr := of_decide_eq_true hbr
        refine g_skip ?_
        refine g_seq ?_
        refine g_block ?_
        refine g_seq ?_
        refine g_region ?_
        refine l_move rfl rfl ?_
        refine l_eql rfl rfl rfl ?_
        refine l_move rfl rfl ?_
        refine l_split 126 rfl ?_ ?_
        · intro hbr
          have hbr := of_decide_eq_true hbr
          (exfalso; omega)
        intro hbr
        have hbr := of_decide_eq_false hbr
        refine l_guard_no rfl rfl rfl ?_
        refine l_guard_no rfl rfl rfl ?_
        refine l_guard_no rfl rfl rfl ?_
        refine l_pick_f rfl rfl rfl ?_
        refine l_move rfl rfl ?_
        refine l_guard_no rfl rfl rfl ?_
        refine l_guard_no rfl rfl rfl ?_
        refine l_guard_no rfl rfl rfl ?_
        refine l_guard_no rfl rfl rfl ?_
        refine l_guard_no rfl rfl rfl ?_
        refine l_pick_f rfl rfl rfl ?_
        refine l_assign rfl rfl ?_
        refine l_nil ?_
        refine g_seq ?_
        refine g_seq ?_
        refine gp_start mo (by kernel_rfl) (by kernel_rfl) ?_
        refine gp_quiet 0 rfl rfl rfl rfl rfl rfl (q_move rfl) ?_
        refine gp_quiet 1 rfl rfl rfl rfl rfl rfl (q_not rfl) ?_
        refine gp_quiet 2 rfl rfl rfl rfl rfl rfl (q_move rfl) ?_
        refine gp_quietg 3 rfl rfl rfl rfl rfl rfl (.yes rfl rfl (q_move rfl)) ?_
        refine gp_quietg 4 rfl rfl rfl rfl rfl rfl (.yes rfl rfl (q_move rfl)) ?_
        refine gp_quietg 5 rfl rfl rfl rfl rfl rfl (.yes rfl rfl (q_ixs Try.underlying23 Try.sizeOf30 rfl rfl (by omega) (by omega))) ?_
        first | refine gp_quietg 6 rfl rfl rfl rfl rfl rfl (.yes rfl rfl (q_ld Try.isAgg30 rfl rfl)) ?_ | refine gp_quietg 6 rfl rfl rfl rfl rfl rfl (.yes rfl rfl (q_ldw Try.isAgg30 rfl (by omega))) ?_
        refine gp_quietg 7 rfl rfl rfl rfl rfl rfl (.yes rfl rfl (q_move rfl)) ?_
        refine gp_quietg 8 rfl rfl rfl rfl rfl rfl (.yes rfl rfl (q_move rfl)) ?_
        refine gp_quietg 9 rfl rfl rfl rfl rfl rfl (.yes rfl rfl (q_ixs Try.underlying23 Try.sizeOf30 rfl rfl (by omega) (by omega))) ?_
        first | refine gp_quietg 10 rfl rfl rfl rfl rfl rfl (.yes rfl rfl (q_ld Try.isAgg30 rfl rfl)) ?_ | refine gp_quietg 10 rfl rfl rfl rfl rfl rfl (.yes rfl rfl (q_ldw Try.isAgg30 rfl (by omega))) ?_
        refine gp_quietg 11 rfl rfl rfl rfl rfl rfl (.yes rfl rfl (q_neq rfl rfl)) ?_
        refine gp_quiet 12 rfl rfl rfl rfl rfl rfl (q_pick_t rfl rfl) ?_
        refine gp_end rfl rfl ?_
        refine g_cond rfl ?_ ?_
        · intro hbr
          have hbr := of_decide_eq_true hbr
          (exfalso; omega)
        intro hbr
        have hbr := of_decide_eq_false hbr
        refine g_skip ?_
        refine g_seq ?_
        refine g_region ?_
        refine l_move rfl rfl ?_
        refine l_nil ?_
        refine g_cond_f rfl ?_
        refine g_skip ?_
        refine g_inBlock ?_
        refine g_region ?_
        refine l_move rfl rfl ?_
        first | refine l_add rfl rfl rfl (w_i64 (by omega) (by omega)) ?_ | refine l_addw rfl rfl rfl ?_
        refine l_assign rfl rfl ?_
        refine l_nil ?_
        exact g_againi (ihk (k + 1) (by omega) (by omega)) (.cons rfl (.cons rfl (.cons rfl (.cons rfl (.cons rfl (.cons rfl (.cons rfl (.cons rfl (.cons rfl (.cons rfl (.cons rfl (.nil))))))))))))
      intro hbr
      have hbr := of_decide_eq_false hbr
      refine g_exit rfl ?_
      refine g_seq ?_
      refine g_region ?_
      refine l_move rfl rfl ?_
      refine l_fronto g2 ?_
      refine l_frontb b2 ?_
      refine l_call rfl Try.call18 rfl (words_ok _ _ b2 g2 n c2 W hW hc2 hn) ?_; rintro _ _ ⟨qc, cc, rfl, hcc, rfl⟩
      refine l_move rfl rfl ?_
      refine l_fronto qa ?_
      refine l_fronto qc ?_
      refine l_call rfl Try.call21 rfl (same_words _ _ _ _ _ _ _ _ _ W hW hn (.own (mem_getO 0 rfl)) (.own (mem_getO 1 rfl))) ?_; rintro _ _ ⟨rfl, rfl⟩
      refine l_not rfl rfl ?_
      refine l_nil ?_
      refine g_cond_f rfl ?_
      refine g_skip ?_
      refine g_inBlock ?_
      refine g_region ?_
      refine l_move rfl rfl ?_
      first | refine l_add rfl rfl rfl (w_i64 (by omega) (by omega)) ?_ | refine l_addw rfl rfl rfl ?_
      refine l_assign rfl rfl ?_
      refine l_nil ?_
      exact g_againi (ih (i + 1, W2) ⟨by simp only; omega, by simp only; omega, hlen2⟩ (by simp only; omega)) (.cons rfl (.cons rfl (.cons rfl (.cons rfl (.nil)))))
    intro hbr
    have hbr := of_decide_eq_false hbr
    refine l_guard_no rfl rfl rfl ?_
    refine l_pick_f rfl rfl rfl ?_
    refine l_move rfl rfl ?_
    refine l_guard_no rfl rfl rfl ?_
    refine l_guard_no rfl rfl rfl ?_
    refine l_pick_f rfl rfl rfl ?_
    refine l_nil ?_
    refine g_cond_f rfl ?_
    refine g_skip ?_
    refine g_seq ?_
    refine g_seq ?_
    refine g_region ?_
    refine l_assign rfl rfl ?_
    refine l_nil ?_
    refine g_block ?_
    refine g_loop (X := Int) (fun k => 0 ≤ k ∧ k ≤ n) (fun k => (n - k).toNat) (fun k => [(0, .int .i64 fr), (1, .slice (some ⟨bs, os_, none⟩) ns cs), (5, .pointer (some ⟨b, 0, none⟩)), (7, .int .i64 i), (8, .slice (some ⟨qa, 0, none⟩) n ca), (9, .pointer (some ⟨b2, 0, none⟩)), (10, .int .i64 a), (11, .int .i64 cnt), (12, .int .i64 e), (13, .slice (some ⟨qb, 0, none⟩) n cb), (15, .int .i64 k)]) (fun k => Own 30 1 (.slice (some ⟨qa, 0, none⟩) n ca) n (ints .u32 W) :: Own 30 1 (.slice (some ⟨qb, 0, none⟩) n cb) n (ints .u32 W2) :: Blk b2 (.cells [.slice (some ⟨g2, 0, none⟩) n c2].toArray 77 (0, 0)) :: Own 30 1 (.slice (some ⟨g2, 0, none⟩) n c2) n (ints .u32 W) :: Blk b (.cells [.slice (some ⟨g, 0, none⟩) n c].toArray 77 (0, 0)) :: Own 30 1 (.slice (some ⟨g, 0, none⟩) n c) n (ints .u32 W2) :: F) 0 (by omega) (.cons rfl (.cons rfl (.cons rfl (.cons rfl (.cons rfl (.cons rfl (.cons rfl (.cons rfl (.cons rfl (.cons rfl (.cons rfl (.nil)))))))))))) (fun w hw => SPI.holds hw) ?_
    rintro k ⟨k0, k1⟩ ihk
    have hat := hdid.at_
    have hatk := fun h => hat h k.toNat
    have hpl := fun h1 h2 => hdid.plain h1 h2 k.toNat
    have hly := fun h1 => (hdid.lay h1).2 k.toNat
    have hmv := fun h1 h2 => (hdid.move h1 h2).2 k.toNat
    rw [Int.toNat_of_nonneg k0] at hpl hly hmv
    have hbk : e ≠ 0 → W2.getD k.toNat 0 = W.getD k.toNat 0 := fun h => by rw [hbad h]
    have hin : e = 0 → a ≤ k → k < a + cnt → W2.getD k.toNat 0 = want k := fun h h1 h2 => by rw [hatk h, if_pos (by omega), Int.toNat_of_nonneg k0]
    have hno : e = 0 → ¬ (a ≤ k ∧ k < a + cnt) → W2.getD k.toNat 0 = W.getD k.toNat 0 := fun h h1 => by rw [hatk h, if_neg (by omega)]
    clear hat hatk
    refine g_seq ?_
    refine g_seq ?_
    refine g_region ?_
    refine l_move rfl rfl ?_
    refine l_move rfl rfl ?_
    refine l_len rfl Try.underlying23 rfl ?_
    refine l_lss rfl rfl rfl ?_
    refine l_nil ?_
    refine g_cond rfl ?_ ?_
    · intro hbr
      have hbr := of_decide_eq_true hbr
      refine g_skip ?_
      refine g_seq ?_
      refine g_block ?_
      refine g_seq ?_
      refine g_region ?_
      refine l_move rfl rfl ?_
      refine l_eql rfl rfl rfl ?_
      refine l_move rfl rfl ?_
      refine l_split 126 rfl ?_ ?_
      · intro hbr
        have hbr := of_decide_eq_true hbr
        (exfalso; omega)
      intro hbr
      have hbr := of_decide_eq_false hbr
      refine l_guard_no rfl rfl rfl ?_
      refine l_guard_no rfl rfl rfl ?_
      refine l_guard_no rfl rfl rfl ?_
      refine l_pick_f rfl rfl rfl ?_
      refine l_move rfl rfl ?_
      refine l_guard_no rfl rfl rfl ?_
      refine l_guard_no rfl rfl rfl ?_
      refine l_guard_no rfl rfl rfl ?_
      refine l_guard_no rfl rfl rfl ?_
      refine l_guard_no rfl rfl rfl ?_
      refine l_pick_f rfl rfl rfl ?_
      refine l_assign rfl rfl ?_
      refine l_nil ?_
      refine g_seq ?_
      refine g_seq ?_
      refine gp_start mo (by kernel_rfl) (by kernel_rfl) ?_
      refine gp_quiet 0 rfl rfl rfl rfl rfl rfl (q_move rfl) ?_
      refine gp_quiet 1 rfl rfl rfl rfl rfl rfl (q_not rfl) ?_
      refine gp_quiet 2 rfl rfl rfl rfl rfl rfl (q_move rfl) ?_
      refine gp_quietg 3 rfl rfl rfl rfl rfl rfl (.yes rfl rfl (q_move rfl)) ?_
      refine gp_quietg 4 rfl rfl rfl rfl rfl rfl (.yes rfl rfl (q_move rfl)) ?_
      refine gp_quietg 5 rfl rfl rfl rfl rfl rfl (.yes rfl rfl (q_ixs Try.underlying23 Try.sizeOf30 rfl rfl (by omega) (by omega))) ?_
      first | refine gp_quietg 6 rfl rfl rfl rfl rfl rfl (.yes rfl rfl (q_ld Try.isAgg30 rfl rfl)) ?_ | refine gp_quietg 6 rfl rfl rfl rfl rfl rfl (.yes rfl rfl (q_ldw Try.isAgg30 rfl (by omega))) ?_
      refine gp_quietg 7 rfl rfl rfl rfl rfl rfl (.yes rfl rfl (q_move rfl)) ?_
      refine gp_quietg 8 rfl rfl rfl rfl rfl rfl (.yes rfl rfl (q_move rfl)) ?_
      refine gp_quietg 9 rfl rfl rfl rfl rfl rfl (.yes rfl rfl (q_ixs Try.underlying23 Try.sizeOf30 rfl rfl (by omega) (by omega))) ?_
      first | refine gp_quietg 10 rfl rfl rfl rfl rfl rfl (.yes rfl rfl (q_ld Try.isAgg30 rfl rfl)) ?_ | refine gp_quietg 10 rfl rfl rfl rfl rfl rfl (.yes rfl rfl (q_ldw Try.isAgg30 rfl (by omega))) ?_
      refine gp_quietg 11 rfl rfl rfl rfl rfl rfl (.yes rfl rfl (q_neq rfl rfl)) ?_
      refine gp_quiet 12 rfl rfl rfl rfl rfl rfl (q_pick_t rfl rfl) ?_
      refine gp_end rfl rfl ?_
      refine g_cond rfl ?_ ?_
      · intro hbr
        have hbr := of_decide_eq_true hbr
        (exfalso; omega)
      intro hbr
      have hbr := of_decide_eq_false hbr
      refine g_skip ?_
      refine g_seq ?_
      refine g_region ?_
      refine l_move rfl rfl ?_
      refine l_nil ?_
      refine g_cond_f rfl ?_
      refine g_skip ?_
      refine g_inBlock ?_
      refine g_region ?_
      refine l_move rfl rfl ?_
      first | refine l_add rfl rfl rfl (w_i64 (by omega) (by omega)) ?_ | refine l_addw rfl rfl rfl ?_
      refine l_assign rfl rfl ?_
      refine l_nil ?_
      exact g_againi (ihk (k + 1) (by omega) (by omega)) (.cons rfl (.cons rfl (.cons rfl (.cons rfl (.cons rfl (.cons rfl (.cons rfl (.cons rfl (.cons rfl (.cons rfl (.cons rfl (.nil))))))))))))
    intro hbr
    have hbr := of_decide_eq_false hbr
    refine g_exit rfl ?_
    refine g_seq ?_
    refine g_region ?_
    refine l_move rfl rfl ?_
    refine l_fronto g2 ?_
    refine l_frontb b2 ?_
    refine l_call rfl Try.call18 rfl (words_ok _ _ b2 g2 n c2 W hW hc2 hn) ?_; rintro _ _ ⟨qc, cc, rfl, hcc, rfl⟩
    refine l_move rfl rfl ?_
    refine l_fronto qa ?_
    refine l_fronto qc ?_
    refine l_call rfl Try.call21 rfl (same_words _ _ _ _ _ _ _ _ _ W hW hn (.own (mem_getO 0 rfl)) (.own (mem_getO 1 rfl))) ?_; rintro _ _ ⟨rfl, rfl⟩
    refine l_not rfl rfl ?_
    refine l_nil ?_
    refine g_cond_f rfl ?_
    refine g_skip ?_
    refine g_inBlock ?_
    refine g_region ?_
    refine l_move rfl rfl ?_
    first | refine l_add rfl rfl rfl (w_i64 (by omega) (by omega)) ?_ | refine l_addw rfl rfl rfl ?_
    refine l_assign rfl rfl ?_
    refine l_nil ?_
    exact g_againi (ih (i + 1, W2) ⟨by simp only; omega, by simp only; omega, hlen2⟩ (by simp only; omega)) (.cons rfl (.cons rfl (.cons rfl (.cons rfl (.nil)))))
  intro hbr
  have hbr := of_decide_eq_false hbr
  refine g_exit rfl ?_
  refine g_seq ?_
  refine g_region ?_
  refine l_assign rfl rfl ?_
  refine l_nil ?_
  refine g_ret Try.func6 rfl (.tmp rfl .nil) ?_
  exact Gives.mki ⟨rfl, rfl⟩
end Go.Proofs.Ytlgcghhjgcdigaa.Fw
