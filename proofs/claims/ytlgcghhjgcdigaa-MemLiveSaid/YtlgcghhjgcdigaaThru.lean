import Derived.Test.YtlgcghhjgcdigaaTwin
namespace Go.Proofs.Ytlgcghhjgcdigaa.Fw
open Go Go.Proofs
set_option linter.unusedVariables false
set_option linter.unusedSimpArgs false
set_option maxRecDepth 10000

/-- A word that is written on the way. -/
structure WkV where
  sec : Bool
  wat : Int
  wx : Int
def wkV (o : WkV) : List Value := [.bool o.sec, .int .i64 o.wat, .int .u32 o.wx]
theorem wkV_len (L : List WkV) : ∀ r ∈ L.map wkV, r.length = 3 := by
  intro r hr
  obtain ⟨o, _, rfl⟩ := List.mem_map.1 hr
  rfl
def WkOk (o : WkV) : Prop := -9223372036854775808 ≤ o.wat ∧ o.wat ≤ 9223372036854775807
theorem wk_at {L : List WkV} (hok : ∀ o ∈ L, WkOk o) {i : Nat} (h : i < L.length) : ∃ o, (L.map wkV)[i]? = some (wkV o) ∧ WkOk o := ⟨L[i], by simp [h], hok _ (List.getElem_mem _)⟩
theorem twr_any (w0 : World) (F : List Atom) (tb b1 g1 n1 c1 b2 g2 n2 c2 x1 x2 : Nat) (hc1 : n1 ≤ c1) (hn1 : n1 ≤ 1073741824) (hc2 : n2 ≤ c2) (hn2 : n2 ≤ 1073741824) (A B : List Int) (hA : A.length = n1) (hB : B.length = n2) (sec : Bool) (at_ x : Int) (a0 : -9223372036854775808 ≤ at_) (a1 : at_ ≤ 9223372036854775807) : CallK Try.prog 15 [.pointer (some ⟨tb, 0, none⟩), .agg [Value.bool sec, .int .i64 at_, .int .u32 x].toArray] w0 (Blk tb (.cells [Value.pointer (some ⟨b1, 0, none⟩), .pointer (some ⟨b2, 0, none⟩), .slice (some ⟨x1, 0, none⟩) n1 n1, .slice (some ⟨x2, 0, none⟩) n2 n2].toArray 42 (0, 0)) :: Blk b1 (.cells [Value.slice (some ⟨g1, 0, none⟩) n1 c1].toArray 77 (0, 0)) :: Own 30 1 (.slice (some ⟨g1, 0, none⟩) n1 c1) n1 (ints .u32 A) :: Blk b2 (.cells [Value.slice (some ⟨g2, 0, none⟩) n2 c2].toArray 77 (0, 0)) :: Own 30 1 (.slice (some ⟨g2, 0, none⟩) n2 c2) n2 (ints .u32 B) :: Own 30 1 (.slice (some ⟨x1, 0, none⟩) n1 n1) n1 (ints .u32 A) :: Own 30 1 (.slice (some ⟨x2, 0, none⟩) n2 n2) n2 (ints .u32 B) :: F) (Gives w0 fun v F2 => ∃ A2 B2, v = .bool true ∧ A2.length = n1 ∧ B2.length = n2 ∧ F2 = Blk tb (.cells [Value.pointer (some ⟨b1, 0, none⟩), .pointer (some ⟨b2, 0, none⟩), .slice (some ⟨x1, 0, none⟩) n1 n1, .slice (some ⟨x2, 0, none⟩) n2 n2].toArray 42 (0, 0)) :: Blk b1 (.cells [Value.slice (some ⟨g1, 0, none⟩) n1 c1].toArray 77 (0, 0)) :: Own 30 1 (.slice (some ⟨g1, 0, none⟩) n1 c1) n1 (ints .u32 A2) :: Blk b2 (.cells [Value.slice (some ⟨g2, 0, none⟩) n2 c2].toArray 77 (0, 0)) :: Own 30 1 (.slice (some ⟨g2, 0, none⟩) n2 c2) n2 (ints .u32 B2) :: Own 30 1 (.slice (some ⟨x1, 0, none⟩) n1 n1) n1 (ints .u32 A2) :: Own 30 1 (.slice (some ⟨x2, 0, none⟩) n2 n2) n2 (ints .u32 B2) :: F) := by
  cases sec with
  | false => exact (twr_1 w0 F tb b1 g1 n1 c1 b2 g2 n2 c2 x1 x2 hc1 hn1 hc2 hn2 A B hA hB at_ x a0 a1).gmono fun v F2 ⟨X, e1, e2, e3⟩ => ⟨X, B, e1, e2, hB, e3⟩
  | true => exact (twr_2 w0 F tb b1 g1 n1 c1 b2 g2 n2 c2 x1 x2 hc1 hn1 hc2 hn2 A B hA hB at_ x a0 a1).gmono fun v F2 ⟨X, e1, e2, e3⟩ => ⟨A, X, e1, hA, e2, e3⟩
set_option maxHeartbeats 8000000 in
theorem through_ok (w0 : World) (F : List Atom) (tb b1 g1 n1 c1 b2 g2 n2 c2 x1 x2 : Nat) (hc1 : n1 ≤ c1) (hn1 : n1 ≤ 1073741824) (hc2 : n2 ≤ c2) (hn2 : n2 ≤ 1073741824) (A B : List Int) (hA : A.length = n1) (hB : B.length = n2) (wa : Option Addr) (wn wc : Nat) (L : List WkV) (hLl : L.length = wn) (hs : wn = 0 ∨ ∃ b o, wa = some ⟨b, o, none⟩ ∧ RowAt w0 F b o (L.map wkV).flatten) (hok : ∀ o ∈ L, WkOk o) (hwn : wn ≤ 9223372036854775807) (bm bo : Nat) (dn : Int) (dn0 : 0 ≤ dn) (dn1 : dn ≤ wn) :
    CallK Try.prog 16 [.pointer (some ⟨tb, 0, none⟩), .func (.func 30) #[] [.pointer (some ⟨bm, 0, none⟩), .pointer (some ⟨bo, 0, none⟩)].toArray, .slice wa wn wc, .int .i64 dn] w0 (Blk tb (.cells [Value.pointer (some ⟨b1, 0, none⟩), .pointer (some ⟨b2, 0, none⟩), .slice (some ⟨x1, 0, none⟩) n1 n1, .slice (some ⟨x2, 0, none⟩) n2 n2].toArray 42 (0, 0)) :: Blk b1 (.cells [Value.slice (some ⟨g1, 0, none⟩) n1 c1].toArray 77 (0, 0)) :: Own 30 1 (.slice (some ⟨g1, 0, none⟩) n1 c1) n1 (ints .u32 A) :: Blk b2 (.cells [Value.slice (some ⟨g2, 0, none⟩) n2 c2].toArray 77 (0, 0)) :: Own 30 1 (.slice (some ⟨g2, 0, none⟩) n2 c2) n2 (ints .u32 B) :: Own 30 1 (.slice (some ⟨x1, 0, none⟩) n1 n1) n1 (ints .u32 A) :: Own 30 1 (.slice (some ⟨x2, 0, none⟩) n2 n2) n2 (ints .u32 B) :: Blk bm (.cells [Value.pointer (some ⟨b1, 0, none⟩)].toArray 25 (0, 0)) :: Blk bo (.cells [Value.pointer (some ⟨b2, 0, none⟩)].toArray 25 (0, 0)) :: F) (Gives w0 fun v F2 => ∃ d2 A2 B2, v = .tuple #[.int .i64 d2, .bool true] ∧ 0 ≤ d2 ∧ d2 ≤ wn ∧ A2.length = n1 ∧ B2.length = n2 ∧ F2 = Blk tb (.cells [Value.pointer (some ⟨b1, 0, none⟩), .pointer (some ⟨b2, 0, none⟩), .slice (some ⟨x1, 0, none⟩) n1 n1, .slice (some ⟨x2, 0, none⟩) n2 n2].toArray 42 (0, 0)) :: Blk b1 (.cells [Value.slice (some ⟨g1, 0, none⟩) n1 c1].toArray 77 (0, 0)) :: Own 30 1 (.slice (some ⟨g1, 0, none⟩) n1 c1) n1 (ints .u32 A2) :: Blk b2 (.cells [Value.slice (some ⟨g2, 0, none⟩) n2 c2].toArray 77 (0, 0)) :: Own 30 1 (.slice (some ⟨g2, 0, none⟩) n2 c2) n2 (ints .u32 B2) :: Own 30 1 (.slice (some ⟨x1, 0, none⟩) n1 n1) n1 (ints .u32 A2) :: Own 30 1 (.slice (some ⟨x2, 0, none⟩) n2 n2) n2 (ints .u32 B2) :: Blk bm (.cells [Value.pointer (some ⟨b1, 0, none⟩)].toArray 25 (0, 0)) :: Blk bo (.cells [Value.pointer (some ⟨b2, 0, none⟩)].toArray 25 (0, 0)) :: F) := by
  refine c_enter Try.func16 rfl rfl rfl ?_
  refine g_seq ?_
  refine g_region ?_
  refine l_box rfl rfl rfl ?_; intro b4
  refine l_box rfl rfl rfl ?_; intro b6
  refine l_box rfl rfl rfl ?_; intro b7
  refine l_alloc rfl Try.zeroValue3 rfl ?_; intro b8
  refine l_alloc rfl Try.zeroValue4 rfl ?_; intro b9
  refine l_nil ?_
  refine g_seq ?_
  refine gp_start mo (by kernel_rfl) (by kernel_rfl) ?_
  refine gp_quiet 0 rfl rfl rfl rfl rfl rfl (q_ld Try.isAgg40 rfl rfl) ?_
  refine gp_quiet 1 rfl rfl rfl rfl rfl rfl (q_nilCheck rfl) ?_
  refine gp_quiet 2 rfl rfl rfl rfl rfl rfl (q_fieldAddr fa_42_2 rfl) ?_
  refine gp_quiet 3 rfl rfl rfl rfl rfl rfl (q_ld Try.isAgg23 rfl rfl) ?_
  refine gp_quiet 4 rfl rfl rfl rfl rfl rfl (q_len Try.underlying23 rfl) ?_
  refine gp_quiet 5 rfl rfl rfl rfl rfl rfl (q_ld Try.isAgg40 rfl rfl) ?_
  refine gp_quiet 6 rfl rfl rfl rfl rfl rfl (q_nilCheck rfl) ?_
  refine gp_quiet 7 rfl rfl rfl rfl rfl rfl (q_fieldAddr fa_42_3 rfl) ?_
  refine gp_quiet 8 rfl rfl rfl rfl rfl rfl (q_ld Try.isAgg23 rfl rfl) ?_
  refine gp_quiet 9 rfl rfl rfl rfl rfl rfl (q_len Try.underlying23 rfl) ?_
  refine gp_quiet 10 rfl rfl rfl rfl rfl rfl (q_max rfl rfl) ?_
  refine gp_eff 11 rfl rfl rfl rfl rfl rfl (does_alloc Try.zeroValue3 rfl) ?_
  rintro _ _ ⟨b10, rfl, rfl⟩
  refine ⟨?_, ?_⟩
  · refine .cons rfl rfl rfl rfl rfl (q_max rfl rfl) ?_
    refine .cons rfl rfl rfl rfl rfl (q_len Try.underlying23 rfl) ?_
    refine .cons rfl rfl rfl rfl rfl (q_ld Try.isAgg23 rfl rfl) ?_
    refine .cons rfl rfl rfl rfl rfl (q_fieldAddr fa_42_3 rfl) ?_
    refine .cons rfl rfl rfl rfl rfl (q_nilCheck rfl) ?_
    refine .cons rfl rfl rfl rfl rfl (q_ld Try.isAgg40 rfl rfl) ?_
    refine .cons rfl rfl rfl rfl rfl (q_len Try.underlying23 rfl) ?_
    refine .cons rfl rfl rfl rfl rfl (q_ld Try.isAgg23 rfl rfl) ?_
    refine .cons rfl rfl rfl rfl rfl (q_fieldAddr fa_42_2 rfl) ?_
    refine .cons rfl rfl rfl rfl rfl (q_nilCheck rfl) ?_
    refine .cons rfl rfl rfl rfl rfl (q_ld Try.isAgg40 rfl rfl) ?_
    exact .nil
  first | refine gp_effa 12 [0, 1, 2, 3, 4, 5, 6, 7, 8, 9, 10] [] rfl rfl rfl rfl rfl rfl rfl (does_st Try.sizeOf3 rfl rfl rfl rfl) ?_ | refine gp_effa 12 [0, 1, 2, 3, 4, 5, 6, 7, 8, 9, 10] [] rfl rfl rfl rfl rfl rfl rfl (does_stw Try.sizeOf3 rfl rfl (by omega)) ?_
  rintro _ _ ⟨rfl, rfl⟩
  refine ⟨?_, ?_⟩
  · exact .nil
  refine gp_end rfl rfl ?_
  refine g_seq ?_
  refine g_region ?_
  refine l_alloc rfl Try.zeroValue3 rfl ?_; intro b11
  first | refine l_st Try.sizeOf3 rfl rfl rfl rfl ?_ | refine l_stw Try.sizeOf3 rfl rfl (by omega) ?_
  refine l_nil ?_
  refine g_seq ?_
  refine g_seq ?_
  refine g_region ?_
  refine l_move rfl rfl ?_
  refine l_nil ?_
  refine g_block ?_
  refine g_rangeR rfl Try.call30 rfl ?_
  rintro r0 l0 RC0 hRC0
  refine CallK.heap (F2 := RC0 .ready none :: Blk tb (.cells [Value.pointer (some ⟨b1, 0, none⟩), .pointer (some ⟨b2, 0, none⟩), .slice (some ⟨x1, 0, none⟩) n1 n1, .slice (some ⟨x2, 0, none⟩) n2 n2].toArray 42 (0, 0)) :: Blk b1 (.cells [Value.slice (some ⟨g1, 0, none⟩) n1 c1].toArray 77 (0, 0)) :: Own 30 1 (.slice (some ⟨g1, 0, none⟩) n1 c1) n1 (ints .u32 A) :: Blk b2 (.cells [Value.slice (some ⟨g2, 0, none⟩) n2 c2].toArray 77 (0, 0)) :: Own 30 1 (.slice (some ⟨g2, 0, none⟩) n2 c2) n2 (ints .u32 B) :: Own 30 1 (.slice (some ⟨x1, 0, none⟩) n1 n1) n1 (ints .u32 A) :: Own 30 1 (.slice (some ⟨x2, 0, none⟩) n2 n2) n2 (ints .u32 B) :: Blk b11 (.cells [Value.int .i64 0].toArray 3 (0, 0)) :: Blk b7 (.cells [Value.int .i64 dn].toArray 3 (0, 0)) :: Blk b4 (.cells [Value.pointer (some ⟨tb, 0, none⟩)].toArray 40 (0, 0)) :: Blk b6 (.cells [Value.slice wa wn wc].toArray 39 (0, 0)) :: Blk b10 (.cells [Value.int .i64 (max (n1 : Int) n2)].toArray 3 (0, 0)) :: Blk b8 (.cells [Value.int .i64 0].toArray 3 (0, 0)) :: Blk b9 (.cells [Value.bool false].toArray 4 (0, 0)) :: Dfr r0 :: Blk bm (.cells [Value.pointer (some ⟨b1, 0, none⟩)].toArray 25 (0, 0)) :: Blk bo (.cells [Value.pointer (some ⟨b2, 0, none⟩)].toArray 25 (0, 0)) :: F) (CallK.mono (seq_g w0 [] (fun x : Int × Int × List Int × List Int => RC0 .ready none :: Blk tb (.cells [Value.pointer (some ⟨b1, 0, none⟩), .pointer (some ⟨b2, 0, none⟩), .slice (some ⟨x1, 0, none⟩) n1 n1, .slice (some ⟨x2, 0, none⟩) n2 n2].toArray 42 (0, 0)) :: Blk b1 (.cells [Value.slice (some ⟨g1, 0, none⟩) n1 c1].toArray 77 (0, 0)) :: Own 30 1 (.slice (some ⟨g1, 0, none⟩) n1 c1) n1 (ints .u32 x.2.2.1) :: Blk b2 (.cells [Value.slice (some ⟨g2, 0, none⟩) n2 c2].toArray 77 (0, 0)) :: Own 30 1 (.slice (some ⟨g2, 0, none⟩) n2 c2) n2 (ints .u32 x.2.2.2) :: Own 30 1 (.slice (some ⟨x1, 0, none⟩) n1 n1) n1 (ints .u32 x.2.2.1) :: Own 30 1 (.slice (some ⟨x2, 0, none⟩) n2 n2) n2 (ints .u32 x.2.2.2) :: Blk b11 (.cells [Value.int .i64 x.1].toArray 3 (0, 0)) :: Blk b7 (.cells [Value.int .i64 x.2.1].toArray 3 (0, 0)) :: Blk b4 (.cells [Value.pointer (some ⟨tb, 0, none⟩)].toArray 40 (0, 0)) :: Blk b6 (.cells [Value.slice wa wn wc].toArray 39 (0, 0)) :: Blk b10 (.cells [Value.int .i64 (max (n1 : Int) n2)].toArray 3 (0, 0)) :: Blk b8 (.cells [Value.int .i64 0].toArray 3 (0, 0)) :: Blk b9 (.cells [Value.bool false].toArray 4 (0, 0)) :: Dfr r0 :: Blk bm (.cells [Value.pointer (some ⟨b1, 0, none⟩)].toArray 25 (0, 0)) :: Blk bo (.cells [Value.pointer (some ⟨b2, 0, none⟩)].toArray 25 (0, 0)) :: F) (fun (k : Int) x => (0 ≤ x.1 ∧ x.1 ≤ k ∧ 0 ≤ x.2.1 ∧ x.2.1 ≤ wn) ∧ (x.2.2.1.length = n1 ∧ x.2.2.2.length = n2) ∧ ∀ j, x.1 ≤ j → j < k → ¬ unl n1 n2 x.2.2.1 x.2.2.2 j) (fun x => x.2.2.1) (fun x => x.2.2.2) (fun _ => False) l0 bm bo b1 g1 c1 n1 b2 g2 c2 n2 hn1 hn2 (fun k x hx => ⟨mem_rd (b := b1) (g := g1) (n := n1) (c := c1) (W := x.2.2.1) (by first | exact mem_getO 0 rfl | exact mem_getO 1 rfl | exact mem_getO 2 rfl | exact mem_getO 3 rfl | exact mem_getO 4 rfl | exact mem_getO 5 rfl | exact mem_getO 6 rfl | exact mem_getO 7 rfl | exact mem_getO 8 rfl | exact mem_getO 9 rfl | exact mem_getO 10 rfl | exact mem_getO 11 rfl) (by first | exact mem_getO 0 rfl | exact mem_getO 1 rfl | exact mem_getO 2 rfl | exact mem_getO 3 rfl | exact mem_getO 4 rfl | exact mem_getO 5 rfl | exact mem_getO 6 rfl | exact mem_getO 7 rfl | exact mem_getO 8 rfl | exact mem_getO 9 rfl | exact mem_getO 10 rfl | exact mem_getO 11 rfl), hx.2.1.1⟩) (fun k x hx => ⟨mem_rd (b := b2) (g := g2) (n := n2) (c := c2) (W := x.2.2.2) (by first | exact mem_getO 0 rfl | exact mem_getO 1 rfl | exact mem_getO 2 rfl | exact mem_getO 3 rfl | exact mem_getO 4 rfl | exact mem_getO 5 rfl | exact mem_getO 6 rfl | exact mem_getO 7 rfl | exact mem_getO 8 rfl | exact mem_getO 9 rfl | exact mem_getO 10 rfl | exact mem_getO 11 rfl) (by first | exact mem_getO 0 rfl | exact mem_getO 1 rfl | exact mem_getO 2 rfl | exact mem_getO 3 rfl | exact mem_getO 4 rfl | exact mem_getO 5 rfl | exact mem_getO 6 rfl | exact mem_getO 7 rfl | exact mem_getO 8 rfl | exact mem_getO 9 rfl | exact mem_getO 10 rfl | exact mem_getO 11 rfl), hx.2.1.2⟩) (fun k x _ => ⟨(fun w hw => by have h := hw.ok (Blk bm (.cells [Value.pointer (some ⟨b1, 0, none⟩)].toArray 25 (0, 0))) (by first | exact mem_getO 0 rfl | exact mem_getO 1 rfl | exact mem_getO 2 rfl | exact mem_getO 3 rfl | exact mem_getO 4 rfl | exact mem_getO 5 rfl | exact mem_getO 6 rfl | exact mem_getO 7 rfl | exact mem_getO 8 rfl | exact mem_getO 9 rfl | exact mem_getO 10 rfl | exact mem_getO 11 rfl | exact mem_getO 12 rfl | exact mem_getO 13 rfl | exact mem_getO 14 rfl | exact mem_getO 15 rfl | exact mem_getO 16 rfl | exact mem_getO 17 rfl); exact cell_of_has (c := [Value.pointer (some ⟨b1, 0, none⟩)]) (b := bm) (o := 0) h rfl), (fun w hw => by have h := hw.ok (Blk bo (.cells [Value.pointer (some ⟨b2, 0, none⟩)].toArray 25 (0, 0))) (by first | exact mem_getO 0 rfl | exact mem_getO 1 rfl | exact mem_getO 2 rfl | exact mem_getO 3 rfl | exact mem_getO 4 rfl | exact mem_getO 5 rfl | exact mem_getO 6 rfl | exact mem_getO 7 rfl | exact mem_getO 8 rfl | exact mem_getO 9 rfl | exact mem_getO 10 rfl | exact mem_getO 11 rfl | exact mem_getO 12 rfl | exact mem_getO 13 rfl | exact mem_getO 14 rfl | exact mem_getO 15 rfl | exact mem_getO 16 rfl | exact mem_getO 17 rfl); exact cell_of_has (c := [Value.pointer (some ⟨b2, 0, none⟩)]) (b := bo) (o := 0) h rfl)⟩) (fun k x k0 k1 hI he => ⟨⟨hI.1.1, by have := hI.1.2.1; omega, hI.1.2.2⟩, hI.2.1, fun j j0 j1 => by rcases (show j < k ∨ j = k by omega) with h | rfl; (exact hI.2.2 j j0 h); exact he⟩) (fun k x k0 k1 hI hne => ?_) (0, dn, A, B) ⟨⟨Int.le_refl _, Int.le_refl _, dn0, dn1⟩, ⟨hA, hB⟩, fun j j0 j1 => by simp only at j0; omega⟩) (fun en F2 hG => ?_)) (fun w hw => SPI.holds hw)
  · obtain ⟨at_, dn, A, B⟩ := x
    obtain ⟨⟨at0, at1, dn0, dn1⟩, ⟨hA, hB⟩, hE⟩ := hI
    simp only at at0 at1 dn0 dn1 hA hB hE hne
    dsimp only
    refine c_roundR hRC0 rfl rfl ?_
    dsimp only [putL]
    refine g_region ?_
    refine l_assign rfl rfl ?_
    refine l_nil ?_
    refine g_beginR hRC0 ?_
    refine g_block ?_
    refine g_seq ?_
    refine g_seq ?_
    refine g_region ?_
    refine l_move rfl rfl ?_
    first | refine l_ld rfl Try.isAgg3 rfl rfl ?_ | refine l_ldw rfl Try.isAgg3 rfl (by omega) ?_
    refine l_lss rfl rfl rfl ?_
    refine l_move rfl rfl ?_
    refine l_split 30 rfl ?_ ?_
    · intro hbr
      have hbr := of_decide_eq_true hbr
      (exfalso; first | omega | (simp at hbr; done))
    intro hbr
    have hbr := of_decide_eq_false hbr
    refine l_guard_yes rfl rfl ?_
    refine l_move rfl rfl ?_
    refine l_guard_yes rfl rfl ?_
    first | refine l_ld rfl Try.isAgg3 rfl rfl ?_ | refine l_ldw rfl Try.isAgg3 rfl (by omega) ?_
    refine l_guard_yes rfl rfl ?_
    refine l_geq rfl rfl rfl ?_
    refine l_pick_f rfl rfl rfl ?_
    refine l_move rfl rfl ?_
    refine l_split 35 rfl ?_ ?_
    · intro hbr
      have hbr := of_decide_eq_true hbr
      (exfalso; first | omega | (simp at hbr; done))
    intro hbr
    have hbr := of_decide_eq_false hbr
    refine l_guard_yes rfl rfl ?_
    refine l_ld rfl Try.isAgg40 rfl rfl ?_
    refine l_guard_yes rfl rfl ?_
    first | refine l_ld rfl Try.isAgg3 rfl rfl ?_ | refine l_ldw rfl Try.isAgg3 rfl (by omega) ?_
    refine l_guard_yes rfl rfl ?_
    refine l_move rfl rfl ?_
    refine l_guard_yes rfl rfl ?_
    refine l_call rfl Try.call33 rfl (alike_ok _ _ tb x1 n1 x2 n2 A B (tw_rd (b1 := b1) (b2 := b2) (by first | exact mem_getO 0 rfl | exact mem_getO 1 rfl | exact mem_getO 2 rfl | exact mem_getO 3 rfl | exact mem_getO 4 rfl | exact mem_getO 5 rfl | exact mem_getO 6 rfl | exact mem_getO 7 rfl | exact mem_getO 8 rfl | exact mem_getO 9 rfl | exact mem_getO 10 rfl | exact mem_getO 11 rfl | exact mem_getO 12 rfl | exact mem_getO 13 rfl) (by first | exact mem_getO 0 rfl | exact mem_getO 1 rfl | exact mem_getO 2 rfl | exact mem_getO 3 rfl | exact mem_getO 4 rfl | exact mem_getO 5 rfl | exact mem_getO 6 rfl | exact mem_getO 7 rfl | exact mem_getO 8 rfl | exact mem_getO 9 rfl | exact mem_getO 10 rfl | exact mem_getO 11 rfl | exact mem_getO 12 rfl | exact mem_getO 13 rfl) (by first | exact mem_getO 0 rfl | exact mem_getO 1 rfl | exact mem_getO 2 rfl | exact mem_getO 3 rfl | exact mem_getO 4 rfl | exact mem_getO 5 rfl | exact mem_getO 6 rfl | exact mem_getO 7 rfl | exact mem_getO 8 rfl | exact mem_getO 9 rfl | exact mem_getO 10 rfl | exact mem_getO 11 rfl | exact mem_getO 12 rfl | exact mem_getO 13 rfl)) hA hB hn1 hn2 at_ k at0 (by omega) (by omega) hE) ?_; rintro _ _ ⟨rfl, rfl⟩
    refine l_guard_yes rfl rfl ?_
    refine l_not rfl rfl ?_
    refine l_pick_f rfl rfl rfl ?_
    refine l_move rfl rfl ?_
    refine l_guard_yes rfl rfl ?_
    refine l_ld rfl Try.isAgg40 rfl rfl ?_
    refine l_guard_yes rfl rfl ?_
    refine l_move rfl rfl ?_
    refine l_guard_yes rfl rfl ?_
    refine l_call rfl Try.call34 rfl (tunl_ok _ _ tb x1 n1 x2 n2 A B (tw_rd (b1 := b1) (b2 := b2) (by first | exact mem_getO 0 rfl | exact mem_getO 1 rfl | exact mem_getO 2 rfl | exact mem_getO 3 rfl | exact mem_getO 4 rfl | exact mem_getO 5 rfl | exact mem_getO 6 rfl | exact mem_getO 7 rfl | exact mem_getO 8 rfl | exact mem_getO 9 rfl | exact mem_getO 10 rfl | exact mem_getO 11 rfl | exact mem_getO 12 rfl | exact mem_getO 13 rfl) (by first | exact mem_getO 0 rfl | exact mem_getO 1 rfl | exact mem_getO 2 rfl | exact mem_getO 3 rfl | exact mem_getO 4 rfl | exact mem_getO 5 rfl | exact mem_getO 6 rfl | exact mem_getO 7 rfl | exact mem_getO 8 rfl | exact mem_getO 9 rfl | exact mem_getO 10 rfl | exact mem_getO 11 rfl | exact mem_getO 12 rfl | exact mem_getO 13 rfl) (by first | exact mem_getO 0 rfl | exact mem_getO 1 rfl | exact mem_getO 2 rfl | exact mem_getO 3 rfl | exact mem_getO 4 rfl | exact mem_getO 5 rfl | exact mem_getO 6 rfl | exact mem_getO 7 rfl | exact mem_getO 8 rfl | exact mem_getO 9 rfl | exact mem_getO 10 rfl | exact mem_getO 11 rfl | exact mem_getO 12 rfl | exact mem_getO 13 rfl)) hA hB hn1 hn2 k k0) ?_; rintro _ _ ⟨rfl, rfl⟩
    rw [decide_eq_true hne]
    refine l_guard_yes rfl rfl ?_
    refine l_not rfl rfl ?_
    refine l_pick_f rfl rfl rfl ?_
    refine l_nil ?_
    refine g_cond_f rfl ?_
    refine g_skip ?_
    refine g_seq ?_
    refine g_region ?_
    refine l_move rfl rfl ?_
    first | refine l_add rfl rfl rfl (w_i64 (by omega) (by omega)) ?_ | refine l_addw rfl rfl rfl ?_
    first | refine l_st Try.sizeOf3 rfl rfl rfl rfl ?_ | refine l_stw Try.sizeOf3 rfl rfl (by omega) ?_
    refine l_nil ?_
    refine g_seq ?_
    refine g_region ?_
    first | refine l_ld rfl Try.isAgg3 rfl rfl ?_ | refine l_ldw rfl Try.isAgg3 rfl (by omega) ?_
    refine l_ld rfl Try.isAgg39 rfl rfl ?_
    refine l_len rfl Try.underlying39 rfl ?_
    refine l_lss rfl rfl rfl ?_
    refine l_nil ?_
    refine g_cond rfl ?_ ?_
    · intro hbr
      have hbr := of_decide_eq_true hbr
      refine g_seq ?_
      refine gp_start mo (by kernel_rfl) (by kernel_rfl) ?_
      refine gp_quiet 0 rfl rfl rfl rfl rfl rfl (q_ld Try.isAgg40 rfl rfl) ?_
      refine gp_quiet 1 rfl rfl rfl rfl rfl rfl (q_ld Try.isAgg39 rfl rfl) ?_
      first | refine gp_quiet 2 rfl rfl rfl rfl rfl rfl (q_ld Try.isAgg3 rfl rfl) ?_ | refine gp_quiet 2 rfl rfl rfl rfl rfl rfl (q_ldw Try.isAgg3 rfl (by omega)) ?_
      obtain ⟨b9w, q9, rfl, hr9⟩ := hs.resolve_left (show ¬ wn = 0 by omega)
      obtain ⟨⟨sec, wat, wx⟩, hrow, ok⟩ := wk_at hok (show dn.toNat < L.length by omega)
      unfold WkOk at ok
      simp only at ok
      have hre := row_elem hr9 (wkV_len L) hrow
      refine gp_quiet 3 rfl rfl rfl rfl rfl rfl (q_ixs Try.underlying39 Try.sizeOf47 rfl rfl (by omega) (by omega)) ?_
      refine gp_quiet 4 rfl rfl rfl rfl rfl rfl (q_loadr (l := [Value.bool sec, .int .i64 wat, .int .u32 wx]) Try.isAgg47 Try.sizeOf47 rfl rfl hre.ex) ?_
      refine gp_fronto x2 ?_
      refine gp_fronto x1 ?_
      refine gp_fronto g2 ?_
      refine gp_frontb b2 ?_
      refine gp_fronto g1 ?_
      refine gp_frontb b1 ?_
      refine gp_frontb tb ?_
      refine gp_effa 5 [0, 4] [3, 2, 1] rfl rfl rfl rfl rfl rfl rfl (does_call Try.call15 rfl (twr_any _ _ tb b1 g1 n1 c1 b2 g2 n2 c2 x1 x2 hc1 hn1 hc2 hn2 A B hA hB sec wat wx ok.1 ok.2)) ?_
      rintro _ _ ⟨A2, B2, rfl, hA2, hB2, rfl⟩
      refine ⟨?_, ?_⟩
      · refine .cons rfl rfl rfl rfl rfl (q_ixs Try.underlying39 Try.sizeOf47 rfl rfl (by omega) (by omega)) ?_
        first | refine .cons rfl rfl rfl rfl rfl (q_ld Try.isAgg3 rfl rfl) ?_ | refine .cons rfl rfl rfl rfl rfl (q_ldw Try.isAgg3 rfl (by omega)) ?_
        refine .cons rfl rfl rfl rfl rfl (q_ld Try.isAgg39 rfl rfl) ?_
        exact .nil
      refine gp_quiet 6 rfl rfl rfl rfl rfl rfl (q_assign rfl) ?_
      refine gp_end rfl rfl ?_
      refine g_seq ?_
      refine g_region ?_
      first | refine l_ld rfl Try.isAgg3 rfl rfl ?_ | refine l_ldw rfl Try.isAgg3 rfl (by omega) ?_
      first | refine l_add rfl rfl rfl (w_i64 (by omega) (by omega)) ?_ | refine l_addw rfl rfl rfl ?_
      first | refine l_st Try.sizeOf3 rfl rfl rfl rfl ?_ | refine l_stw Try.sizeOf3 rfl rfl (by omega) ?_
      refine l_nil ?_
      refine g_seq ?_
      refine g_region ?_
      refine l_move rfl rfl ?_
      refine l_not rfl rfl ?_
      refine l_nil ?_
      refine g_cond_f rfl ?_
      refine g_skip ?_
      refine g_inBlock ?_
      (first | (refine g_roundE (p := none) (F := Blk tb (.cells [Value.pointer (some ⟨b1, 0, none⟩), .pointer (some ⟨b2, 0, none⟩), .slice (some ⟨x1, 0, none⟩) n1 n1, .slice (some ⟨x2, 0, none⟩) n2 n2].toArray 42 (0, 0)) :: Blk b1 (.cells [Value.slice (some ⟨g1, 0, none⟩) n1 c1].toArray 77 (0, 0)) :: Own 30 1 (.slice (some ⟨g1, 0, none⟩) n1 c1) n1 (ints .u32 A2) :: Blk b2 (.cells [Value.slice (some ⟨g2, 0, none⟩) n2 c2].toArray 77 (0, 0)) :: Own 30 1 (.slice (some ⟨g2, 0, none⟩) n2 c2) n2 (ints .u32 B2) :: Own 30 1 (.slice (some ⟨x1, 0, none⟩) n1 n1) n1 (ints .u32 A2) :: Own 30 1 (.slice (some ⟨x2, 0, none⟩) n2 n2) n2 (ints .u32 B2) :: Blk b11 (.cells [Value.int .i64 (k + 1)].toArray 3 (0, 0)) :: Blk b7 (.cells [Value.int .i64 (dn + 1)].toArray 3 (0, 0)) :: Blk b4 (.cells [Value.pointer (some ⟨tb, 0, none⟩)].toArray 40 (0, 0)) :: Blk b6 (.cells [Value.slice (some ⟨b9w, q9, none⟩) wn wc].toArray 39 (0, 0)) :: Blk b10 (.cells [Value.int .i64 (max (n1 : Int) n2)].toArray 3 (0, 0)) :: Blk b8 (.cells [Value.int .i64 0].toArray 3 (0, 0)) :: Blk b9 (.cells [Value.bool false].toArray 4 (0, 0)) :: Dfr r0 :: Blk bm (.cells [Value.pointer (some ⟨b1, 0, none⟩)].toArray 25 (0, 0)) :: Blk bo (.cells [Value.pointer (some ⟨b2, 0, none⟩)].toArray 25 (0, 0)) :: F) hRC0 (fun w hw => SPI.holds hw) ?_; exact ⟨_, rfl, true, rfl, fun _ => ⟨(k + 1, (dn + 1), A2, B2), ⟨⟨by simp only; omega, by simp only; omega, by simp only; omega, by simp only; omega⟩, ⟨hA2, hB2⟩, fun j j0 j1 => by simp only at j0; omega⟩, fun w hw => hw⟩, fun h => (by cases h)⟩) | (refine g_roundE (p := none) (F := Blk tb (.cells [Value.pointer (some ⟨b1, 0, none⟩), .pointer (some ⟨b2, 0, none⟩), .slice (some ⟨x1, 0, none⟩) n1 n1, .slice (some ⟨x2, 0, none⟩) n2 n2].toArray 42 (0, 0)) :: Blk b1 (.cells [Value.slice (some ⟨g1, 0, none⟩) n1 c1].toArray 77 (0, 0)) :: Own 30 1 (.slice (some ⟨g1, 0, none⟩) n1 c1) n1 (ints .u32 A) :: Blk b2 (.cells [Value.slice (some ⟨g2, 0, none⟩) n2 c2].toArray 77 (0, 0)) :: Own 30 1 (.slice (some ⟨g2, 0, none⟩) n2 c2) n2 (ints .u32 B) :: Own 30 1 (.slice (some ⟨x1, 0, none⟩) n1 n1) n1 (ints .u32 A) :: Own 30 1 (.slice (some ⟨x2, 0, none⟩) n2 n2) n2 (ints .u32 B) :: Blk b11 (.cells [Value.int .i64 (k + 1)].toArray 3 (0, 0)) :: Blk b7 (.cells [Value.int .i64 dn].toArray 3 (0, 0)) :: Blk b4 (.cells [Value.pointer (some ⟨tb, 0, none⟩)].toArray 40 (0, 0)) :: Blk b6 (.cells [Value.slice wa wn wc].toArray 39 (0, 0)) :: Blk b10 (.cells [Value.int .i64 (max (n1 : Int) n2)].toArray 3 (0, 0)) :: Blk b8 (.cells [Value.int .i64 0].toArray 3 (0, 0)) :: Blk b9 (.cells [Value.bool false].toArray 4 (0, 0)) :: Dfr r0 :: Blk bm (.cells [Value.pointer (some ⟨b1, 0, none⟩)].toArray 25 (0, 0)) :: Blk bo (.cells [Value.pointer (some ⟨b2, 0, none⟩)].toArray 25 (0, 0)) :: F) hRC0 (fun w hw => SPI.holds hw) ?_; exact ⟨_, rfl, true, rfl, fun _ => ⟨(k + 1, dn, A, B), ⟨⟨by simp only; omega, by simp only; omega, by simp only; omega, by simp only; omega⟩, ⟨hA, hB⟩, fun j j0 j1 => by simp only at j0; omega⟩, fun w hw => hw⟩, fun h => (by cases h)⟩))
    intro hbr
    have hbr := of_decide_eq_false hbr
    refine g_skip ?_
    refine g_inBlock ?_
    (first | (refine g_roundE (p := none) (F := Blk tb (.cells [Value.pointer (some ⟨b1, 0, none⟩), .pointer (some ⟨b2, 0, none⟩), .slice (some ⟨x1, 0, none⟩) n1 n1, .slice (some ⟨x2, 0, none⟩) n2 n2].toArray 42 (0, 0)) :: Blk b1 (.cells [Value.slice (some ⟨g1, 0, none⟩) n1 c1].toArray 77 (0, 0)) :: Own 30 1 (.slice (some ⟨g1, 0, none⟩) n1 c1) n1 (ints .u32 A2) :: Blk b2 (.cells [Value.slice (some ⟨g2, 0, none⟩) n2 c2].toArray 77 (0, 0)) :: Own 30 1 (.slice (some ⟨g2, 0, none⟩) n2 c2) n2 (ints .u32 B2) :: Own 30 1 (.slice (some ⟨x1, 0, none⟩) n1 n1) n1 (ints .u32 A2) :: Own 30 1 (.slice (some ⟨x2, 0, none⟩) n2 n2) n2 (ints .u32 B2) :: Blk b11 (.cells [Value.int .i64 (k + 1)].toArray 3 (0, 0)) :: Blk b7 (.cells [Value.int .i64 (dn + 1)].toArray 3 (0, 0)) :: Blk b4 (.cells [Value.pointer (some ⟨tb, 0, none⟩)].toArray 40 (0, 0)) :: Blk b6 (.cells [Value.slice (some ⟨b9w, q9, none⟩) wn wc].toArray 39 (0, 0)) :: Blk b10 (.cells [Value.int .i64 (max (n1 : Int) n2)].toArray 3 (0, 0)) :: Blk b8 (.cells [Value.int .i64 0].toArray 3 (0, 0)) :: Blk b9 (.cells [Value.bool false].toArray 4 (0, 0)) :: Dfr r0 :: Blk bm (.cells [Value.pointer (some ⟨b1, 0, none⟩)].toArray 25 (0, 0)) :: Blk bo (.cells [Value.pointer (some ⟨b2, 0, none⟩)].toArray 25 (0, 0)) :: F) hRC0 (fun w hw => SPI.holds hw) ?_; exact ⟨_, rfl, true, rfl, fun _ => ⟨(k + 1, (dn + 1), A2, B2), ⟨⟨by simp only; omega, by simp only; omega, by simp only; omega, by simp only; omega⟩, ⟨hA2, hB2⟩, fun j j0 j1 => by simp only at j0; omega⟩, fun w hw => hw⟩, fun h => (by cases h)⟩) | (refine g_roundE (p := none) (F := Blk tb (.cells [Value.pointer (some ⟨b1, 0, none⟩), .pointer (some ⟨b2, 0, none⟩), .slice (some ⟨x1, 0, none⟩) n1 n1, .slice (some ⟨x2, 0, none⟩) n2 n2].toArray 42 (0, 0)) :: Blk b1 (.cells [Value.slice (some ⟨g1, 0, none⟩) n1 c1].toArray 77 (0, 0)) :: Own 30 1 (.slice (some ⟨g1, 0, none⟩) n1 c1) n1 (ints .u32 A) :: Blk b2 (.cells [Value.slice (some ⟨g2, 0, none⟩) n2 c2].toArray 77 (0, 0)) :: Own 30 1 (.slice (some ⟨g2, 0, none⟩) n2 c2) n2 (ints .u32 B) :: Own 30 1 (.slice (some ⟨x1, 0, none⟩) n1 n1) n1 (ints .u32 A) :: Own 30 1 (.slice (some ⟨x2, 0, none⟩) n2 n2) n2 (ints .u32 B) :: Blk b11 (.cells [Value.int .i64 (k + 1)].toArray 3 (0, 0)) :: Blk b7 (.cells [Value.int .i64 dn].toArray 3 (0, 0)) :: Blk b4 (.cells [Value.pointer (some ⟨tb, 0, none⟩)].toArray 40 (0, 0)) :: Blk b6 (.cells [Value.slice wa wn wc].toArray 39 (0, 0)) :: Blk b10 (.cells [Value.int .i64 (max (n1 : Int) n2)].toArray 3 (0, 0)) :: Blk b8 (.cells [Value.int .i64 0].toArray 3 (0, 0)) :: Blk b9 (.cells [Value.bool false].toArray 4 (0, 0)) :: Dfr r0 :: Blk bm (.cells [Value.pointer (some ⟨b1, 0, none⟩)].toArray 25 (0, 0)) :: Blk bo (.cells [Value.pointer (some ⟨b2, 0, none⟩)].toArray 25 (0, 0)) :: F) hRC0 (fun w hw => SPI.holds hw) ?_; exact ⟨_, rfl, true, rfl, fun _ => ⟨(k + 1, dn, A, B), ⟨⟨by simp only; omega, by simp only; omega, by simp only; omega, by simp only; omega⟩, ⟨hA, hB⟩, fun j j0 j1 => by simp only at j0; omega⟩, fun w hw => hw⟩, fun h => (by cases h)⟩))
  obtain ⟨v9, F9, rfl, hR9, hF9⟩ := hG
  refine ⟨⟨_, rfl⟩, ?_⟩
  obtain ⟨⟨at_, dn, A, B⟩, ⟨⟨at0, at1, dn0, dn1⟩, ⟨hA, hB⟩, hE⟩, rfl⟩ := hR9.resolve_right (fun h => h)
  simp only at at0 at1 dn0 dn1 hA hB hE
  refine ⟨.ready, none, Blk tb (.cells [Value.pointer (some ⟨b1, 0, none⟩), .pointer (some ⟨b2, 0, none⟩), .slice (some ⟨x1, 0, none⟩) n1 n1, .slice (some ⟨x2, 0, none⟩) n2 n2].toArray 42 (0, 0)) :: Blk b1 (.cells [Value.slice (some ⟨g1, 0, none⟩) n1 c1].toArray 77 (0, 0)) :: Own 30 1 (.slice (some ⟨g1, 0, none⟩) n1 c1) n1 (ints .u32 A) :: Blk b2 (.cells [Value.slice (some ⟨g2, 0, none⟩) n2 c2].toArray 77 (0, 0)) :: Own 30 1 (.slice (some ⟨g2, 0, none⟩) n2 c2) n2 (ints .u32 B) :: Own 30 1 (.slice (some ⟨x1, 0, none⟩) n1 n1) n1 (ints .u32 A) :: Own 30 1 (.slice (some ⟨x2, 0, none⟩) n2 n2) n2 (ints .u32 B) :: Blk b11 (.cells [Value.int .i64 at_].toArray 3 (0, 0)) :: Blk b7 (.cells [Value.int .i64 dn].toArray 3 (0, 0)) :: Blk b4 (.cells [Value.pointer (some ⟨tb, 0, none⟩)].toArray 40 (0, 0)) :: Blk b6 (.cells [Value.slice wa wn wc].toArray 39 (0, 0)) :: Blk b10 (.cells [Value.int .i64 (max (n1 : Int) n2)].toArray 3 (0, 0)) :: Blk b8 (.cells [Value.int .i64 0].toArray 3 (0, 0)) :: Blk b9 (.cells [Value.bool false].toArray 4 (0, 0)) :: Dfr r0 :: Blk bm (.cells [Value.pointer (some ⟨b1, 0, none⟩)].toArray 25 (0, 0)) :: Blk bo (.cells [Value.pointer (some ⟨b2, 0, none⟩)].toArray 25 (0, 0)) :: F, (by intro h; cases h), fun w hw => SPI.holds (hF9 w hw), ?_⟩
  dsimp only [jumpK]
  refine g_inBlock ?_
  refine g_seq ?_
  refine gp_start mo (by kernel_rfl) (by kernel_rfl) ?_
  first | refine gp_quiet 0 rfl rfl rfl rfl rfl rfl (q_ld Try.isAgg3 rfl rfl) ?_ | refine gp_quiet 0 rfl rfl rfl rfl rfl rfl (q_ldw Try.isAgg3 rfl (by omega)) ?_
  refine gp_quiet 1 rfl rfl rfl rfl rfl rfl (q_ld Try.isAgg40 rfl rfl) ?_
  first | refine gp_quiet 2 rfl rfl rfl rfl rfl rfl (q_ld Try.isAgg3 rfl rfl) ?_ | refine gp_quiet 2 rfl rfl rfl rfl rfl rfl (q_ldw Try.isAgg3 rfl (by omega)) ?_
  first | refine gp_quiet 3 rfl rfl rfl rfl rfl rfl (q_ld Try.isAgg3 rfl rfl) ?_ | refine gp_quiet 3 rfl rfl rfl rfl rfl rfl (q_ldw Try.isAgg3 rfl (by omega)) ?_
  refine gp_effa 4 [1, 2, 3] [0] rfl rfl rfl rfl rfl rfl rfl (does_call Try.call33 rfl (alike_ok _ _ tb x1 n1 x2 n2 A B (tw_rd (b1 := b1) (b2 := b2) (by first | exact mem_getO 0 rfl | exact mem_getO 1 rfl | exact mem_getO 2 rfl | exact mem_getO 3 rfl | exact mem_getO 4 rfl | exact mem_getO 5 rfl | exact mem_getO 6 rfl | exact mem_getO 7 rfl | exact mem_getO 8 rfl | exact mem_getO 9 rfl | exact mem_getO 10 rfl | exact mem_getO 11 rfl | exact mem_getO 12 rfl | exact mem_getO 13 rfl) (by first | exact mem_getO 0 rfl | exact mem_getO 1 rfl | exact mem_getO 2 rfl | exact mem_getO 3 rfl | exact mem_getO 4 rfl | exact mem_getO 5 rfl | exact mem_getO 6 rfl | exact mem_getO 7 rfl | exact mem_getO 8 rfl | exact mem_getO 9 rfl | exact mem_getO 10 rfl | exact mem_getO 11 rfl | exact mem_getO 12 rfl | exact mem_getO 13 rfl) (by first | exact mem_getO 0 rfl | exact mem_getO 1 rfl | exact mem_getO 2 rfl | exact mem_getO 3 rfl | exact mem_getO 4 rfl | exact mem_getO 5 rfl | exact mem_getO 6 rfl | exact mem_getO 7 rfl | exact mem_getO 8 rfl | exact mem_getO 9 rfl | exact mem_getO 10 rfl | exact mem_getO 11 rfl | exact mem_getO 12 rfl | exact mem_getO 13 rfl)) hA hB hn1 hn2 at_ (max (n1 : Int) n2) at0 (by omega) (by omega) hE)) ?_
  rintro _ _ ⟨rfl, rfl⟩
  refine ⟨?_, ?_⟩
  · first | refine .cons rfl rfl rfl rfl rfl (q_ld Try.isAgg3 rfl rfl) ?_ | refine .cons rfl rfl rfl rfl rfl (q_ldw Try.isAgg3 rfl (by omega)) ?_
    exact .nil
  first | refine gp_effa 5 [0] [] rfl rfl rfl rfl rfl rfl rfl (does_st Try.sizeOf3 rfl rfl rfl rfl) ?_ | refine gp_effa 5 [0] [] rfl rfl rfl rfl rfl rfl rfl (does_stw Try.sizeOf3 rfl rfl (by omega)) ?_
  rintro _ _ ⟨rfl, rfl⟩
  refine ⟨?_, ?_⟩
  · exact .nil
  refine gp_eff 6 rfl rfl rfl rfl rfl rfl (does_st Try.sizeOf4 rfl rfl rfl rfl) ?_
  rintro _ _ ⟨rfl, rfl⟩
  refine ⟨?_, ?_⟩
  · exact .nil
  refine gp_end rfl rfl ?_
  refine g_heap (F' := Dfr r0 :: Blk tb (.cells [Value.pointer (some ⟨b1, 0, none⟩), .pointer (some ⟨b2, 0, none⟩), .slice (some ⟨x1, 0, none⟩) n1 n1, .slice (some ⟨x2, 0, none⟩) n2 n2].toArray 42 (0, 0)) :: Blk b1 (.cells [Value.slice (some ⟨g1, 0, none⟩) n1 c1].toArray 77 (0, 0)) :: Own 30 1 (.slice (some ⟨g1, 0, none⟩) n1 c1) n1 (ints .u32 A) :: Blk b2 (.cells [Value.slice (some ⟨g2, 0, none⟩) n2 c2].toArray 77 (0, 0)) :: Own 30 1 (.slice (some ⟨g2, 0, none⟩) n2 c2) n2 (ints .u32 B) :: Own 30 1 (.slice (some ⟨x1, 0, none⟩) n1 n1) n1 (ints .u32 A) :: Own 30 1 (.slice (some ⟨x2, 0, none⟩) n2 n2) n2 (ints .u32 B) :: Blk b11 (.cells [Value.int .i64 at_].toArray 3 (0, 0)) :: Blk b7 (.cells [Value.int .i64 dn].toArray 3 (0, 0)) :: Blk b4 (.cells [Value.pointer (some ⟨tb, 0, none⟩)].toArray 40 (0, 0)) :: Blk b6 (.cells [Value.slice wa wn wc].toArray 39 (0, 0)) :: Blk b10 (.cells [Value.int .i64 (max (n1 : Int) n2)].toArray 3 (0, 0)) :: Blk b8 (.cells [Value.int .i64 dn].toArray 3 (0, 0)) :: Blk b9 (.cells [Value.bool true].toArray 4 (0, 0)) :: Blk bm (.cells [Value.pointer (some ⟨b1, 0, none⟩)].toArray 25 (0, 0)) :: Blk bo (.cells [Value.pointer (some ⟨b2, 0, none⟩)].toArray 25 (0, 0)) :: F) (fun w hw => SPI.holds hw) ?_
  refine g_ret_m (F := Blk tb (.cells [Value.pointer (some ⟨b1, 0, none⟩), .pointer (some ⟨b2, 0, none⟩), .slice (some ⟨x1, 0, none⟩) n1 n1, .slice (some ⟨x2, 0, none⟩) n2 n2].toArray 42 (0, 0)) :: Blk b1 (.cells [Value.slice (some ⟨g1, 0, none⟩) n1 c1].toArray 77 (0, 0)) :: Own 30 1 (.slice (some ⟨g1, 0, none⟩) n1 c1) n1 (ints .u32 A) :: Blk b2 (.cells [Value.slice (some ⟨g2, 0, none⟩) n2 c2].toArray 77 (0, 0)) :: Own 30 1 (.slice (some ⟨g2, 0, none⟩) n2 c2) n2 (ints .u32 B) :: Own 30 1 (.slice (some ⟨x1, 0, none⟩) n1 n1) n1 (ints .u32 A) :: Own 30 1 (.slice (some ⟨x2, 0, none⟩) n2 n2) n2 (ints .u32 B) :: Blk b11 (.cells [Value.int .i64 at_].toArray 3 (0, 0)) :: Blk b7 (.cells [Value.int .i64 dn].toArray 3 (0, 0)) :: Blk b4 (.cells [Value.pointer (some ⟨tb, 0, none⟩)].toArray 40 (0, 0)) :: Blk b6 (.cells [Value.slice wa wn wc].toArray 39 (0, 0)) :: Blk b10 (.cells [Value.int .i64 (max (n1 : Int) n2)].toArray 3 (0, 0)) :: Blk b8 (.cells [Value.int .i64 dn].toArray 3 (0, 0)) :: Blk b9 (.cells [Value.bool true].toArray 4 (0, 0)) :: Blk bm (.cells [Value.pointer (some ⟨b1, 0, none⟩)].toArray 25 (0, 0)) :: Blk bo (.cells [Value.pointer (some ⟨b2, 0, none⟩)].toArray 25 (0, 0)) :: F) [r0] rfl Try.func16 (fun w hw => hw) rfl (.ci rfl Try.isAgg3 rfl (.ci rfl Try.isAgg4 rfl .nil)) ?_
  exact Gives.mki ⟨dn, A, B, rfl, dn0, dn1, hA, hB, rfl⟩
end Go.Proofs.Ytlgcghhjgcdigaa.Fw
