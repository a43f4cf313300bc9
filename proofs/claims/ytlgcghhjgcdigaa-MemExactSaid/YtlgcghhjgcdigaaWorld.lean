import Derived.Test.YtlgcghhjgcdigaaKeep
import Derived.Test.YtlgcghhjgcdigaaIterX
namespace Go.Proofs.Ytlgcghhjgcdigaa.Fw
open Go Go.Proofs
set_option linter.unusedVariables false
set_option linter.unusedSimpArgs false
set_option maxRecDepth 10000
theorem fa_74_0 (a : Addr) (w : World) : (Instr.fieldAt 74 (.pointer (some a)) 0).run Try.prog w = .ok (.pointer (some (a.add 0))) w := by
  simp [Instr.fieldAt, Try.runUnderlying74, Instr.sureAddr, fieldPlace, Try.sizeOf68, Sem.run_bind, Sem.run_pure]
theorem bd_94_0_1 (a0_0 : Option Addr) (a1_0 : Option Addr) (w : World) : (Instr.build 94 #[(0, .pointer a0_0), (1, .pointer a1_0)]).run Try.prog w = .ok (.agg #[.pointer a0_0, .pointer a1_0]) w := by kernel_rfl
/-- A memory and the document's, by their blocks; an iterator that is kept; all that there is. -/
structure MP where
  x : Nat
  g : Nat
  c : Nat
  y : Nat
  h : Nat
  d : Nat
  n : Nat
  W : List Int
def mpR (m : MP) : List Value := [.pointer (some ⟨m.x, 0, none⟩), .pointer (some ⟨m.y, 0, none⟩)]
def mpA (m : MP) : Atom := Quad (Blk m.x (.cells [Value.slice (some ⟨m.g, 0, none⟩) m.n m.c].toArray 77 (0, 0))) (Own 30 1 (.slice (some ⟨m.g, 0, none⟩) m.n m.c) m.n (ints .u32 m.W)) (Blk m.y (.cells [Value.slice (some ⟨m.h, 0, none⟩) m.n m.d].toArray 104 (0, 0))) (Own 30 1 (.slice (some ⟨m.h, 0, none⟩) m.n m.d) m.n (ints .u32 m.W))
structure MOk (m : MP) : Prop where
  len : m.W.length = m.n
  hc : m.n ≤ m.c
  hd : m.n ≤ m.d
  pos : 0 < m.n
  le : m.n ≤ 16384
  u : W32s m.W
structure KI where
  bm : Nat
  bo : Nat
  a : Nat
  b : Nat
  xa : Nat
  xb : Nat
def kiR (k : KI) : List Value := [.func (.func 30) #[] [.pointer (some ⟨k.bm, 0, none⟩), .pointer (some ⟨k.bo, 0, none⟩)].toArray, .int .i64 (k.a : Int), .int .i64 (k.b : Int)]
def kiA (k : KI) : Atom := Star (Blk k.bm (.cells [Value.pointer (some ⟨k.xa, 0, none⟩)].toArray 25 (0, 0))) (Blk k.bo (.cells [Value.pointer (some ⟨k.xb, 0, none⟩)].toArray 25 (0, 0)))
structure WS where
  N : Nat
  M : Nat → MP
  la : Option Addr
  lc : Nat
  J : Nat
  T : Nat → KI
  ia : Option Addr
  ic : Nat
  K : Nat
  B : Nat → BK
  ka : Option Addr
  kc : Nat
structure SOk (S : WS) : Prop where
  hN : S.N ≤ 12
  hM : ∀ j, j < S.N → MOk (S.M j)
  hla : S.N = 0 ∨ ∃ g, S.la = some ⟨g, 0, none⟩
  hT : ∀ j, j < S.J → (S.T j).a < S.N ∧ (S.T j).b < S.N ∧ (S.T j).xa = (S.M (S.T j).a).x ∧ (S.T j).xb = (S.M (S.T j).b).x
  hia : S.J = 0 ∨ ∃ g, S.ia = some ⟨g, 0, none⟩
  hB : ∀ j, j < S.K → BkOk (S.B j)
  hka : S.K = 0 ∨ ∃ g, S.ka = some ⟨g, 0, none⟩
theorem mpR_len (M : Nat → MP) (N : Nat) : ∀ q, q < N → (mpR (M q)).length = 2 := fun q _ => rfl
theorem kiR_len (T : Nat → KI) (N : Nat) : ∀ q, q < N → (kiR (T q)).length = 3 := fun q _ => rfl
theorem SOk.new {S : WS} (h : SOk S) (hN : S.N < 12) {m : MP} (hm : MOk m) (g c : Nat) : SOk ⟨S.N + 1, upF S.M S.N m, some ⟨g, 0, none⟩, c, S.J, S.T, S.ia, S.ic, S.K, S.B, S.ka, S.kc⟩ where
  hN := by simp only; omega
  hM j hj := by
    simp only at hj ⊢
    by_cases e : j = S.N
    · subst e; rw [upF_at]; exact hm
    · rw [upF_ne e]; exact h.hM j (by omega)
  hla := .inr ⟨g, rfl⟩
  hT j hj := by
    obtain ⟨h1, h2, h3, h4⟩ := h.hT j hj
    simp only
    rw [upF_ne (by omega), upF_ne (by omega)]
    exact ⟨by omega, by omega, h3, h4⟩
  hia := h.hia
  hB := h.hB
  hka := h.hka
theorem SOk.put {S : WS} (h : SOk S) {i : Nat} {m : MP} (hm : MOk m) (hx : m.x = (S.M i).x) : SOk ⟨S.N, upF S.M i m, S.la, S.lc, S.J, S.T, S.ia, S.ic, S.K, S.B, S.ka, S.kc⟩ where
  hN := h.hN
  hM j hj := by
    simp only at hj ⊢
    by_cases e : j = i
    · subst e; rw [upF_at]; exact hm
    · rw [upF_ne e]; exact h.hM j (by omega)
  hla := h.hla
  hT j hj := by
    obtain ⟨h1, h2, h3, h4⟩ := h.hT j hj
    have hup : ∀ q, (upF S.M i m q).x = (S.M q).x := fun q => by
      by_cases e : q = i
      · subst e; rw [upF_at]; exact hx
      · rw [upF_ne e]
    exact ⟨h1, h2, by simp only [hup]; exact h3, by simp only [hup]; exact h4⟩
  hia := h.hia
  hB := h.hB
  hka := h.hka
theorem SOk.it {S : WS} (h : SOk S) {k : KI} (ha : k.a < S.N) (hb : k.b < S.N) (hxa : k.xa = (S.M k.a).x) (hxb : k.xb = (S.M k.b).x) (g c : Nat) : SOk ⟨S.N, S.M, S.la, S.lc, S.J + 1, upF S.T S.J k, some ⟨g, 0, none⟩, c, S.K, S.B, S.ka, S.kc⟩ where
  hN := h.hN
  hM := h.hM
  hla := h.hla
  hT j hj := by
    simp only at hj ⊢
    by_cases e : j = S.J
    · subst e; rw [upF_at]; exact ⟨ha, hb, hxa, hxb⟩
    · rw [upF_ne e]; exact h.hT j (by omega)
  hia := .inr ⟨g, rfl⟩
  hB := h.hB
  hka := h.hka
theorem SOk.bk {S : WS} (h : SOk S) {K : Nat} {B : Nat → BK} (hB : ∀ j, j < K → BkOk (B j)) {ka : Option Addr} (hka : ∃ g, ka = some ⟨g, 0, none⟩) (kc : Nat) : SOk ⟨S.N, S.M, S.la, S.lc, S.J, S.T, S.ia, S.ic, K, B, ka, kc⟩ := ⟨h.hN, h.hM, h.hla, h.hT, h.hia, hB, .inr hka⟩
theorem mp_rows {M : Nat → MP} {N i : Nat} {m : MP} (h : mpR m = mpR (M i)) : rowsN N (fun j => mpR (M j)) = rowsN N (fun j => mpR (upF M i m j)) := rowsN_congr fun k hk => by
  by_cases e : k = i
  · subst e; rw [upF_at, h]
  · rw [upF_ne e]
theorem mp_rd {w0 : World} {F : List Atom} {N j : Nat} {M : Nat → MP} (hm : BigF N (fun j => mpA (M j)) ∈ F) (hj : j < N) : MemRd w0 F (M j).x (M j).g (M j).n (M j).c (M j).W ∧ MemRd w0 F (M j).y (M j).h (M j).n (M j).d (M j).W :=
  ⟨⟨fun w hw => blk_cell (c := [Value.slice (some ⟨(M j).g, 0, none⟩) (M j).n (M j).c]) (big_ok hm hj hw).1 rfl, fun w hw => own_row (big_ok hm hj hw).2.1.1⟩,
   ⟨fun w hw => blk_cell (c := [Value.slice (some ⟨(M j).h, 0, none⟩) (M j).n (M j).d]) (big_ok hm hj hw).2.1.2.1.1 rfl, fun w hw => own_row (big_ok hm hj hw).2.1.2.1.2.1⟩⟩
theorem ki_rd {w0 : World} {F : List Atom} {N j : Nat} {T : Nat → KI} (hm : BigF N (fun j => kiA (T j)) ∈ F) (hj : j < N) : CellAt w0 F (T j).bm 0 (.pointer (some ⟨(T j).xa, 0, none⟩)) ∧ CellAt w0 F (T j).bo 0 (.pointer (some ⟨(T j).xb, 0, none⟩)) :=
  ⟨fun w hw => blk_cell (c := [Value.pointer (some ⟨(T j).xa, 0, none⟩)]) (big_ok hm hj hw).1 rfl, fun w hw => blk_cell (c := [Value.pointer (some ⟨(T j).xb, 0, none⟩)]) (big_ok hm hj hw).2.1 rfl⟩
set_option maxHeartbeats 4000000 in
theorem made_ok (w0 : World) (F : List Atom) (wb : Nat) (S : WS) (hS : SOk S) (x g c y h d n : Nat) (V : List Int) (hm : MOk ⟨x, g, c, y, h, d, n, V⟩) :
    CallK Try.prog 40 [.pointer (some ⟨wb, 0, none⟩), .pointer (some ⟨x, 0, none⟩), .int .i64 0, .pointer (some ⟨y, 0, none⟩), .int .i64 0] w0 (Blk x (.cells [Value.slice (some ⟨g, 0, none⟩) n c].toArray 77 (0, 0)) :: Own 30 1 (.slice (some ⟨g, 0, none⟩) n c) n (ints .u32 V) :: Blk y (.cells [Value.slice (some ⟨h, 0, none⟩) n d].toArray 104 (0, 0)) :: Own 30 1 (.slice (some ⟨h, 0, none⟩) n d) n (ints .u32 V) :: Blk wb (.cells [Value.slice S.la S.N S.lc, .slice S.ia S.J S.ic, .slice S.ka S.K S.kc].toArray 74 (0, 0)) :: Own 94 2 (.slice S.la S.N S.lc) S.N (rowsN S.N (fun j => mpR (S.M j))) :: BigF S.N (fun j => mpA (S.M j)) :: Own 102 3 (.slice S.ia S.J S.ic) S.J (rowsN S.J (fun j => kiR (S.T j))) :: BigF S.J (fun j => kiA (S.T j)) :: Own 107 4 (.slice S.ka S.K S.kc) S.K (rowsN S.K (fun j => bkR (S.B j))) :: BigF S.K (fun j => bkA (S.B j)) :: F) (Gives w0 fun v F2 => ∃ S' : WS, v = .bool true ∧ SOk S' ∧ S.N ≤ S'.N ∧ (S.N < 12 → S'.N = S.N + 1) ∧ S'.J ≤ S.J + 1 ∧ S'.K ≤ S.K + 2 ∧ F2 = Blk wb (.cells [Value.slice S'.la S'.N S'.lc, .slice S'.ia S'.J S'.ic, .slice S'.ka S'.K S'.kc].toArray 74 (0, 0)) :: Own 94 2 (.slice S'.la S'.N S'.lc) S'.N (rowsN S'.N (fun j => mpR (S'.M j))) :: BigF S'.N (fun j => mpA (S'.M j)) :: Own 102 3 (.slice S'.ia S'.J S'.ic) S'.J (rowsN S'.J (fun j => kiR (S'.T j))) :: BigF S'.J (fun j => kiA (S'.T j)) :: Own 107 4 (.slice S'.ka S'.K S'.kc) S'.K (rowsN S'.K (fun j => bkR (S'.B j))) :: BigF S'.K (fun j => bkA (S'.B j)) :: F) := by
  have hN := hS.hN
  refine c_enter Try.func40 rfl rfl rfl ?_
  refine g_seq ?_
  refine g_region ?_
  refine l_assign rfl rfl ?_
  refine l_nil ?_
  refine g_seq ?_
  refine g_seq ?_
  refine g_region ?_
  refine l_move rfl rfl ?_
  refine l_move rfl rfl ?_
  refine l_neq rfl rfl rfl ?_
  refine l_move rfl rfl ?_
  refine l_split 14 rfl ?_ ?_
  · intro hbr
    have hbr := of_decide_eq_true hbr
    (exfalso; first | omega | (simp at hbr; done))
  intro hbr
  have hbr := of_decide_eq_false hbr
  refine l_guard_yes rfl rfl ?_
  refine l_move rfl rfl ?_
  refine l_guard_yes rfl rfl ?_
  refine l_eqpn rfl Try.underlying25 rfl rfl ?_
  refine l_guard_yes rfl rfl ?_
  refine l_move rfl rfl ?_
  refine l_guard_yes rfl rfl ?_
  refine l_eqpn rfl Try.underlying87 rfl rfl ?_
  refine l_guard_yes rfl rfl ?_
  refine l_neqb rfl Try.underlying4 rfl rfl ?_
  refine l_pick_f rfl rfl rfl ?_
  refine l_nil ?_
  refine g_cond rfl ?_ ?_
  · intro hbr
    first | (exfalso; simp at hbr; done) | (exfalso; simp at hbr; omega) | (exfalso; first | omega | (simp at hbr; done))
  intro hbr
  have hb20 := hbr
  refine g_skip ?_
  refine g_seq ?_
  refine g_seq ?_
  refine g_region ?_
  refine l_move rfl rfl ?_
  refine l_nepn rfl Try.underlying87 rfl rfl ?_
  refine l_move rfl rfl ?_
  refine l_guard_yes rfl rfl ?_
  refine l_move rfl rfl ?_
  refine l_guard_yes rfl rfl ?_
  refine l_nilCheck rfl rfl ?_
  refine l_guard_yes rfl rfl ?_
  refine l_fieldAddr rfl fa_74_0 rfl ?_
  refine l_guard_yes rfl rfl ?_
  refine l_ld rfl Try.isAgg68 rfl rfl ?_
  refine l_guard_yes rfl rfl ?_
  refine l_len rfl Try.underlying68 rfl ?_
  refine l_guard_yes rfl rfl ?_
  refine l_lss rfl rfl rfl ?_
  refine l_pick_t rfl rfl rfl ?_
  refine l_nil ?_
  refine g_cond rfl ?_ ?_
  · intro hbr
    have hbr := of_decide_eq_true hbr
    refine g_region ?_
    refine l_move rfl rfl ?_
    refine l_move rfl rfl ?_
    refine l_nilCheck rfl rfl ?_
    refine l_fieldAddr rfl fa_74_0 rfl ?_
    refine l_ld rfl Try.isAgg68 rfl rfl ?_
    refine l_move rfl rfl ?_
    refine l_move rfl rfl ?_
    refine l_build rfl rfl (fun w => bd_94_0_1 _ _ w) ?_
    refine l_buildSlice rfl Try.underlying68 Try.sizeOf94 Try.zeroValue94 rfl rfl rfl rfl rfl rfl ?_; intro b39
    refine l_fronto b39 ?_
    refine l_frontv (.slice S.la S.N S.lc) ?_
    refine l_append 0 (sz := 2) (by_ := 16) (m2 := 1) (news := mpR ⟨x, g, c, y, h, d, n, V⟩) rfl Try.underlying68 Try.type94 rfl rfl rfl rfl rfl rfl rfl rfl ⟨rfl, .inl ⟨_, _, _, rfl, .own (mem_getO 1 rfl)⟩⟩ rfl (by omega) (by simp only [maxLen]; omega) (fun _ => rfl) ?_; intro v40 hv40
    rw [rowsN_push (r := mpR) (K := S.N) (B := S.M) (x := ⟨x, g, c, y, h, d, n, V⟩)]
    refine l_fact (own_slice (mem_getO 0 rfl)) ?_
    rintro ⟨a40, c40, rfl, ha40⟩
    obtain ⟨g40, rfl⟩ := ha40.resolve_left (by omega)
    refine l_nilCheck rfl rfl ?_
    refine l_fieldAddr rfl fa_74_0 rfl ?_
    refine l_st Try.sizeOf68 rfl rfl rfl rfl ?_
    refine l_nil ?_
    refine g_seq ?_
    refine g_region ?_
    refine l_assign rfl rfl ?_
    refine l_nil ?_
    refine g_take (BigF S.N (fun j => mpA (S.M j))) ?_
    refine g_take (Own 30 1 (.slice (some ⟨h, 0, none⟩) n d) n (ints .u32 V)) ?_
    refine g_take (Blk y (.cells [Value.slice (some ⟨h, 0, none⟩) n d].toArray 104 (0, 0))) ?_
    refine g_take (Own 30 1 (.slice (some ⟨g, 0, none⟩) n c) n (ints .u32 V)) ?_
    refine g_take (Blk x (.cells [Value.slice (some ⟨g, 0, none⟩) n c].toArray 77 (0, 0))) ?_
    refine g_unquad ?_
    refine g_snocb (fun j => mpA (upF S.M S.N ⟨x, g, c, y, h, d, n, V⟩ j)) (by simp only [upF_at]; rfl) (fun k hk => by simp only [upF_ne (show k ≠ S.N by omega)]) ?_
    refine g_ret Try.func40 rfl (.tmp rfl .nil) ?_
    exact Gives.mki ⟨⟨S.N + 1, upF S.M S.N ⟨x, g, c, y, h, d, n, V⟩, some ⟨g40, 0, none⟩, c40, S.J, S.T, S.ia, S.ic, S.K, S.B, S.ka, S.kc⟩, rfl, hS.new (by omega) hm g40 c40, by simp only; omega, fun _ => rfl, by simp only; omega, by simp only; omega, rfl⟩
  intro hbr
  have hbr := of_decide_eq_false hbr
  refine g_skip ?_
  refine g_seq ?_
  refine g_region ?_
  refine l_assign rfl rfl ?_
  refine l_nil ?_
  skip
  refine g_ret Try.func40 rfl (.tmp rfl .nil) ?_
  exact Gives.mki ⟨S, rfl, hS, Nat.le_refl _, fun h => by omega, by omega, by omega, rfl⟩
theorem made_no (w0 : World) (F : List Atom) (wb : Nat) (S : WS) (hS : SOk S) (e : Int) :
    CallK Try.prog 40 [.pointer (some ⟨wb, 0, none⟩), .pointer none, .int .i64 e, .pointer none, .int .i64 e] w0 (Blk wb (.cells [Value.slice S.la S.N S.lc, .slice S.ia S.J S.ic, .slice S.ka S.K S.kc].toArray 74 (0, 0)) :: Own 94 2 (.slice S.la S.N S.lc) S.N (rowsN S.N (fun j => mpR (S.M j))) :: BigF S.N (fun j => mpA (S.M j)) :: Own 102 3 (.slice S.ia S.J S.ic) S.J (rowsN S.J (fun j => kiR (S.T j))) :: BigF S.J (fun j => kiA (S.T j)) :: Own 107 4 (.slice S.ka S.K S.kc) S.K (rowsN S.K (fun j => bkR (S.B j))) :: BigF S.K (fun j => bkA (S.B j)) :: F) (Gives w0 fun v F2 => ∃ S' : WS, v = .bool true ∧ SOk S' ∧ S.N ≤ S'.N ∧ S'.J ≤ S.J + 1 ∧ S'.K ≤ S.K + 2 ∧ F2 = Blk wb (.cells [Value.slice S'.la S'.N S'.lc, .slice S'.ia S'.J S'.ic, .slice S'.ka S'.K S'.kc].toArray 74 (0, 0)) :: Own 94 2 (.slice S'.la S'.N S'.lc) S'.N (rowsN S'.N (fun j => mpR (S'.M j))) :: BigF S'.N (fun j => mpA (S'.M j)) :: Own 102 3 (.slice S'.ia S'.J S'.ic) S'.J (rowsN S'.J (fun j => kiR (S'.T j))) :: BigF S'.J (fun j => kiA (S'.T j)) :: Own 107 4 (.slice S'.ka S'.K S'.kc) S'.K (rowsN S'.K (fun j => bkR (S'.B j))) :: BigF S'.K (fun j => bkA (S'.B j)) :: F) := by
  refine c_enter Try.func40 rfl rfl rfl ?_
  refine g_seq ?_
  refine g_region ?_
  refine l_assign rfl rfl ?_
  refine l_nil ?_
  refine g_seq ?_
  refine g_seq ?_
  refine g_region ?_
  refine l_move rfl rfl ?_
  refine l_move rfl rfl ?_
  refine l_neq rfl rfl rfl ?_
  refine l_move rfl rfl ?_
  refine l_split 14 rfl ?_ ?_
  · intro hbr
    have hbr := of_decide_eq_true hbr
    (exfalso; first | omega | (simp at hbr; done))
  intro hbr
  have hbr := of_decide_eq_false hbr
  refine l_guard_yes rfl rfl ?_
  refine l_move rfl rfl ?_
  refine l_guard_yes rfl rfl ?_
  refine l_eqpn rfl Try.underlying25 rfl rfl ?_
  refine l_guard_yes rfl rfl ?_
  refine l_move rfl rfl ?_
  refine l_guard_yes rfl rfl ?_
  refine l_eqpn rfl Try.underlying87 rfl rfl ?_
  refine l_guard_yes rfl rfl ?_
  refine l_neqb rfl Try.underlying4 rfl rfl ?_
  refine l_pick_f rfl rfl rfl ?_
  refine l_nil ?_
  refine g_cond rfl ?_ ?_
  · intro hbr
    first | (exfalso; simp at hbr; done) | (exfalso; simp at hbr; omega) | (exfalso; first | omega | (simp at hbr; done))
  intro hbr
  have hb20 := hbr
  refine g_skip ?_
  refine g_seq ?_
  refine g_seq ?_
  refine g_region ?_
  refine l_move rfl rfl ?_
  refine l_nepn rfl Try.underlying87 rfl rfl ?_
  refine l_move rfl rfl ?_
  refine l_guard_no rfl rfl rfl ?_
  refine l_guard_no rfl rfl rfl ?_
  refine l_guard_no rfl rfl rfl ?_
  refine l_guard_no rfl rfl rfl ?_
  refine l_guard_no rfl rfl rfl ?_
  refine l_guard_no rfl rfl rfl ?_
  refine l_pick_f rfl rfl rfl ?_
  refine l_nil ?_
  first | refine g_cond_f rfl ?_ | refine g_cond_f (congrArg (fun b => some (Value.bool b)) (decide_eq_false hbr)) ?_
  refine g_skip ?_
  refine g_seq ?_
  refine g_region ?_
  refine l_assign rfl rfl ?_
  refine l_nil ?_
  refine g_ret Try.func40 rfl (.tmp rfl .nil) ?_
  exact Gives.mki ⟨S, rfl, hS, Nat.le_refl _, by omega, by omega, rfl⟩
end Go.Proofs.Ytlgcghhjgcdigaa.Fw
