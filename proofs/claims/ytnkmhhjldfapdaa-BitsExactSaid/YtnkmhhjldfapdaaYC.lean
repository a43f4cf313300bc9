import Derived.Test.YtnkmhhjldfapdaaYA
namespace Go.Proofs.Ytnkmhhjldfapdaa.Fw
open Go Go.Proofs
set_option linter.unusedVariables false
set_option linter.unusedSimpArgs false
set_option maxRecDepth 10000
theorem fa_56_0 (a : Addr) (w : World) : (Instr.fieldAt 56 (.pointer (some a)) 0).run Try.prog w = .ok (.pointer (some (a.add 0))) w := by
  simp [Instr.fieldAt, Try.runUnderlying56, Instr.sureAddr, fieldPlace, Try.sizeOf3, Sem.run_bind, Sem.run_pure]
theorem fa_56_4 (a : Addr) (w : World) : (Instr.fieldAt 56 (.pointer (some a)) 4).run Try.prog w = .ok (.pointer (some (a.add 4))) w := by
  simp [Instr.fieldAt, Try.runUnderlying56, Instr.sureAddr, fieldPlace, Try.sizeOf23, Sem.run_bind, Sem.run_pure]
theorem fa_56_2 (a : Addr) (w : World) : (Instr.fieldAt 56 (.pointer (some a)) 2).run Try.prog w = .ok (.pointer (some (a.add 2))) w := by
  simp [Instr.fieldAt, Try.runUnderlying56, Instr.sureAddr, fieldPlace, Try.sizeOf3, Sem.run_bind, Sem.run_pure]
theorem fa_56_3 (a : Addr) (w : World) : (Instr.fieldAt 56 (.pointer (some a)) 3).run Try.prog w = .ok (.pointer (some (a.add 3))) w := by
  simp [Instr.fieldAt, Try.runUnderlying56, Instr.sureAddr, fieldPlace, Try.sizeOf3, Sem.run_bind, Sem.run_pure]
theorem fa_56_5 (a : Addr) (w : World) : (Instr.fieldAt 56 (.pointer (some a)) 5).run Try.prog w = .ok (.pointer (some (a.add 5))) w := by
  simp [Instr.fieldAt, Try.runUnderlying56, Instr.sureAddr, fieldPlace, Try.sizeOf23, Sem.run_bind, Sem.run_pure]
theorem fa_56_1 (a : Addr) (w : World) : (Instr.fieldAt 56 (.pointer (some a)) 1).run Try.prog w = .ok (.pointer (some (a.add 1))) w := by
  simp [Instr.fieldAt, Try.runUnderlying56, Instr.sureAddr, fieldPlace, Try.sizeOf3, Sem.run_bind, Sem.run_pure]
theorem fa_51_0 (a : Addr) (w : World) : (Instr.fieldAt 51 (.pointer (some a)) 0).run Try.prog w = .ok (.pointer (some (a.add 0))) w := by
  simp [Instr.fieldAt, Try.runUnderlying51, Instr.sureAddr, fieldPlace, Try.sizeOf42, Sem.run_bind, Sem.run_pure]
theorem fa_51_1 (a : Addr) (w : World) : (Instr.fieldAt 51 (.pointer (some a)) 1).run Try.prog w = .ok (.pointer (some (a.add 1))) w := by
  simp [Instr.fieldAt, Try.runUnderlying51, Instr.sureAddr, fieldPlace, Try.sizeOf43, Sem.run_bind, Sem.run_pure]
theorem fa_56_6 (a : Addr) (w : World) : (Instr.fieldAt 56 (.pointer (some a)) 6).run Try.prog w = .ok (.pointer (some (a.add 6))) w := by
  simp [Instr.fieldAt, Try.runUnderlying56, Instr.sureAddr, fieldPlace, Try.sizeOf53, Sem.run_bind, Sem.run_pure]
theorem fa_56_9 (a : Addr) (w : World) : (Instr.fieldAt 56 (.pointer (some a)) 9).run Try.prog w = .ok (.pointer (some (a.add 9))) w := by
  simp [Instr.fieldAt, Try.runUnderlying56, Instr.sureAddr, fieldPlace, Try.sizeOf9, Sem.run_bind, Sem.run_pure]
theorem fa_51_4 (a : Addr) (w : World) : (Instr.fieldAt 51 (.pointer (some a)) 4).run Try.prog w = .ok (.pointer (some (a.add 4))) w := by
  simp [Instr.fieldAt, Try.runUnderlying51, Instr.sureAddr, fieldPlace, Try.sizeOf49, Sem.run_bind, Sem.run_pure]
theorem fa_51_2 (a : Addr) (w : World) : (Instr.fieldAt 51 (.pointer (some a)) 2).run Try.prog w = .ok (.pointer (some (a.add 2))) w := by
  simp [Instr.fieldAt, Try.runUnderlying51, Instr.sureAddr, fieldPlace, Try.sizeOf44, Sem.run_bind, Sem.run_pure]
theorem fa_51_3 (a : Addr) (w : World) : (Instr.fieldAt 51 (.pointer (some a)) 3).run Try.prog w = .ok (.pointer (some (a.add 3))) w := by
  simp [Instr.fieldAt, Try.runUnderlying51, Instr.sureAddr, fieldPlace, Try.sizeOf45, Sem.run_bind, Sem.run_pure]
/-- A writer and the document's; a reader and the document's; all that there is. -/
structure WR where
  bw : Nat
  br : Nat
  a : Option Addr
  c : Nat
  bx : Nat
  a2 : Option Addr
  c2 : Nat
  n : Nat
  B : List Int
structure RR where
  bq : Nat
  bs : Nat
  g : Nat
  by_ : Nat
  a2 : Option Addr
  c2 : Nat
  n : Nat
  B : List Int
  p : Int
  q : Int
def wrA (w : WR) : Atom := Star (Quad (Blk w.bw (.cells [Value.pointer (some ⟨w.br, 0, none⟩)].toArray 111 (0, 0))) (Blk w.br (.cells [Value.slice w.a w.n w.c, .int .i64 0].toArray 109 (0, 0))) (Own 5 1 (.slice w.a w.n w.c) w.n (ints .u8 w.B)) (Blk w.bx (.cells [Value.slice w.a2 w.n w.c2].toArray 90 (0, 0)))) (Own 5 1 (.slice w.a2 w.n w.c2) w.n (ints .u8 w.B))
def rdA (r : RR) : Atom := Star (Quad (Blk r.bq (.cells [Value.pointer (some ⟨r.bs, 0, none⟩), .int .i64 r.q].toArray 113 (0, 0))) (Blk r.bs (.cells [Value.slice (some ⟨r.g, 0, none⟩) r.n r.n, .int .i64 r.p].toArray 109 (0, 0))) (Own 5 1 (.slice (some ⟨r.g, 0, none⟩) r.n r.n) r.n (ints .u8 r.B)) (Blk r.by_ (.cells [Value.slice r.a2 r.n r.c2, .int .i64 r.p, .int .i64 r.q].toArray 99 (0, 0)))) (Own 5 1 (.slice r.a2 r.n r.c2) r.n (ints .u8 r.B))
def ptrs (N : Nat) (f : Nat → Nat) : List Value := rowsN N fun j => [.pointer (some ⟨f j, 0, none⟩)]
structure WOk (w : WR) (T : Nat) : Prop where
  len : w.B.length = w.n
  fit : w.n ≤ T
  ha : w.n = 0 ∨ ∃ g, w.a = some ⟨g, 0, none⟩
  ha2 : w.n = 0 ∨ ∃ g, w.a2 = some ⟨g, 0, none⟩
  u : U8s w.B
structure ROk (r : RR) : Prop where
  len : r.B.length = r.n
  fit : r.n ≤ 2147483800
  ha2 : r.n = 0 ∨ ∃ g, r.a2 = some ⟨g, 0, none⟩
  hc : r.n ≤ r.c2
  u : U8s r.B
  p0 : 0 ≤ r.p
  p1 : r.p ≤ r.n
  q0 : 0 ≤ r.q
  q1 : r.q ≤ 20
structure WS where
  N : Nat
  W : Nat → WR
  wl : Option Addr
  wc : Nat
  vl : Option Addr
  vc : Nat
  M : Nat
  R : Nat → RR
  rl : Option Addr
  rc : Nat
  ql : Option Addr
  qc : Nat
  K8 : Nat
  B8 : Nat → BK8
  ka8 : Option Addr
  kc8 : Nat
  K : Nat
  B : Nat → BK
  ka : Option Addr
  kc : Nat
structure SOk (S : WS) (T : Nat) : Prop where
  hW : ∀ j, j < S.N → WOk (S.W j) T
  hR : ∀ j, j < S.M → ROk (S.R j)
  hwl : S.N = 0 ∨ ∃ g, S.wl = some ⟨g, 0, none⟩
  hvl : S.N = 0 ∨ ∃ g, S.vl = some ⟨g, 0, none⟩
  hrl : S.M = 0 ∨ ∃ g, S.rl = some ⟨g, 0, none⟩
  hql : S.M = 0 ∨ ∃ g, S.ql = some ⟨g, 0, none⟩
  hB8 : ∀ j, j < S.K8 → BkOk8 (S.B8 j)
  hka8 : S.K8 = 0 ∨ ∃ g, S.ka8 = some ⟨g, 0, none⟩
  hB : ∀ j, j < S.K → BkOk (S.B j)
  hka : S.K = 0 ∨ ∃ g, S.ka = some ⟨g, 0, none⟩
  hN : S.N ≤ T + 1
  hM : S.M ≤ T + 1
  hK8 : S.K8 ≤ T
  hK : S.K ≤ T
theorem WOk.le {w : WR} {T T2 : Nat} (h : WOk w T) (ht : T ≤ T2) : WOk w T2 := ⟨h.len, Nat.le_trans h.fit ht, h.ha, h.ha2, h.u⟩
theorem SOk.le {S : WS} {T T2 : Nat} (h : SOk S T) (ht : T ≤ T2) : SOk S T2 := ⟨fun j hj => (h.hW j hj).le ht, h.hR, h.hwl, h.hvl, h.hrl, h.hql, h.hB8, h.hka8, h.hB, h.hka, by have := h.hN; omega, by have := h.hM; omega, Nat.le_trans h.hK8 ht, Nat.le_trans h.hK ht⟩
def WS.putW (S : WS) (i : Nat) (w : WR) : WS := { S with W := upF S.W i w }
def WS.putR (S : WS) (i : Nat) (r : RR) : WS := { S with R := upF S.R i r }
def WS.bk8 (S : WS) (K8 : Nat) (B8 : Nat → BK8) (ka8 : Option Addr) (kc8 : Nat) : WS := { S with K8 := K8, B8 := B8, ka8 := ka8, kc8 := kc8 }
def WS.bk32 (S : WS) (K : Nat) (B : Nat → BK) (ka : Option Addr) (kc : Nat) : WS := { S with K := K, B := B, ka := ka, kc := kc }
theorem SOk.putW {S : WS} {T i : Nat} {w : WR} (h : SOk S T) (hw : WOk w T) : SOk (S.putW i w) T := ⟨fun j hj => by
  simp only [WS.putW] at hj ⊢
  by_cases e : j = i
  · subst e; rw [upF_at]; exact hw
  · rw [upF_ne e]; exact h.hW j hj, h.hR, h.hwl, h.hvl, h.hrl, h.hql, h.hB8, h.hka8, h.hB, h.hka, h.hN, h.hM, h.hK8, h.hK⟩
theorem SOk.putR {S : WS} {T i : Nat} {r : RR} (h : SOk S T) (hr : ROk r) : SOk (S.putR i r) T := ⟨h.hW, fun j hj => by
  simp only [WS.putR] at hj ⊢
  by_cases e : j = i
  · subst e; rw [upF_at]; exact hr
  · rw [upF_ne e]; exact h.hR j hj, h.hwl, h.hvl, h.hrl, h.hql, h.hB8, h.hka8, h.hB, h.hka, h.hN, h.hM, h.hK8, h.hK⟩
theorem SOk.bk8 {S : WS} {T : Nat} (h : SOk S T) {K8 : Nat} {B8 : Nat → BK8} (hB : ∀ j, j < K8 → BkOk8 (B8 j)) {ka8 : Option Addr} (hka : ∃ g, ka8 = some ⟨g, 0, none⟩) (kc8 : Nat) (hK : K8 ≤ T) : SOk (S.bk8 K8 B8 ka8 kc8) T := ⟨h.hW, h.hR, h.hwl, h.hvl, h.hrl, h.hql, hB, .inr hka, h.hB, h.hka, h.hN, h.hM, hK, h.hK⟩
theorem SOk.bk32 {S : WS} {T : Nat} (h : SOk S T) {K : Nat} {B : Nat → BK} (hB : ∀ j, j < K → BkOk (B j)) {ka : Option Addr} (hka : ∃ g, ka = some ⟨g, 0, none⟩) (kc : Nat) (hK : K ≤ T) : SOk (S.bk32 K B ka kc) T := ⟨h.hW, h.hR, h.hwl, h.hvl, h.hrl, h.hql, h.hB8, h.hka8, hB, .inr hka, h.hN, h.hM, h.hK8, hK⟩
theorem ptrs_congr {N : Nat} {f g : Nat → Nat} (h : ∀ k, k < N → f k = g k) : ptrs N f = ptrs N g := rowsN_congr fun k hk => by rw [h k hk]
theorem ptrs_w {W : Nat → WR} {N i : Nat} {w : WR} (h1 : w.bw = (W i).bw) : ptrs N (fun j => (W j).bw) = ptrs N (fun j => (upF W i w j).bw) := ptrs_congr fun k _ => by
  by_cases e : k = i
  · subst e; rw [upF_at, h1]
  · rw [upF_ne e]
theorem ptrs_v {W : Nat → WR} {N i : Nat} {w : WR} (h1 : w.bx = (W i).bx) : ptrs N (fun j => (W j).bx) = ptrs N (fun j => (upF W i w j).bx) := ptrs_congr fun k _ => by
  by_cases e : k = i
  · subst e; rw [upF_at, h1]
  · rw [upF_ne e]
theorem ptrs_r {R : Nat → RR} {N i : Nat} {r : RR} (h1 : r.bq = (R i).bq) : ptrs N (fun j => (R j).bq) = ptrs N (fun j => (upF R i r j).bq) := ptrs_congr fun k _ => by
  by_cases e : k = i
  · subst e; rw [upF_at, h1]
  · rw [upF_ne e]
theorem ptrs_q {R : Nat → RR} {N i : Nat} {r : RR} (h1 : r.by_ = (R i).by_) : ptrs N (fun j => (R j).by_) = ptrs N (fun j => (upF R i r j).by_) := ptrs_congr fun k _ => by
  by_cases e : k = i
  · subst e; rw [upF_at, h1]
  · rw [upF_ne e]
theorem ptrs_push {α : Type} {r : α → Nat} {N : Nat} {B : Nat → α} {x : α} {b : Nat} (hb : r x = b) : ptrs N (fun j => r (B j)) ++ [.pointer (some ⟨b, 0, none⟩)] = ptrs (N + 1) (fun j => r (upF B N x j)) := by
  subst hb
  exact rowsN_push (r := fun z => [Value.pointer (some ⟨r z, 0, none⟩)])
theorem ptr_cell {w0 : World} {F : List Atom} {E g N c i b : Nat} {f : Nat → Nat} (hm : Own E 1 (.slice (some ⟨g, 0, none⟩) N c) N (ptrs N f) ∈ F) (hi : i < N) (hb : f i = b) : CellAt w0 F g (0 + (i : Int).toNat * 1) (.pointer (some ⟨b, 0, none⟩)) := by
  have h := (rn_row (w0 := w0) (sz := 1) hm (fun _ _ => rfl) hi).cell (j := 0) (v := .pointer (some ⟨f i, 0, none⟩)) rfl
  rw [Int.toNat_natCast, ← hb]
  exact h
theorem own_ra {w0 : World} {F : List Atom} {kd : IntKind} {E : Nat} {a : Option Addr} {n c : Nat} {W : List Int} (h : ∀ w, Holds w0 F w → (Own E 1 (.slice a n c) n (ints kd W)).ok (hp w)) (hW : W.length = n) (w : World) (hw : Holds w0 F w) : RA w0 F kd a n c W := by
  refine ⟨hW, ?_⟩
  rcases (h w hw).2 with ⟨hv, h0⟩ | ⟨g, cap, cur, hv, _⟩
  · injection hv with e1 _ e2
    exact .inl ⟨h0, fun _ => e2⟩
  · injection hv with e1 _ _
    subst e1
    exact .inr ⟨g, 0, rfl, fun w hw => own_row (h w hw)⟩
theorem wr_ra {w0 : World} {F : List Atom} {N j : Nat} {W : Nat → WR} (hm : BigF N (fun j => wrA (W j)) ∈ F) (hj : j < N) (hl : (W j).B.length = (W j).n) (w : World) (hw : Holds w0 F w) : RA w0 F .u8 (W j).a2 (W j).n (W j).c2 (W j).B :=
  own_ra (E := 5) (fun w hw => (big_ok hm hj hw).2.1) hl w hw
theorem wrA_out {w0 : World} {F : List Atom} {w : World} {x : WR} (h : Holds w0 (wrA x :: F) w) : Holds w0 (Blk x.bw (.cells [Value.pointer (some ⟨x.br, 0, none⟩)].toArray 111 (0, 0)) :: Blk x.br (.cells [Value.slice x.a x.n x.c, .int .i64 0].toArray 109 (0, 0)) :: Own 5 1 (.slice x.a x.n x.c) x.n (ints .u8 x.B) :: Blk x.bx (.cells [Value.slice x.a2 x.n x.c2].toArray 90 (0, 0)) :: Own 5 1 (.slice x.a2 x.n x.c2) x.n (ints .u8 x.B) :: F) w := by
  have h1 := Star.out h
  have h2 := Quad.out h1
  exact h2
theorem wrA_in {w0 : World} {F : List Atom} {w : World} {x : WR} (h : Holds w0 (Blk x.bw (.cells [Value.pointer (some ⟨x.br, 0, none⟩)].toArray 111 (0, 0)) :: Blk x.br (.cells [Value.slice x.a x.n x.c, .int .i64 0].toArray 109 (0, 0)) :: Own 5 1 (.slice x.a x.n x.c) x.n (ints .u8 x.B) :: Blk x.bx (.cells [Value.slice x.a2 x.n x.c2].toArray 90 (0, 0)) :: Own 5 1 (.slice x.a2 x.n x.c2) x.n (ints .u8 x.B) :: F) w) : Holds w0 (wrA x :: F) w := Star.mk (Quad.mk h)
theorem rdA_out {w0 : World} {F : List Atom} {w : World} {x : RR} (h : Holds w0 (rdA x :: F) w) : Holds w0 (Blk x.bq (.cells [Value.pointer (some ⟨x.bs, 0, none⟩), .int .i64 x.q].toArray 113 (0, 0)) :: Blk x.bs (.cells [Value.slice (some ⟨x.g, 0, none⟩) x.n x.n, .int .i64 x.p].toArray 109 (0, 0)) :: Own 5 1 (.slice (some ⟨x.g, 0, none⟩) x.n x.n) x.n (ints .u8 x.B) :: Blk x.by_ (.cells [Value.slice x.a2 x.n x.c2, .int .i64 x.p, .int .i64 x.q].toArray 99 (0, 0)) :: Own 5 1 (.slice x.a2 x.n x.c2) x.n (ints .u8 x.B) :: F) w := by
  have h1 := Star.out h
  have h2 := Quad.out h1
  exact h2
theorem rdA_in {w0 : World} {F : List Atom} {w : World} {x : RR} (h : Holds w0 (Blk x.bq (.cells [Value.pointer (some ⟨x.bs, 0, none⟩), .int .i64 x.q].toArray 113 (0, 0)) :: Blk x.bs (.cells [Value.slice (some ⟨x.g, 0, none⟩) x.n x.n, .int .i64 x.p].toArray 109 (0, 0)) :: Own 5 1 (.slice (some ⟨x.g, 0, none⟩) x.n x.n) x.n (ints .u8 x.B) :: Blk x.by_ (.cells [Value.slice x.a2 x.n x.c2, .int .i64 x.p, .int .i64 x.q].toArray 99 (0, 0)) :: Own 5 1 (.slice x.a2 x.n x.c2) x.n (ints .u8 x.B) :: F) w) : Holds w0 (rdA x :: F) w := Star.mk (Quad.mk h)
section
variable {P : Program} {f : FuncId} {w0 : World} {K : Post} {n' : Nat} {d' : List Deferred} {ops : Array Oper} {rest : List Oper} {k : List Go.Item} {e : Env} {F : List Atom} {N i : Nat} {W : Nat → WR} {R : Nat → RR} {w : WR} {r : RR}
theorem l_openw (hi : i < N) (hc : W i = w) (hk : GL P f w0 K n' d' ops rest k e (Blk w.bw (.cells [Value.pointer (some ⟨w.br, 0, none⟩)].toArray 111 (0, 0)) :: Blk w.br (.cells [Value.slice w.a w.n w.c, .int .i64 0].toArray 109 (0, 0)) :: Own 5 1 (.slice w.a w.n w.c) w.n (ints .u8 w.B) :: Blk w.bx (.cells [Value.slice w.a2 w.n w.c2].toArray 90 (0, 0)) :: Own 5 1 (.slice w.a2 w.n w.c2) w.n (ints .u8 w.B) :: BigBut N i (fun j => wrA (W j)) :: F)) : GL P f w0 K n' d' ops rest k e (BigF N (fun j => wrA (W j)) :: F) := by
  refine l_focus (A := fun j => wrA (W j)) i hi ?_
  rw [hc]
  exact gl_heap (fun w hw => wrA_out hw) hk
theorem g_closew (hk : G P f w0 K n' d' k e (BigF N (fun j => wrA (upF W i w j)) :: F)) : G P f w0 K n' d' k e (Blk w.bw (.cells [Value.pointer (some ⟨w.br, 0, none⟩)].toArray 111 (0, 0)) :: Blk w.br (.cells [Value.slice w.a w.n w.c, .int .i64 0].toArray 109 (0, 0)) :: Own 5 1 (.slice w.a w.n w.c) w.n (ints .u8 w.B) :: Blk w.bx (.cells [Value.slice w.a2 w.n w.c2].toArray 90 (0, 0)) :: Own 5 1 (.slice w.a2 w.n w.c2) w.n (ints .u8 w.B) :: BigBut N i (fun j => wrA (W j)) :: F) :=
  g_heap (fun w hw => wrA_in hw) (g_unfocus (fun j => wrA (upF W i w j)) (by simp only [upF_at]) (fun k _ hk => by simp only [upF_ne hk]) hk)
theorem l_openr (hi : i < N) (hc : R i = r) (hk : GL P f w0 K n' d' ops rest k e (Blk r.bq (.cells [Value.pointer (some ⟨r.bs, 0, none⟩), .int .i64 r.q].toArray 113 (0, 0)) :: Blk r.bs (.cells [Value.slice (some ⟨r.g, 0, none⟩) r.n r.n, .int .i64 r.p].toArray 109 (0, 0)) :: Own 5 1 (.slice (some ⟨r.g, 0, none⟩) r.n r.n) r.n (ints .u8 r.B) :: Blk r.by_ (.cells [Value.slice r.a2 r.n r.c2, .int .i64 r.p, .int .i64 r.q].toArray 99 (0, 0)) :: Own 5 1 (.slice r.a2 r.n r.c2) r.n (ints .u8 r.B) :: BigBut N i (fun j => rdA (R j)) :: F)) : GL P f w0 K n' d' ops rest k e (BigF N (fun j => rdA (R j)) :: F) := by
  refine l_focus (A := fun j => rdA (R j)) i hi ?_
  rw [hc]
  exact gl_heap (fun w hw => rdA_out hw) hk
theorem g_closer (hk : G P f w0 K n' d' k e (BigF N (fun j => rdA (upF R i r j)) :: F)) : G P f w0 K n' d' k e (Blk r.bq (.cells [Value.pointer (some ⟨r.bs, 0, none⟩), .int .i64 r.q].toArray 113 (0, 0)) :: Blk r.bs (.cells [Value.slice (some ⟨r.g, 0, none⟩) r.n r.n, .int .i64 r.p].toArray 109 (0, 0)) :: Own 5 1 (.slice (some ⟨r.g, 0, none⟩) r.n r.n) r.n (ints .u8 r.B) :: Blk r.by_ (.cells [Value.slice r.a2 r.n r.c2, .int .i64 r.p, .int .i64 r.q].toArray 99 (0, 0)) :: Own 5 1 (.slice r.a2 r.n r.c2) r.n (ints .u8 r.B) :: BigBut N i (fun j => rdA (R j)) :: F) :=
  g_heap (fun w hw => rdA_in hw) (g_unfocus (fun j => rdA (upF R i r j)) (by simp only [upF_at]) (fun k _ hk => by simp only [upF_ne hk]) hk)
theorem g_snocw (hk : G P f w0 K n' d' k e (BigF (N + 1) (fun j => wrA (upF W N w j)) :: F)) : G P f w0 K n' d' k e (Blk w.bw (.cells [Value.pointer (some ⟨w.br, 0, none⟩)].toArray 111 (0, 0)) :: Blk w.br (.cells [Value.slice w.a w.n w.c, .int .i64 0].toArray 109 (0, 0)) :: Own 5 1 (.slice w.a w.n w.c) w.n (ints .u8 w.B) :: Blk w.bx (.cells [Value.slice w.a2 w.n w.c2].toArray 90 (0, 0)) :: Own 5 1 (.slice w.a2 w.n w.c2) w.n (ints .u8 w.B) :: BigF N (fun j => wrA (W j)) :: F) :=
  g_heap (fun w hw => wrA_in hw) (g_snocb (fun j => wrA (upF W N w j)) (by simp only [upF_at]) (fun k hk => by simp only [upF_ne (show k ≠ N by omega)]) hk)
theorem g_snocr (hk : G P f w0 K n' d' k e (BigF (N + 1) (fun j => rdA (upF R N r j)) :: F)) : G P f w0 K n' d' k e (Blk r.bq (.cells [Value.pointer (some ⟨r.bs, 0, none⟩), .int .i64 r.q].toArray 113 (0, 0)) :: Blk r.bs (.cells [Value.slice (some ⟨r.g, 0, none⟩) r.n r.n, .int .i64 r.p].toArray 109 (0, 0)) :: Own 5 1 (.slice (some ⟨r.g, 0, none⟩) r.n r.n) r.n (ints .u8 r.B) :: Blk r.by_ (.cells [Value.slice r.a2 r.n r.c2, .int .i64 r.p, .int .i64 r.q].toArray 99 (0, 0)) :: Own 5 1 (.slice r.a2 r.n r.c2) r.n (ints .u8 r.B) :: BigF N (fun j => rdA (R j)) :: F) :=
  g_heap (fun w hw => rdA_in hw) (g_snocb (fun j => rdA (upF R N r j)) (by simp only [upF_at]) (fun k hk => by simp only [upF_ne (show k ≠ N by omega)]) hk)
end
theorem trip {a b c a2 b2 c2 : Int} (h : (a, b, c) = (a2, b2, c2)) : a = a2 ∧ b = b2 ∧ c = c2 := by simpa using h
theorem tript {a a2 : List Int} {b c b2 c2 : Int} (h : (a, b, c) = (a2, b2, c2)) : a = a2 ∧ b = b2 ∧ c = c2 := by simpa using h
theorem rdN_bd {B : List Int} {n : Nat} {p q k m p2 q2 : Int} (hB : B.length = n) (p0 : 0 ≤ p) (p1 : p ≤ n) (q0 : 0 ≤ q) (q1 : q ≤ 20) (k0 : 0 ≤ k) (h : rdN B p q k = (m, p2, q2)) : 0 ≤ p2 ∧ p2 ≤ n ∧ 0 ≤ q2 ∧ q2 ≤ 20 := by
  unfold rdN at h
  split at h
  · obtain ⟨_, rfl, rfl⟩ := trip h; omega
  · split at h
    · obtain ⟨_, rfl, rfl⟩ := trip h; omega
    · obtain ⟨_, rfl, rfl⟩ := trip h; omega
theorem rdT_bd {B : List Int} {n : Nat} {p q k p2 q2 : Int} {X : List Int} (hB : B.length = n) (hU : ∀ i, 0 ≤ B.getD i 0 ∧ B.getD i 0 ≤ 255) (p0 : 0 ≤ p) (p1 : p ≤ n) (q0 : 0 ≤ q) (q1 : q ≤ 20) (h : rdT B p q k = (X, p2, q2)) : 0 ≤ p2 ∧ p2 ≤ n ∧ 0 ≤ q2 ∧ q2 ≤ 20 := by
  obtain ⟨m4, p4, q4, h4⟩ : ∃ m p2 q2, rdN B p q 4 = (m, p2, q2) := ⟨_, _, _, rfl⟩
  have hb := rdN_bd hB p0 p1 q0 q1 (by decide) h4
  have hm := (rdN_spec hU h4).2.1
  unfold rdT at h
  rw [h4] at h
  dsimp only at h
  split at h
  · obtain ⟨_, rfl, rfl⟩ := tript h; omega
  · split at h
    · obtain ⟨_, rfl, rfl⟩ := tript h; omega
    · split at h
      · obtain ⟨_, rfl, rfl⟩ := tript h; omega
      · split at h
        · obtain ⟨_, rfl, rfl⟩ := tript h; omega
        · obtain ⟨_, rfl, rfl⟩ := tript h; omega
theorem U8s.app {B C : List Int} (h : U8s B) (hC : ∀ x ∈ C, 0 ≤ x ∧ x ≤ 255) : U8s (B ++ C) := U8s.of fun x hx => by
  rcases List.mem_append.1 hx with hx | hx
  · exact h.all x hx
  · exact hC x hx
set_option maxHeartbeats 4000000 in
theorem numbers_ok (w0 : World) (F : List Atom) (kd : Int) (kd0 : -9223372036854775808 ≤ kd) (kd1 : kd ≤ 9223372036854775807) (who : Int) (who0 : -9223372036854775808 ≤ who) (who1 : who ≤ 9223372036854775807) (oa : Int) (oa0 : -9223372036854775808 ≤ oa) (oa1 : oa ≤ 9223372036854775807) (ob : Int) (ob0 : -9223372036854775808 ≤ ob) (ob1 : ob ≤ 9223372036854775807) (ow : Int) (ow0 : 0 ≤ ow) (ow1 : ow ≤ 4294967295) (ov : Int) (ov0 : 0 ≤ ov) (ov1 : ov ≤ 4294967295) (on : Int) (on0 : 0 ≤ on) (on1 : on ≤ 18446744073709551615) (ba : Option Addr) (nb bc : Nat) (Z : List Int) (hZ : RA w0 F .u8 ba nb bc Z) (hbc : nb ≤ bc) (hZU : U8s Z) (wa : Option Addr) (nw wc : Nat) (Y : List Int) (hY : RA w0 F .u32 wa nw wc Y) (hYU : W32s Y) (os : ByteArray) (hwt : os.size ≤ 2147483647 ∧ nb ≤ 2147483647 ∧ nw ≤ 536870911) :
    CallK Try.prog 19 [.agg [Value.int .i64 kd, .int .i64 who, .int .i64 oa, .int .i64 ob, .int .u32 ow, .int .u32 ov, .int .u64 on, .slice ba nb bc, .slice wa nw wc, .string os].toArray] w0 (F) (Gives w0 fun v F2 => v = .bool true ∧ F2 = F) := by
  refine c_enter Try.func19 rfl rfl rfl ?_
  refine g_seq ?_
  refine g_region ?_
  refine l_boxs rfl rfl ?_; intro b1
  refine l_assign rfl rfl ?_
  refine l_nil ?_
  refine g_seq ?_
  refine g_seq ?_
  refine g_region ?_
  refine l_fieldAddr rfl fa_56_0 rfl ?_
  first | refine l_ld rfl Try.isAgg3 rfl rfl ?_ | refine l_ldw rfl Try.isAgg3 rfl (by omega) ?_
  refine l_nil ?_
  refine g_block ?_
  refine g_seq ?_
  refine g_region ?_
  refine l_eql rfl rfl rfl ?_
  refine l_assign rfl rfl ?_
  refine l_nil ?_
  refine g_cond rfl ?_ ?_
  · intro hbr
    have hbr := of_decide_eq_true hbr
    refine g_seq ?_
    refine g_region ?_
    refine l_fieldAddr rfl fa_56_4 rfl ?_
    first | refine l_ld rfl Try.isAgg23 rfl rfl ?_ | refine l_ldw rfl Try.isAgg23 rfl (by omega) ?_
    refine l_fieldAddr rfl fa_56_2 rfl ?_
    first | refine l_ld rfl Try.isAgg3 rfl rfl ?_ | refine l_ldw rfl Try.isAgg3 rfl (by omega) ?_
    refine l_fieldAddr rfl fa_56_3 rfl ?_
    first | refine l_ld rfl Try.isAgg3 rfl rfl ?_ | refine l_ldw rfl Try.isAgg3 rfl (by omega) ?_
    refine l_call rfl Try.call11 rfl (field_g _ _ ow ow0 ow1 oa oa0 oa1 ob ob0 ob1) ?_; rintro _ _ ⟨r1, e1, rfl, rfl, hG1⟩
    refine l_move rfl rfl ?_
    refine l_extract rfl rfl rfl ?_
    refine l_extract rfl rfl rfl ?_
    refine l_assign rfl rfl ?_
    refine l_assign rfl rfl ?_
    refine l_nil ?_
    refine g_seq ?_
    refine g_region ?_
    refine l_fieldAddr rfl fa_56_4 rfl ?_
    first | refine l_ld rfl Try.isAgg23 rfl rfl ?_ | refine l_ldw rfl Try.isAgg23 rfl (by omega) ?_
    refine l_fieldAddr rfl fa_56_2 rfl ?_
    first | refine l_ld rfl Try.isAgg3 rfl rfl ?_ | refine l_ldw rfl Try.isAgg3 rfl (by omega) ?_
    refine l_fieldAddr rfl fa_56_3 rfl ?_
    first | refine l_ld rfl Try.isAgg3 rfl rfl ?_ | refine l_ldw rfl Try.isAgg3 rfl (by omega) ?_
    refine l_call rfl Try.call52 rfl (rfield_g _ _ ow ow0 ow1 oa oa0 oa1 ob ob0 ob1) ?_; rintro _ _ ⟨r2, e2, rfl, rfl, hG2⟩
    obtain ⟨rfl, rfl⟩ := hG1.one hG2
    refine l_move rfl rfl ?_
    refine l_extract rfl rfl rfl ?_
    refine l_extract rfl rfl rfl ?_
    refine l_assign rfl rfl ?_
    refine l_assign rfl rfl ?_
    refine l_nil ?_
    refine g_seq ?_
    refine g_region ?_
    refine l_move rfl rfl ?_
    refine l_move rfl rfl ?_
    refine l_eql rfl rfl rfl ?_
    refine l_move rfl rfl ?_
    refine l_split 46 rfl ?_ ?_
    · intro hbr
      have hbr := of_decide_eq_true hbr
      refine l_guard_yes rfl rfl ?_
      refine l_move rfl rfl ?_
      refine l_guard_yes rfl rfl ?_
      refine l_move rfl rfl ?_
      refine l_guard_yes rfl rfl ?_
      refine l_eql rfl rfl rfl ?_
      refine l_pick_t rfl rfl rfl ?_
      refine l_assign rfl rfl ?_
      refine l_nil ?_
      refine g_ret Try.func19 rfl (.tmp rfl .nil) ?_
      exact Gives.mki ⟨(by first | rfl | exact congrArg Value.bool (decide_eq_true rfl) | (simp [resVal]; done)), rfl⟩
    · intro hbr
      have hbr := of_decide_eq_false hbr
      (exfalso; first | omega | (simp at hbr; done))
  intro hbr
  have hbr := of_decide_eq_false hbr
  refine g_seq ?_
  refine g_region ?_
  refine l_eql rfl rfl rfl ?_
  refine l_assign rfl rfl ?_
  refine l_nil ?_
  refine g_cond rfl ?_ ?_
  · intro hbr
    have hbr := of_decide_eq_true hbr
    refine g_seq ?_
    refine g_region ?_
    refine l_fieldAddr rfl fa_56_4 rfl ?_
    first | refine l_ld rfl Try.isAgg23 rfl rfl ?_ | refine l_ldw rfl Try.isAgg23 rfl (by omega) ?_
    refine l_fieldAddr rfl fa_56_2 rfl ?_
    first | refine l_ld rfl Try.isAgg3 rfl rfl ?_ | refine l_ldw rfl Try.isAgg3 rfl (by omega) ?_
    refine l_fieldAddr rfl fa_56_3 rfl ?_
    first | refine l_ld rfl Try.isAgg3 rfl rfl ?_ | refine l_ldw rfl Try.isAgg3 rfl (by omega) ?_
    refine l_fieldAddr rfl fa_56_5 rfl ?_
    first | refine l_ld rfl Try.isAgg23 rfl rfl ?_ | refine l_ldw rfl Try.isAgg23 rfl (by omega) ?_
    refine l_call rfl Try.call10 rfl (put_g _ _ ow ow0 ow1 oa oa0 oa1 ob ob0 ob1 ov ov0 ov1) ?_; rintro _ _ ⟨r1, e1, rfl, rfl, hG1⟩
    refine l_move rfl rfl ?_
    refine l_extract rfl rfl rfl ?_
    refine l_extract rfl rfl rfl ?_
    refine l_assign rfl rfl ?_
    refine l_assign rfl rfl ?_
    refine l_nil ?_
    refine g_seq ?_
    refine g_region ?_
    refine l_fieldAddr rfl fa_56_4 rfl ?_
    first | refine l_ld rfl Try.isAgg23 rfl rfl ?_ | refine l_ldw rfl Try.isAgg23 rfl (by omega) ?_
    refine l_fieldAddr rfl fa_56_2 rfl ?_
    first | refine l_ld rfl Try.isAgg3 rfl rfl ?_ | refine l_ldw rfl Try.isAgg3 rfl (by omega) ?_
    refine l_fieldAddr rfl fa_56_3 rfl ?_
    first | refine l_ld rfl Try.isAgg3 rfl rfl ?_ | refine l_ldw rfl Try.isAgg3 rfl (by omega) ?_
    refine l_fieldAddr rfl fa_56_5 rfl ?_
    first | refine l_ld rfl Try.isAgg23 rfl rfl ?_ | refine l_ldw rfl Try.isAgg23 rfl (by omega) ?_
    refine l_call rfl Try.call53 rfl (rput_g _ _ ow ow0 ow1 oa oa0 oa1 ob ob0 ob1 ov ov0 ov1) ?_; rintro _ _ ⟨r2, e2, rfl, rfl, hG2⟩
    obtain ⟨rfl, rfl⟩ := hG1.one hG2
    refine l_move rfl rfl ?_
    refine l_extract rfl rfl rfl ?_
    refine l_extract rfl rfl rfl ?_
    refine l_assign rfl rfl ?_
    refine l_assign rfl rfl ?_
    refine l_nil ?_
    refine g_seq ?_
    refine g_region ?_
    refine l_move rfl rfl ?_
    refine l_move rfl rfl ?_
    refine l_eql rfl rfl rfl ?_
    refine l_move rfl rfl ?_
    refine l_split 80 rfl ?_ ?_
    · intro hbr
      have hbr := of_decide_eq_true hbr
      refine l_guard_yes rfl rfl ?_
      refine l_move rfl rfl ?_
      refine l_guard_yes rfl rfl ?_
      refine l_move rfl rfl ?_
      refine l_guard_yes rfl rfl ?_
      refine l_eql rfl rfl rfl ?_
      refine l_pick_t rfl rfl rfl ?_
      refine l_assign rfl rfl ?_
      refine l_nil ?_
      refine g_ret Try.func19 rfl (.tmp rfl .nil) ?_
      exact Gives.mki ⟨(by first | rfl | exact congrArg Value.bool (decide_eq_true rfl) | (simp [resVal]; done)), rfl⟩
    · intro hbr
      have hbr := of_decide_eq_false hbr
      (exfalso; first | omega | (simp at hbr; done))
  intro hbr
  have hbr := of_decide_eq_false hbr
  refine g_seq ?_
  refine g_region ?_
  refine l_eql rfl rfl rfl ?_
  refine l_assign rfl rfl ?_
  refine l_nil ?_
  refine g_cond rfl ?_ ?_
  · intro hbr
    have hbr := of_decide_eq_true hbr
    refine g_seq ?_
    refine g_region ?_
    refine l_fieldAddr rfl fa_56_5 rfl ?_
    first | refine l_ld rfl Try.isAgg23 rfl rfl ?_ | refine l_ldw rfl Try.isAgg23 rfl (by omega) ?_
    refine l_fieldAddr rfl fa_56_2 rfl ?_
    first | refine l_ld rfl Try.isAgg3 rfl rfl ?_ | refine l_ldw rfl Try.isAgg3 rfl (by omega) ?_
    refine l_call rfl Try.call13 rfl (signed_g _ _ ov ov0 ov1 oa oa0 oa1) ?_; rintro _ _ ⟨r1, e1, rfl, rfl, hG1⟩
    refine l_move rfl rfl ?_
    refine l_extract rfl rfl rfl ?_
    refine l_extract rfl rfl rfl ?_
    refine l_assign rfl rfl ?_
    refine l_assign rfl rfl ?_
    refine l_nil ?_
    refine g_seq ?_
    refine g_region ?_
    refine l_fieldAddr rfl fa_56_5 rfl ?_
    first | refine l_ld rfl Try.isAgg23 rfl rfl ?_ | refine l_ldw rfl Try.isAgg23 rfl (by omega) ?_
    refine l_fieldAddr rfl fa_56_2 rfl ?_
    first | refine l_ld rfl Try.isAgg3 rfl rfl ?_ | refine l_ldw rfl Try.isAgg3 rfl (by omega) ?_
    refine l_call rfl Try.call54 rfl (rsigned_g _ _ ov ov0 ov1 oa oa0 oa1) ?_; rintro _ _ ⟨r2, e2, rfl, rfl, hG2⟩
    obtain ⟨rfl, rfl⟩ := hG1.one hG2
    refine l_move rfl rfl ?_
    refine l_extract rfl rfl rfl ?_
    refine l_extract rfl rfl rfl ?_
    refine l_assign rfl rfl ?_
    refine l_assign rfl rfl ?_
    refine l_nil ?_
    refine g_seq ?_
    refine g_region ?_
    refine l_move rfl rfl ?_
    refine l_move rfl rfl ?_
    refine l_eql rfl rfl rfl ?_
    refine l_move rfl rfl ?_
    refine l_split 106 rfl ?_ ?_
    · intro hbr
      have hbr := of_decide_eq_true hbr
      refine l_guard_yes rfl rfl ?_
      refine l_move rfl rfl ?_
      refine l_guard_yes rfl rfl ?_
      refine l_move rfl rfl ?_
      refine l_guard_yes rfl rfl ?_
      refine l_eql rfl rfl rfl ?_
      refine l_pick_t rfl rfl rfl ?_
      refine l_assign rfl rfl ?_
      refine l_nil ?_
      refine g_ret Try.func19 rfl (.tmp rfl .nil) ?_
      exact Gives.mki ⟨(by first | rfl | exact congrArg Value.bool (decide_eq_true rfl) | (simp [resVal]; done)), rfl⟩
    · intro hbr
      have hbr := of_decide_eq_false hbr
      (exfalso; first | omega | (simp at hbr; done))
  intro hbr
  have hbr := of_decide_eq_false hbr
  refine g_seq ?_
  refine g_region ?_
  refine l_eql rfl rfl rfl ?_
  refine l_assign rfl rfl ?_
  refine l_nil ?_
  refine g_cond rfl ?_ ?_
  · intro hbr
    have hbr := of_decide_eq_true hbr
    refine g_seq ?_
    refine g_region ?_
    refine l_fieldAddr rfl fa_56_2 rfl ?_
    first | refine l_ld rfl Try.isAgg3 rfl rfl ?_ | refine l_ldw rfl Try.isAgg3 rfl (by omega) ?_
    refine l_fieldAddr rfl fa_56_3 rfl ?_
    first | refine l_ld rfl Try.isAgg3 rfl rfl ?_ | refine l_ldw rfl Try.isAgg3 rfl (by omega) ?_
    refine l_call rfl Try.call12 rfl (unsigned_g _ _ oa oa0 oa1 ob ob0 ob1) ?_; rintro _ _ ⟨r1, e1, rfl, rfl, hG1⟩
    refine l_move rfl rfl ?_
    refine l_extract rfl rfl rfl ?_
    refine l_extract rfl rfl rfl ?_
    refine l_assign rfl rfl ?_
    refine l_assign rfl rfl ?_
    refine l_nil ?_
    refine g_seq ?_
    refine g_region ?_
    refine l_fieldAddr rfl fa_56_2 rfl ?_
    first | refine l_ld rfl Try.isAgg3 rfl rfl ?_ | refine l_ldw rfl Try.isAgg3 rfl (by omega) ?_
    refine l_fieldAddr rfl fa_56_3 rfl ?_
    first | refine l_ld rfl Try.isAgg3 rfl rfl ?_ | refine l_ldw rfl Try.isAgg3 rfl (by omega) ?_
    refine l_call rfl Try.call55 rfl (runsigned_g _ _ oa oa0 oa1 ob ob0 ob1) ?_; rintro _ _ ⟨r2, e2, rfl, rfl, hG2⟩
    obtain ⟨rfl, rfl⟩ := hG1.one hG2
    refine l_move rfl rfl ?_
    refine l_extract rfl rfl rfl ?_
    refine l_extract rfl rfl rfl ?_
    refine l_assign rfl rfl ?_
    refine l_assign rfl rfl ?_
    refine l_nil ?_
    refine g_seq ?_
    refine g_region ?_
    refine l_move rfl rfl ?_
    refine l_move rfl rfl ?_
    refine l_eql rfl rfl rfl ?_
    refine l_move rfl rfl ?_
    refine l_split 132 rfl ?_ ?_
    · intro hbr
      have hbr := of_decide_eq_true hbr
      refine l_guard_yes rfl rfl ?_
      refine l_move rfl rfl ?_
      refine l_guard_yes rfl rfl ?_
      refine l_move rfl rfl ?_
      refine l_guard_yes rfl rfl ?_
      refine l_eql rfl rfl rfl ?_
      refine l_pick_t rfl rfl rfl ?_
      refine l_assign rfl rfl ?_
      refine l_nil ?_
      refine g_ret Try.func19 rfl (.tmp rfl .nil) ?_
      exact Gives.mki ⟨(by first | rfl | exact congrArg Value.bool (decide_eq_true rfl) | (simp [resVal]; done)), rfl⟩
    · intro hbr
      have hbr := of_decide_eq_false hbr
      (exfalso; first | omega | (simp at hbr; done))
  intro hbr
  have hbr := of_decide_eq_false hbr
  refine g_skip ?_
  refine g_inBlock ?_
  refine g_seq ?_
  refine g_region ?_
  refine l_assign rfl rfl ?_
  refine l_nil ?_
  refine g_ret Try.func19 rfl (.tmp rfl .nil) ?_
  exact Gives.mki ⟨(by first | rfl | exact congrArg Value.bool (decide_eq_true rfl) | (simp [resVal]; done)), rfl⟩
set_option maxHeartbeats 16000000 in
theorem writes_ok (w0 : World) (F : List Atom) (xw : Nat) (S : WS) (T : Nat) (hS : SOk S T) (hT : T ≤ 2147483700) (hN1 : 1 ≤ S.N) (kd : Int) (kd0 : -9223372036854775808 ≤ kd) (kd1 : kd ≤ 9223372036854775807) (who : Int) (who0 : -9223372036854775808 ≤ who) (who1 : who ≤ 9223372036854775807) (oa : Int) (oa0 : -9223372036854775808 ≤ oa) (oa1 : oa ≤ 9223372036854775807) (ob : Int) (ob0 : -9223372036854775808 ≤ ob) (ob1 : ob ≤ 9223372036854775807) (ow : Int) (ow0 : 0 ≤ ow) (ow1 : ow ≤ 4294967295) (ov : Int) (ov0 : 0 ≤ ov) (ov1 : ov ≤ 4294967295) (on : Int) (on0 : 0 ≤ on) (on1 : on ≤ 18446744073709551615) (ba : Option Addr) (nb bc : Nat) (Z : List Int) (hZ : RA w0 F .u8 ba nb bc Z) (hbc : nb ≤ bc) (hZU : U8s Z) (wa : Option Addr) (nw wc : Nat) (Y : List Int) (hY : RA w0 F .u32 wa nw wc Y) (hYU : W32s Y) (os : ByteArray) (hwt : os.size ≤ 2147483647 ∧ nb ≤ 2147483647 ∧ nw ≤ 536870911) :
    CallK Try.prog 21 [.pointer (some ⟨xw, 0, none⟩), .agg [Value.int .i64 kd, .int .i64 who, .int .i64 oa, .int .i64 ob, .int .u32 ow, .int .u32 ov, .int .u64 on, .slice ba nb bc, .slice wa nw wc, .string os].toArray] w0 (Blk xw (.cells [Value.slice S.wl S.N S.wc, .slice S.vl S.N S.vc, .slice S.rl S.M S.rc, .slice S.ql S.M S.qc, .slice S.ka8 S.K8 S.kc8, .slice S.ka S.K S.kc].toArray 51 (0, 0)) :: Own 61 1 (.slice S.wl S.N S.wc) S.N (ptrs S.N fun j => (S.W j).bw) :: Own 88 1 (.slice S.vl S.N S.vc) S.N (ptrs S.N fun j => (S.W j).bx) :: Own 69 1 (.slice S.rl S.M S.rc) S.M (ptrs S.M fun j => (S.R j).bq) :: Own 92 1 (.slice S.ql S.M S.qc) S.M (ptrs S.M fun j => (S.R j).by_) :: BigF S.N (fun j => wrA (S.W j)) :: BigF S.M (fun j => rdA (S.R j)) :: Own 102 4 (.slice S.ka8 S.K8 S.kc8) S.K8 (rowsN S.K8 (fun j => bkR8 (S.B8 j))) :: BigF S.K8 (fun j => bkA8 (S.B8 j)) :: Own 104 4 (.slice S.ka S.K S.kc) S.K (rowsN S.K (fun j => bkR (S.B j))) :: BigF S.K (fun j => bkA (S.B j)) :: F) (Gives w0 fun v F2 => ∃ S' : WS, v = .bool true ∧ SOk S' (T + 8 + os.size) ∧ (S.N ≤ S'.N ∧ S.M ≤ S'.M) ∧ F2 = Blk xw (.cells [Value.slice S'.wl S'.N S'.wc, .slice S'.vl S'.N S'.vc, .slice S'.rl S'.M S'.rc, .slice S'.ql S'.M S'.qc, .slice S'.ka8 S'.K8 S'.kc8, .slice S'.ka S'.K S'.kc].toArray 51 (0, 0)) :: Own 61 1 (.slice S'.wl S'.N S'.wc) S'.N (ptrs S'.N fun j => (S'.W j).bw) :: Own 88 1 (.slice S'.vl S'.N S'.vc) S'.N (ptrs S'.N fun j => (S'.W j).bx) :: Own 69 1 (.slice S'.rl S'.M S'.rc) S'.M (ptrs S'.M fun j => (S'.R j).bq) :: Own 92 1 (.slice S'.ql S'.M S'.qc) S'.M (ptrs S'.M fun j => (S'.R j).by_) :: BigF S'.N (fun j => wrA (S'.W j)) :: BigF S'.M (fun j => rdA (S'.R j)) :: Own 102 4 (.slice S'.ka8 S'.K8 S'.kc8) S'.K8 (rowsN S'.K8 (fun j => bkR8 (S'.B8 j))) :: BigF S'.K8 (fun j => bkA8 (S'.B8 j)) :: Own 104 4 (.slice S'.ka S'.K S'.kc) S'.K (rowsN S'.K (fun j => bkR (S'.B j))) :: BigF S'.K (fun j => bkA (S'.B j)) :: F) := by
  obtain ⟨i, hi⟩ : ∃ q : Nat, pickV who (S.N : Int) = (q : Int) := ⟨(pickV who (S.N : Int)).toNat, by have := @pickV_bd who (S.N : Int) (by omega); omega⟩
  have hiN : i < S.N := by have := @pickV_bd who (S.N : Int) (by omega); omega
  obtain ⟨w, hw⟩ : ∃ q, S.W i = q := ⟨_, rfl⟩
  have hwo := hS.hW i hiN
  rw [hw] at hwo
  have hfit := hwo.fit
  have hNT := hS.hN
  obtain ⟨gl, hgl⟩ := hS.hwl.resolve_left (by omega)
  obtain ⟨gv, hgv⟩ := hS.hvl.resolve_left (by omega)
  refine c_enter Try.func21 rfl rfl rfl ?_
  refine g_seq ?_
  refine g_region ?_
  refine l_boxs rfl rfl ?_; intro b3
  refine l_assign rfl rfl ?_
  refine l_nil ?_
  refine g_seq ?_
  refine gp_start mo (by kernel_rfl) (by kernel_rfl) ?_
  rw [hgl, hgv]
  refine gp_quiet 0 rfl rfl rfl rfl rfl rfl (q_fieldAddr fa_56_1 rfl) ?_
  first | refine gp_quiet 1 rfl rfl rfl rfl rfl rfl (q_ld Try.isAgg3 rfl rfl) ?_ | refine gp_quiet 1 rfl rfl rfl rfl rfl rfl (q_ldw Try.isAgg3 rfl (by omega)) ?_
  refine gp_quiet 2 rfl rfl rfl rfl rfl rfl (q_move rfl) ?_
  refine gp_quiet 3 rfl rfl rfl rfl rfl rfl (q_nilCheck rfl) ?_
  refine gp_quiet 4 rfl rfl rfl rfl rfl rfl (q_fieldAddr fa_51_0 rfl) ?_
  refine gp_quiet 5 rfl rfl rfl rfl rfl rfl (q_ld Try.isAgg42 rfl rfl) ?_
  refine gp_quiet 6 rfl rfl rfl rfl rfl rfl (q_len Try.underlying42 rfl) ?_
  refine gp_effa 7 [1, 6] [5, 4, 3, 2, 0] rfl rfl rfl rfl rfl rfl rfl (does_call Try.call14 rfl (pick_ok _ _ who (by omega) (by omega) (S.N : Int) (by omega) (by omega))) ?_
  rintro _ _ ⟨rfl, rfl⟩
  rw [hi]
  refine ⟨?_, ?_⟩
  · refine .cons rfl rfl rfl rfl rfl (q_ld Try.isAgg42 rfl rfl) ?_
    refine .cons rfl rfl rfl rfl rfl (q_fieldAddr fa_51_0 rfl) ?_
    refine .cons rfl rfl rfl rfl rfl (q_nilCheck rfl) ?_
    refine .cons rfl rfl rfl rfl rfl (q_move rfl) ?_
    refine .cons rfl rfl rfl rfl rfl (q_fieldAddr fa_56_1 rfl) ?_
    exact .nil
  refine gp_quiet 8 rfl rfl rfl rfl rfl rfl (q_assign rfl) ?_
  refine gp_end rfl rfl ?_
  refine g_seq ?_
  refine g_seq ?_
  refine g_region ?_
  refine l_take (BigF S.N (fun j => wrA (S.W j))) ?_
  refine l_openw hiN hw ?_
  refine l_fieldAddr rfl fa_56_0 rfl ?_
  first | refine l_ld rfl Try.isAgg3 rfl rfl ?_ | refine l_ldw rfl Try.isAgg3 rfl (by omega) ?_
  refine l_nil ?_
  refine g_block ?_
  refine g_seq ?_
  refine g_region ?_
  refine l_eql rfl rfl rfl ?_
  refine l_assign rfl rfl ?_
  refine l_nil ?_
  refine g_cond rfl ?_ ?_
  · intro hbr
    have hbr := of_decide_eq_true hbr
    refine g_seq ?_
    refine gp_start mo (by kernel_rfl) (by kernel_rfl) ?_
    refine gp_quiet 0 rfl rfl rfl rfl rfl rfl (q_move rfl) ?_
    refine gp_quiet 1 rfl rfl rfl rfl rfl rfl (q_nilCheck rfl) ?_
    refine gp_quiet 2 rfl rfl rfl rfl rfl rfl (q_fieldAddr fa_51_0 rfl) ?_
    refine gp_quiet 3 rfl rfl rfl rfl rfl rfl (q_ld Try.isAgg42 rfl rfl) ?_
    refine gp_quiet 4 rfl rfl rfl rfl rfl rfl (q_move rfl) ?_
    refine gp_quiet 5 rfl rfl rfl rfl rfl rfl (q_ixs Try.underlying42 Try.sizeOf61 rfl rfl (by omega) (by omega)) ?_
    refine gp_quiet 6 rfl rfl rfl rfl rfl rfl (q_loadc (v := .pointer (some ⟨w.bw, 0, none⟩)) Try.isAgg61 rfl (ptr_cell (f := fun j => (S.W j).bw) (by first | exact mem_getO 0 rfl | exact mem_getO 1 rfl | exact mem_getO 2 rfl | exact mem_getO 3 rfl | exact mem_getO 4 rfl | exact mem_getO 5 rfl | exact mem_getO 6 rfl | exact mem_getO 7 rfl | exact mem_getO 8 rfl | exact mem_getO 9 rfl | exact mem_getO 10 rfl | exact mem_getO 11 rfl | exact mem_getO 12 rfl | exact mem_getO 13 rfl | exact mem_getO 14 rfl | exact mem_getO 15 rfl | exact mem_getO 16 rfl | exact mem_getO 17 rfl | exact mem_getO 18 rfl | exact mem_getO 19 rfl | exact mem_getO 20 rfl | exact mem_getO 21 rfl | exact mem_getO 22 rfl | exact mem_getO 23 rfl | exact mem_getO 24 rfl | exact mem_getO 25 rfl) hiN (congrArg WR.bw hw))) ?_
    refine gp_quiet 7 rfl rfl rfl rfl rfl rfl (q_fieldAddr fa_56_5 rfl) ?_
    first | refine gp_quiet 8 rfl rfl rfl rfl rfl rfl (q_ld Try.isAgg23 rfl rfl) ?_ | refine gp_quiet 8 rfl rfl rfl rfl rfl rfl (q_ldw Try.isAgg23 rfl (by omega)) ?_
    first | refine gp_quiet 9 rfl rfl rfl rfl rfl rfl (q_conv Try.underlying23 Try.underlying5 rfl (w_u8 (by omega) (by omega))) ?_ | refine gp_quiet 9 rfl rfl rfl rfl rfl rfl (q_convm (m := 256) wr_u8 Try.underlying23 Try.underlying5 rfl) ?_
    refine gp_take (Own 5 1 (.slice w.a w.n w.c) w.n (ints .u8 w.B)) ?_
    refine gp_take (Blk w.br (.cells [Value.slice w.a w.n w.c, .int .i64 0].toArray 109 (0, 0))) ?_
    refine gp_take (Blk w.bw (.cells [Value.pointer (some ⟨w.br, 0, none⟩)].toArray 111 (0, 0))) ?_
    refine gp_effa 10 [6, 9] [8, 7, 5, 4, 3, 2, 1, 0] rfl rfl rfl rfl rfl rfl rfl (does_call Try.call40 rfl (u8_ok _ _ w.bw w.br w.a w.n w.c w.B hwo.len hwo.ha (by omega) (ov % 256) (by omega) (by omega) (w.B ++ lowB (ov % 256) 1) rfl)) ?_
    rintro _ _ ⟨a1, c1, ha1, rfl⟩
    refine ⟨?_, ?_⟩
    · first | refine .cons rfl rfl rfl rfl rfl (q_ld Try.isAgg23 rfl rfl) ?_ | refine .cons rfl rfl rfl rfl rfl (q_ldw Try.isAgg23 rfl (by omega)) ?_
      refine .cons rfl rfl rfl rfl rfl (q_fieldAddr fa_56_5 rfl) ?_
      refine .cons rfl rfl rfl rfl rfl (q_ixs Try.underlying42 Try.sizeOf61 rfl rfl (by omega) (by omega)) ?_
      refine .cons rfl rfl rfl rfl rfl (q_move rfl) ?_
      refine .cons rfl rfl rfl rfl rfl (q_ld Try.isAgg42 rfl rfl) ?_
      refine .cons rfl rfl rfl rfl rfl (q_fieldAddr fa_51_0 rfl) ?_
      refine .cons rfl rfl rfl rfl rfl (q_nilCheck rfl) ?_
      refine .cons rfl rfl rfl rfl rfl (q_move rfl) ?_
      exact .nil
    refine gp_end rfl rfl ?_
    refine gp_start mo (by kernel_rfl) (by kernel_rfl) ?_
    refine gp_quiet 0 rfl rfl rfl rfl rfl rfl (q_move rfl) ?_
    refine gp_quiet 1 rfl rfl rfl rfl rfl rfl (q_nilCheck rfl) ?_
    refine gp_quiet 2 rfl rfl rfl rfl rfl rfl (q_fieldAddr fa_51_1 rfl) ?_
    refine gp_quiet 3 rfl rfl rfl rfl rfl rfl (q_ld Try.isAgg43 rfl rfl) ?_
    refine gp_quiet 4 rfl rfl rfl rfl rfl rfl (q_move rfl) ?_
    refine gp_quiet 5 rfl rfl rfl rfl rfl rfl (q_ixs Try.underlying43 Try.sizeOf88 rfl rfl (by omega) (by omega)) ?_
    refine gp_quiet 6 rfl rfl rfl rfl rfl rfl (q_loadc (v := .pointer (some ⟨w.bx, 0, none⟩)) Try.isAgg88 rfl (ptr_cell (f := fun j => (S.W j).bx) (by first | exact mem_getO 0 rfl | exact mem_getO 1 rfl | exact mem_getO 2 rfl | exact mem_getO 3 rfl | exact mem_getO 4 rfl | exact mem_getO 5 rfl | exact mem_getO 6 rfl | exact mem_getO 7 rfl | exact mem_getO 8 rfl | exact mem_getO 9 rfl | exact mem_getO 10 rfl | exact mem_getO 11 rfl | exact mem_getO 12 rfl | exact mem_getO 13 rfl | exact mem_getO 14 rfl | exact mem_getO 15 rfl | exact mem_getO 16 rfl | exact mem_getO 17 rfl | exact mem_getO 18 rfl | exact mem_getO 19 rfl | exact mem_getO 20 rfl | exact mem_getO 21 rfl | exact mem_getO 22 rfl | exact mem_getO 23 rfl | exact mem_getO 24 rfl | exact mem_getO 25 rfl) hiN (congrArg WR.bx hw))) ?_
    refine gp_quiet 7 rfl rfl rfl rfl rfl rfl (q_fieldAddr fa_56_5 rfl) ?_
    first | refine gp_quiet 8 rfl rfl rfl rfl rfl rfl (q_ld Try.isAgg23 rfl rfl) ?_ | refine gp_quiet 8 rfl rfl rfl rfl rfl rfl (q_ldw Try.isAgg23 rfl (by omega)) ?_
    first | refine gp_quiet 9 rfl rfl rfl rfl rfl rfl (q_conv Try.underlying23 Try.underlying5 rfl (w_u8 (by omega) (by omega))) ?_ | refine gp_quiet 9 rfl rfl rfl rfl rfl rfl (q_convm (m := 256) wr_u8 Try.underlying23 Try.underlying5 rfl) ?_
    first | refine gp_quiet 10 rfl rfl rfl rfl rfl rfl (q_conv Try.underlying5 Try.underlying53 rfl (w_u64 (by omega) (by omega))) ?_ | refine gp_quiet 10 rfl rfl rfl rfl rfl rfl (q_convm (m := 18446744073709551616) wr_u64 Try.underlying5 Try.underlying53 rfl) ?_
    refine gp_take (Own 5 1 (.slice w.a2 w.n w.c2) w.n (ints .u8 w.B)) ?_
    refine gp_take (Blk w.bx (.cells [Value.slice w.a2 w.n w.c2].toArray 90 (0, 0))) ?_
    refine gp_effa 11 [6, 10] [9, 8, 7, 5, 4, 3, 2, 1, 0] rfl rfl rfl rfl rfl rfl rfl (does_call Try.call63 rfl (vnum_ok _ _ w.bx w.a2 w.n w.c2 w.B hwo.len hwo.ha2 (by omega) (ov % 256) 1 (by omega) (by omega) (by omega) (by omega) (w.B ++ lowB (ov % 256) 1) rfl (w.n + 1) rfl)) ?_
    rintro _ _ ⟨a3, c3, ha3, rfl⟩
    refine ⟨?_, ?_⟩
    · first | refine .cons rfl rfl rfl rfl rfl (q_conv Try.underlying23 Try.underlying5 rfl (w_u8 (by omega) (by omega))) ?_ | refine .cons rfl rfl rfl rfl rfl (q_convm (m := 256) wr_u8 Try.underlying23 Try.underlying5 rfl) ?_
      first | refine .cons rfl rfl rfl rfl rfl (q_ld Try.isAgg23 rfl rfl) ?_ | refine .cons rfl rfl rfl rfl rfl (q_ldw Try.isAgg23 rfl (by omega)) ?_
      refine .cons rfl rfl rfl rfl rfl (q_fieldAddr fa_56_5 rfl) ?_
      refine .cons rfl rfl rfl rfl rfl (q_ixs Try.underlying43 Try.sizeOf88 rfl rfl (by omega) (by omega)) ?_
      refine .cons rfl rfl rfl rfl rfl (q_move rfl) ?_
      refine .cons rfl rfl rfl rfl rfl (q_ld Try.isAgg43 rfl rfl) ?_
      refine .cons rfl rfl rfl rfl rfl (q_fieldAddr fa_51_1 rfl) ?_
      refine .cons rfl rfl rfl rfl rfl (q_nilCheck rfl) ?_
      refine .cons rfl rfl rfl rfl rfl (q_move rfl) ?_
      exact .nil
    refine gp_end rfl rfl ?_
    refine g_inBlock ?_
    refine g_seq ?_
    refine g_region ?_
    refine l_assign rfl rfl ?_
    refine l_nil ?_
    refine g_take (BigBut S.N i (fun j => wrA (S.W j))) ?_
    refine g_take (Own 5 1 (.slice a3 (w.n + 1) c3) (w.n + 1) (ints .u8 (w.B ++ lowB (ov % 256) 1))) ?_
    refine g_take (Blk w.bx (.cells [Value.slice a3 (w.n + 1) c3].toArray 90 (0, 0))) ?_
    refine g_take (Own 5 1 (.slice a1 (w.n + 1) c1) (w.n + 1) (ints .u8 (w.B ++ lowB (ov % 256) 1))) ?_
    refine g_take (Blk w.br (.cells [Value.slice a1 (w.n + 1) c1, .int .i64 0].toArray 109 (0, 0))) ?_
    refine g_take (Blk w.bw (.cells [Value.pointer (some ⟨w.br, 0, none⟩)].toArray 111 (0, 0))) ?_
    refine g_closew (w := ⟨w.bw, w.br, a1, c1, w.bx, a3, c3, (w.n + 1), (w.B ++ lowB (ov % 256) 1)⟩) ?_
    rw [ptrs_w (W := S.W) (N := S.N) (i := i) (w := ⟨w.bw, w.br, a1, c1, w.bx, a3, c3, (w.n + 1), (w.B ++ lowB (ov % 256) 1)⟩) (by rw [hw]), ptrs_v (W := S.W) (N := S.N) (i := i) (w := ⟨w.bw, w.br, a1, c1, w.bx, a3, c3, (w.n + 1), (w.B ++ lowB (ov % 256) 1)⟩) (by rw [hw]), ← hgl, ← hgv]
    refine g_ret Try.func21 rfl (.tmp rfl .nil) ?_
    exact Gives.mki ⟨⟨S.N, upF S.W i ⟨w.bw, w.br, a1, c1, w.bx, a3, c3, (w.n + 1), (w.B ++ lowB (ov % 256) 1)⟩, S.wl, S.wc, S.vl, S.vc, S.M, S.R, S.rl, S.rc, S.ql, S.qc, S.K8, S.B8, S.ka8, S.kc8, S.K, S.B, S.ka, S.kc⟩, (by first | rfl | exact congrArg Value.bool (decide_eq_true rfl) | (simp [resVal]; done)), ((hS.le (T2 := T + 8 + os.size) (by omega)).putW (i := i) (w := ⟨w.bw, w.br, a1, c1, w.bx, a3, c3, (w.n + 1), (w.B ++ lowB (ov % 256) 1)⟩) ⟨by simp only [List.length_append, lowB_len, bytesI_length, hwo.len] <;> omega, by simp only; omega, ha1, ha3, hwo.u.app (fun x hx => lowB_byte hx)⟩), ⟨Nat.le_refl _, Nat.le_refl _⟩, rfl⟩
  intro hbr
  have hbr := of_decide_eq_false hbr
  refine g_seq ?_
  refine g_region ?_
  refine l_eql rfl rfl rfl ?_
  refine l_assign rfl rfl ?_
  refine l_nil ?_
  refine g_cond rfl ?_ ?_
  · intro hbr
    have hbr := of_decide_eq_true hbr
    refine g_seq ?_
    refine gp_start mo (by kernel_rfl) (by kernel_rfl) ?_
    refine gp_quiet 0 rfl rfl rfl rfl rfl rfl (q_move rfl) ?_
    refine gp_quiet 1 rfl rfl rfl rfl rfl rfl (q_nilCheck rfl) ?_
    refine gp_quiet 2 rfl rfl rfl rfl rfl rfl (q_fieldAddr fa_51_0 rfl) ?_
    refine gp_quiet 3 rfl rfl rfl rfl rfl rfl (q_ld Try.isAgg42 rfl rfl) ?_
    refine gp_quiet 4 rfl rfl rfl rfl rfl rfl (q_move rfl) ?_
    refine gp_quiet 5 rfl rfl rfl rfl rfl rfl (q_ixs Try.underlying42 Try.sizeOf61 rfl rfl (by omega) (by omega)) ?_
    refine gp_quiet 6 rfl rfl rfl rfl rfl rfl (q_loadc (v := .pointer (some ⟨w.bw, 0, none⟩)) Try.isAgg61 rfl (ptr_cell (f := fun j => (S.W j).bw) (by first | exact mem_getO 0 rfl | exact mem_getO 1 rfl | exact mem_getO 2 rfl | exact mem_getO 3 rfl | exact mem_getO 4 rfl | exact mem_getO 5 rfl | exact mem_getO 6 rfl | exact mem_getO 7 rfl | exact mem_getO 8 rfl | exact mem_getO 9 rfl | exact mem_getO 10 rfl | exact mem_getO 11 rfl | exact mem_getO 12 rfl | exact mem_getO 13 rfl | exact mem_getO 14 rfl | exact mem_getO 15 rfl | exact mem_getO 16 rfl | exact mem_getO 17 rfl | exact mem_getO 18 rfl | exact mem_getO 19 rfl | exact mem_getO 20 rfl | exact mem_getO 21 rfl | exact mem_getO 22 rfl | exact mem_getO 23 rfl | exact mem_getO 24 rfl | exact mem_getO 25 rfl) hiN (congrArg WR.bw hw))) ?_
    refine gp_quiet 7 rfl rfl rfl rfl rfl rfl (q_fieldAddr fa_56_5 rfl) ?_
    first | refine gp_quiet 8 rfl rfl rfl rfl rfl rfl (q_ld Try.isAgg23 rfl rfl) ?_ | refine gp_quiet 8 rfl rfl rfl rfl rfl rfl (q_ldw Try.isAgg23 rfl (by omega)) ?_
    refine gp_take (Own 5 1 (.slice w.a w.n w.c) w.n (ints .u8 w.B)) ?_
    refine gp_take (Blk w.br (.cells [Value.slice w.a w.n w.c, .int .i64 0].toArray 109 (0, 0))) ?_
    refine gp_take (Blk w.bw (.cells [Value.pointer (some ⟨w.br, 0, none⟩)].toArray 111 (0, 0))) ?_
    refine gp_effa 9 [6, 8] [7, 5, 4, 3, 2, 1, 0] rfl rfl rfl rfl rfl rfl rfl (does_call Try.call45 rfl (u32_ok _ _ w.bw w.br w.a w.n w.c w.B hwo.len hwo.ha (by omega) ov (by omega) (by omega) (w.B ++ lowB ov 4) rfl)) ?_
    rintro _ _ ⟨a1, c1, ha1, rfl⟩
    refine ⟨?_, ?_⟩
    · refine .cons rfl rfl rfl rfl rfl (q_fieldAddr fa_56_5 rfl) ?_
      refine .cons rfl rfl rfl rfl rfl (q_ixs Try.underlying42 Try.sizeOf61 rfl rfl (by omega) (by omega)) ?_
      refine .cons rfl rfl rfl rfl rfl (q_move rfl) ?_
      refine .cons rfl rfl rfl rfl rfl (q_ld Try.isAgg42 rfl rfl) ?_
      refine .cons rfl rfl rfl rfl rfl (q_fieldAddr fa_51_0 rfl) ?_
      refine .cons rfl rfl rfl rfl rfl (q_nilCheck rfl) ?_
      refine .cons rfl rfl rfl rfl rfl (q_move rfl) ?_
      exact .nil
    refine gp_end rfl rfl ?_
    refine gp_start mo (by kernel_rfl) (by kernel_rfl) ?_
    refine gp_quiet 0 rfl rfl rfl rfl rfl rfl (q_move rfl) ?_
    refine gp_quiet 1 rfl rfl rfl rfl rfl rfl (q_nilCheck rfl) ?_
    refine gp_quiet 2 rfl rfl rfl rfl rfl rfl (q_fieldAddr fa_51_1 rfl) ?_
    refine gp_quiet 3 rfl rfl rfl rfl rfl rfl (q_ld Try.isAgg43 rfl rfl) ?_
    refine gp_quiet 4 rfl rfl rfl rfl rfl rfl (q_move rfl) ?_
    refine gp_quiet 5 rfl rfl rfl rfl rfl rfl (q_ixs Try.underlying43 Try.sizeOf88 rfl rfl (by omega) (by omega)) ?_
    refine gp_quiet 6 rfl rfl rfl rfl rfl rfl (q_loadc (v := .pointer (some ⟨w.bx, 0, none⟩)) Try.isAgg88 rfl (ptr_cell (f := fun j => (S.W j).bx) (by first | exact mem_getO 0 rfl | exact mem_getO 1 rfl | exact mem_getO 2 rfl | exact mem_getO 3 rfl | exact mem_getO 4 rfl | exact mem_getO 5 rfl | exact mem_getO 6 rfl | exact mem_getO 7 rfl | exact mem_getO 8 rfl | exact mem_getO 9 rfl | exact mem_getO 10 rfl | exact mem_getO 11 rfl | exact mem_getO 12 rfl | exact mem_getO 13 rfl | exact mem_getO 14 rfl | exact mem_getO 15 rfl | exact mem_getO 16 rfl | exact mem_getO 17 rfl | exact mem_getO 18 rfl | exact mem_getO 19 rfl | exact mem_getO 20 rfl | exact mem_getO 21 rfl | exact mem_getO 22 rfl | exact mem_getO 23 rfl | exact mem_getO 24 rfl | exact mem_getO 25 rfl) hiN (congrArg WR.bx hw))) ?_
    refine gp_quiet 7 rfl rfl rfl rfl rfl rfl (q_fieldAddr fa_56_5 rfl) ?_
    first | refine gp_quiet 8 rfl rfl rfl rfl rfl rfl (q_ld Try.isAgg23 rfl rfl) ?_ | refine gp_quiet 8 rfl rfl rfl rfl rfl rfl (q_ldw Try.isAgg23 rfl (by omega)) ?_
    first | refine gp_quiet 9 rfl rfl rfl rfl rfl rfl (q_conv Try.underlying23 Try.underlying53 rfl (w_u64 (by omega) (by omega))) ?_ | refine gp_quiet 9 rfl rfl rfl rfl rfl rfl (q_convm (m := 18446744073709551616) wr_u64 Try.underlying23 Try.underlying53 rfl) ?_
    refine gp_take (Own 5 1 (.slice w.a2 w.n w.c2) w.n (ints .u8 w.B)) ?_
    refine gp_take (Blk w.bx (.cells [Value.slice w.a2 w.n w.c2].toArray 90 (0, 0))) ?_
    refine gp_effa 10 [6, 9] [8, 7, 5, 4, 3, 2, 1, 0] rfl rfl rfl rfl rfl rfl rfl (does_call Try.call63 rfl (vnum_ok _ _ w.bx w.a2 w.n w.c2 w.B hwo.len hwo.ha2 (by omega) ov 4 (by omega) (by omega) (by omega) (by omega) (w.B ++ lowB ov 4) rfl (w.n + 4) rfl)) ?_
    rintro _ _ ⟨a3, c3, ha3, rfl⟩
    refine ⟨?_, ?_⟩
    · first | refine .cons rfl rfl rfl rfl rfl (q_ld Try.isAgg23 rfl rfl) ?_ | refine .cons rfl rfl rfl rfl rfl (q_ldw Try.isAgg23 rfl (by omega)) ?_
      refine .cons rfl rfl rfl rfl rfl (q_fieldAddr fa_56_5 rfl) ?_
      refine .cons rfl rfl rfl rfl rfl (q_ixs Try.underlying43 Try.sizeOf88 rfl rfl (by omega) (by omega)) ?_
      refine .cons rfl rfl rfl rfl rfl (q_move rfl) ?_
      refine .cons rfl rfl rfl rfl rfl (q_ld Try.isAgg43 rfl rfl) ?_
      refine .cons rfl rfl rfl rfl rfl (q_fieldAddr fa_51_1 rfl) ?_
      refine .cons rfl rfl rfl rfl rfl (q_nilCheck rfl) ?_
      refine .cons rfl rfl rfl rfl rfl (q_move rfl) ?_
      exact .nil
    refine gp_end rfl rfl ?_
    refine g_inBlock ?_
    refine g_seq ?_
    refine g_region ?_
    refine l_assign rfl rfl ?_
    refine l_nil ?_
    refine g_take (BigBut S.N i (fun j => wrA (S.W j))) ?_
    refine g_take (Own 5 1 (.slice a3 (w.n + 4) c3) (w.n + 4) (ints .u8 (w.B ++ lowB ov 4))) ?_
    refine g_take (Blk w.bx (.cells [Value.slice a3 (w.n + 4) c3].toArray 90 (0, 0))) ?_
    refine g_take (Own 5 1 (.slice a1 (w.n + 4) c1) (w.n + 4) (ints .u8 (w.B ++ lowB ov 4))) ?_
    refine g_take (Blk w.br (.cells [Value.slice a1 (w.n + 4) c1, .int .i64 0].toArray 109 (0, 0))) ?_
    refine g_take (Blk w.bw (.cells [Value.pointer (some ⟨w.br, 0, none⟩)].toArray 111 (0, 0))) ?_
    refine g_closew (w := ⟨w.bw, w.br, a1, c1, w.bx, a3, c3, (w.n + 4), (w.B ++ lowB ov 4)⟩) ?_
    rw [ptrs_w (W := S.W) (N := S.N) (i := i) (w := ⟨w.bw, w.br, a1, c1, w.bx, a3, c3, (w.n + 4), (w.B ++ lowB ov 4)⟩) (by rw [hw]), ptrs_v (W := S.W) (N := S.N) (i := i) (w := ⟨w.bw, w.br, a1, c1, w.bx, a3, c3, (w.n + 4), (w.B ++ lowB ov 4)⟩) (by rw [hw]), ← hgl, ← hgv]
    refine g_ret Try.func21 rfl (.tmp rfl .nil) ?_
    exact Gives.mki ⟨⟨S.N, upF S.W i ⟨w.bw, w.br, a1, c1, w.bx, a3, c3, (w.n + 4), (w.B ++ lowB ov 4)⟩, S.wl, S.wc, S.vl, S.vc, S.M, S.R, S.rl, S.rc, S.ql, S.qc, S.K8, S.B8, S.ka8, S.kc8, S.K, S.B, S.ka, S.kc⟩, (by first | rfl | exact congrArg Value.bool (decide_eq_true rfl) | (simp [resVal]; done)), ((hS.le (T2 := T + 8 + os.size) (by omega)).putW (i := i) (w := ⟨w.bw, w.br, a1, c1, w.bx, a3, c3, (w.n + 4), (w.B ++ lowB ov 4)⟩) ⟨by simp only [List.length_append, lowB_len, bytesI_length, hwo.len] <;> omega, by simp only; omega, ha1, ha3, hwo.u.app (fun x hx => lowB_byte hx)⟩), ⟨Nat.le_refl _, Nat.le_refl _⟩, rfl⟩
  intro hbr
  have hbr := of_decide_eq_false hbr
  refine g_seq ?_
  refine g_region ?_
  refine l_eql rfl rfl rfl ?_
  refine l_assign rfl rfl ?_
  refine l_nil ?_
  refine g_cond rfl ?_ ?_
  · intro hbr
    have hbr := of_decide_eq_true hbr
    refine g_seq ?_
    refine gp_start mo (by kernel_rfl) (by kernel_rfl) ?_
    refine gp_quiet 0 rfl rfl rfl rfl rfl rfl (q_move rfl) ?_
    refine gp_quiet 1 rfl rfl rfl rfl rfl rfl (q_nilCheck rfl) ?_
    refine gp_quiet 2 rfl rfl rfl rfl rfl rfl (q_fieldAddr fa_51_0 rfl) ?_
    refine gp_quiet 3 rfl rfl rfl rfl rfl rfl (q_ld Try.isAgg42 rfl rfl) ?_
    refine gp_quiet 4 rfl rfl rfl rfl rfl rfl (q_move rfl) ?_
    refine gp_quiet 5 rfl rfl rfl rfl rfl rfl (q_ixs Try.underlying42 Try.sizeOf61 rfl rfl (by omega) (by omega)) ?_
    refine gp_quiet 6 rfl rfl rfl rfl rfl rfl (q_loadc (v := .pointer (some ⟨w.bw, 0, none⟩)) Try.isAgg61 rfl (ptr_cell (f := fun j => (S.W j).bw) (by first | exact mem_getO 0 rfl | exact mem_getO 1 rfl | exact mem_getO 2 rfl | exact mem_getO 3 rfl | exact mem_getO 4 rfl | exact mem_getO 5 rfl | exact mem_getO 6 rfl | exact mem_getO 7 rfl | exact mem_getO 8 rfl | exact mem_getO 9 rfl | exact mem_getO 10 rfl | exact mem_getO 11 rfl | exact mem_getO 12 rfl | exact mem_getO 13 rfl | exact mem_getO 14 rfl | exact mem_getO 15 rfl | exact mem_getO 16 rfl | exact mem_getO 17 rfl | exact mem_getO 18 rfl | exact mem_getO 19 rfl | exact mem_getO 20 rfl | exact mem_getO 21 rfl | exact mem_getO 22 rfl | exact mem_getO 23 rfl | exact mem_getO 24 rfl | exact mem_getO 25 rfl) hiN (congrArg WR.bw hw))) ?_
    refine gp_quiet 7 rfl rfl rfl rfl rfl rfl (q_fieldAddr fa_56_6 rfl) ?_
    first | refine gp_quiet 8 rfl rfl rfl rfl rfl rfl (q_ld Try.isAgg53 rfl rfl) ?_ | refine gp_quiet 8 rfl rfl rfl rfl rfl rfl (q_ldw Try.isAgg53 rfl (by omega)) ?_
    refine gp_take (Own 5 1 (.slice w.a w.n w.c) w.n (ints .u8 w.B)) ?_
    refine gp_take (Blk w.br (.cells [Value.slice w.a w.n w.c, .int .i64 0].toArray 109 (0, 0))) ?_
    refine gp_take (Blk w.bw (.cells [Value.pointer (some ⟨w.br, 0, none⟩)].toArray 111 (0, 0))) ?_
    refine gp_effa 9 [6, 8] [7, 5, 4, 3, 2, 1, 0] rfl rfl rfl rfl rfl rfl rfl (does_call Try.call46 rfl (u64_ok _ _ w.bw w.br w.a w.n w.c w.B hwo.len hwo.ha (by omega) on (by omega) (by omega) (w.B ++ lowB on 8) rfl)) ?_
    rintro _ _ ⟨a1, c1, ha1, rfl⟩
    refine ⟨?_, ?_⟩
    · refine .cons rfl rfl rfl rfl rfl (q_fieldAddr fa_56_6 rfl) ?_
      refine .cons rfl rfl rfl rfl rfl (q_ixs Try.underlying42 Try.sizeOf61 rfl rfl (by omega) (by omega)) ?_
      refine .cons rfl rfl rfl rfl rfl (q_move rfl) ?_
      refine .cons rfl rfl rfl rfl rfl (q_ld Try.isAgg42 rfl rfl) ?_
      refine .cons rfl rfl rfl rfl rfl (q_fieldAddr fa_51_0 rfl) ?_
      refine .cons rfl rfl rfl rfl rfl (q_nilCheck rfl) ?_
      refine .cons rfl rfl rfl rfl rfl (q_move rfl) ?_
      exact .nil
    refine gp_end rfl rfl ?_
    refine gp_start mo (by kernel_rfl) (by kernel_rfl) ?_
    refine gp_quiet 0 rfl rfl rfl rfl rfl rfl (q_move rfl) ?_
    refine gp_quiet 1 rfl rfl rfl rfl rfl rfl (q_nilCheck rfl) ?_
    refine gp_quiet 2 rfl rfl rfl rfl rfl rfl (q_fieldAddr fa_51_1 rfl) ?_
    refine gp_quiet 3 rfl rfl rfl rfl rfl rfl (q_ld Try.isAgg43 rfl rfl) ?_
    refine gp_quiet 4 rfl rfl rfl rfl rfl rfl (q_move rfl) ?_
    refine gp_quiet 5 rfl rfl rfl rfl rfl rfl (q_ixs Try.underlying43 Try.sizeOf88 rfl rfl (by omega) (by omega)) ?_
    refine gp_quiet 6 rfl rfl rfl rfl rfl rfl (q_loadc (v := .pointer (some ⟨w.bx, 0, none⟩)) Try.isAgg88 rfl (ptr_cell (f := fun j => (S.W j).bx) (by first | exact mem_getO 0 rfl | exact mem_getO 1 rfl | exact mem_getO 2 rfl | exact mem_getO 3 rfl | exact mem_getO 4 rfl | exact mem_getO 5 rfl | exact mem_getO 6 rfl | exact mem_getO 7 rfl | exact mem_getO 8 rfl | exact mem_getO 9 rfl | exact mem_getO 10 rfl | exact mem_getO 11 rfl | exact mem_getO 12 rfl | exact mem_getO 13 rfl | exact mem_getO 14 rfl | exact mem_getO 15 rfl | exact mem_getO 16 rfl | exact mem_getO 17 rfl | exact mem_getO 18 rfl | exact mem_getO 19 rfl | exact mem_getO 20 rfl | exact mem_getO 21 rfl | exact mem_getO 22 rfl | exact mem_getO 23 rfl | exact mem_getO 24 rfl | exact mem_getO 25 rfl) hiN (congrArg WR.bx hw))) ?_
    refine gp_quiet 7 rfl rfl rfl rfl rfl rfl (q_fieldAddr fa_56_6 rfl) ?_
    first | refine gp_quiet 8 rfl rfl rfl rfl rfl rfl (q_ld Try.isAgg53 rfl rfl) ?_ | refine gp_quiet 8 rfl rfl rfl rfl rfl rfl (q_ldw Try.isAgg53 rfl (by omega)) ?_
    refine gp_take (Own 5 1 (.slice w.a2 w.n w.c2) w.n (ints .u8 w.B)) ?_
    refine gp_take (Blk w.bx (.cells [Value.slice w.a2 w.n w.c2].toArray 90 (0, 0))) ?_
    refine gp_effa 9 [6, 8] [7, 5, 4, 3, 2, 1, 0] rfl rfl rfl rfl rfl rfl rfl (does_call Try.call63 rfl (vnum_ok _ _ w.bx w.a2 w.n w.c2 w.B hwo.len hwo.ha2 (by omega) on 8 (by omega) (by omega) (by omega) (by omega) (w.B ++ lowB on 8) rfl (w.n + 8) rfl)) ?_
    rintro _ _ ⟨a3, c3, ha3, rfl⟩
    refine ⟨?_, ?_⟩
    · refine .cons rfl rfl rfl rfl rfl (q_fieldAddr fa_56_6 rfl) ?_
      refine .cons rfl rfl rfl rfl rfl (q_ixs Try.underlying43 Try.sizeOf88 rfl rfl (by omega) (by omega)) ?_
      refine .cons rfl rfl rfl rfl rfl (q_move rfl) ?_
      refine .cons rfl rfl rfl rfl rfl (q_ld Try.isAgg43 rfl rfl) ?_
      refine .cons rfl rfl rfl rfl rfl (q_fieldAddr fa_51_1 rfl) ?_
      refine .cons rfl rfl rfl rfl rfl (q_nilCheck rfl) ?_
      refine .cons rfl rfl rfl rfl rfl (q_move rfl) ?_
      exact .nil
    refine gp_end rfl rfl ?_
    refine g_inBlock ?_
    refine g_seq ?_
    refine g_region ?_
    refine l_assign rfl rfl ?_
    refine l_nil ?_
    refine g_take (BigBut S.N i (fun j => wrA (S.W j))) ?_
    refine g_take (Own 5 1 (.slice a3 (w.n + 8) c3) (w.n + 8) (ints .u8 (w.B ++ lowB on 8))) ?_
    refine g_take (Blk w.bx (.cells [Value.slice a3 (w.n + 8) c3].toArray 90 (0, 0))) ?_
    refine g_take (Own 5 1 (.slice a1 (w.n + 8) c1) (w.n + 8) (ints .u8 (w.B ++ lowB on 8))) ?_
    refine g_take (Blk w.br (.cells [Value.slice a1 (w.n + 8) c1, .int .i64 0].toArray 109 (0, 0))) ?_
    refine g_take (Blk w.bw (.cells [Value.pointer (some ⟨w.br, 0, none⟩)].toArray 111 (0, 0))) ?_
    refine g_closew (w := ⟨w.bw, w.br, a1, c1, w.bx, a3, c3, (w.n + 8), (w.B ++ lowB on 8)⟩) ?_
    rw [ptrs_w (W := S.W) (N := S.N) (i := i) (w := ⟨w.bw, w.br, a1, c1, w.bx, a3, c3, (w.n + 8), (w.B ++ lowB on 8)⟩) (by rw [hw]), ptrs_v (W := S.W) (N := S.N) (i := i) (w := ⟨w.bw, w.br, a1, c1, w.bx, a3, c3, (w.n + 8), (w.B ++ lowB on 8)⟩) (by rw [hw]), ← hgl, ← hgv]
    refine g_ret Try.func21 rfl (.tmp rfl .nil) ?_
    exact Gives.mki ⟨⟨S.N, upF S.W i ⟨w.bw, w.br, a1, c1, w.bx, a3, c3, (w.n + 8), (w.B ++ lowB on 8)⟩, S.wl, S.wc, S.vl, S.vc, S.M, S.R, S.rl, S.rc, S.ql, S.qc, S.K8, S.B8, S.ka8, S.kc8, S.K, S.B, S.ka, S.kc⟩, (by first | rfl | exact congrArg Value.bool (decide_eq_true rfl) | (simp [resVal]; done)), ((hS.le (T2 := T + 8 + os.size) (by omega)).putW (i := i) (w := ⟨w.bw, w.br, a1, c1, w.bx, a3, c3, (w.n + 8), (w.B ++ lowB on 8)⟩) ⟨by simp only [List.length_append, lowB_len, bytesI_length, hwo.len] <;> omega, by simp only; omega, ha1, ha3, hwo.u.app (fun x hx => lowB_byte hx)⟩), ⟨Nat.le_refl _, Nat.le_refl _⟩, rfl⟩
  intro hbr
  have hbr := of_decide_eq_false hbr
  refine g_seq ?_
  refine g_region ?_
  refine l_eql rfl rfl rfl ?_
  refine l_assign rfl rfl ?_
  refine l_nil ?_
  refine g_cond rfl ?_ ?_
  · intro hbr
    have hbr := of_decide_eq_true hbr
    refine g_seq ?_
    refine gp_start mo (by kernel_rfl) (by kernel_rfl) ?_
    refine gp_quiet 0 rfl rfl rfl rfl rfl rfl (q_move rfl) ?_
    refine gp_quiet 1 rfl rfl rfl rfl rfl rfl (q_nilCheck rfl) ?_
    refine gp_quiet 2 rfl rfl rfl rfl rfl rfl (q_fieldAddr fa_51_0 rfl) ?_
    refine gp_quiet 3 rfl rfl rfl rfl rfl rfl (q_ld Try.isAgg42 rfl rfl) ?_
    refine gp_quiet 4 rfl rfl rfl rfl rfl rfl (q_move rfl) ?_
    refine gp_quiet 5 rfl rfl rfl rfl rfl rfl (q_ixs Try.underlying42 Try.sizeOf61 rfl rfl (by omega) (by omega)) ?_
    refine gp_quiet 6 rfl rfl rfl rfl rfl rfl (q_loadc (v := .pointer (some ⟨w.bw, 0, none⟩)) Try.isAgg61 rfl (ptr_cell (f := fun j => (S.W j).bw) (by first | exact mem_getO 0 rfl | exact mem_getO 1 rfl | exact mem_getO 2 rfl | exact mem_getO 3 rfl | exact mem_getO 4 rfl | exact mem_getO 5 rfl | exact mem_getO 6 rfl | exact mem_getO 7 rfl | exact mem_getO 8 rfl | exact mem_getO 9 rfl | exact mem_getO 10 rfl | exact mem_getO 11 rfl | exact mem_getO 12 rfl | exact mem_getO 13 rfl | exact mem_getO 14 rfl | exact mem_getO 15 rfl | exact mem_getO 16 rfl | exact mem_getO 17 rfl | exact mem_getO 18 rfl | exact mem_getO 19 rfl | exact mem_getO 20 rfl | exact mem_getO 21 rfl | exact mem_getO 22 rfl | exact mem_getO 23 rfl | exact mem_getO 24 rfl | exact mem_getO 25 rfl) hiN (congrArg WR.bw hw))) ?_
    refine gp_quiet 7 rfl rfl rfl rfl rfl rfl (q_fieldAddr fa_56_9 rfl) ?_
    refine gp_quiet 8 rfl rfl rfl rfl rfl rfl (q_ld Try.isAgg9 rfl rfl) ?_
    refine gp_take (Own 5 1 (.slice w.a w.n w.c) w.n (ints .u8 w.B)) ?_
    refine gp_take (Blk w.br (.cells [Value.slice w.a w.n w.c, .int .i64 0].toArray 109 (0, 0))) ?_
    refine gp_take (Blk w.bw (.cells [Value.pointer (some ⟨w.br, 0, none⟩)].toArray 111 (0, 0))) ?_
    refine gp_effa 9 [6, 8] [7, 5, 4, 3, 2, 1, 0] rfl rfl rfl rfl rfl rfl rfl (does_call Try.call41 rfl (wtext_ok _ _ w.bw w.br w.a w.n w.c w.B hwo.len hwo.ha (by omega) os (by omega) (w.B ++ (lowB (os.size : Int) 4 ++ bytesI os)) rfl)) ?_
    rintro _ _ ⟨a1, c1, ha1, rfl⟩
    refine ⟨?_, ?_⟩
    · refine .cons rfl rfl rfl rfl rfl (q_fieldAddr fa_56_9 rfl) ?_
      refine .cons rfl rfl rfl rfl rfl (q_ixs Try.underlying42 Try.sizeOf61 rfl rfl (by omega) (by omega)) ?_
      refine .cons rfl rfl rfl rfl rfl (q_move rfl) ?_
      refine .cons rfl rfl rfl rfl rfl (q_ld Try.isAgg42 rfl rfl) ?_
      refine .cons rfl rfl rfl rfl rfl (q_fieldAddr fa_51_0 rfl) ?_
      refine .cons rfl rfl rfl rfl rfl (q_nilCheck rfl) ?_
      refine .cons rfl rfl rfl rfl rfl (q_move rfl) ?_
      exact .nil
    refine gp_end rfl rfl ?_
    refine gp_start mo (by kernel_rfl) (by kernel_rfl) ?_
    refine gp_quiet 0 rfl rfl rfl rfl rfl rfl (q_move rfl) ?_
    refine gp_quiet 1 rfl rfl rfl rfl rfl rfl (q_nilCheck rfl) ?_
    refine gp_quiet 2 rfl rfl rfl rfl rfl rfl (q_fieldAddr fa_51_1 rfl) ?_
    refine gp_quiet 3 rfl rfl rfl rfl rfl rfl (q_ld Try.isAgg43 rfl rfl) ?_
    refine gp_quiet 4 rfl rfl rfl rfl rfl rfl (q_move rfl) ?_
    refine gp_quiet 5 rfl rfl rfl rfl rfl rfl (q_ixs Try.underlying43 Try.sizeOf88 rfl rfl (by omega) (by omega)) ?_
    refine gp_quiet 6 rfl rfl rfl rfl rfl rfl (q_loadc (v := .pointer (some ⟨w.bx, 0, none⟩)) Try.isAgg88 rfl (ptr_cell (f := fun j => (S.W j).bx) (by first | exact mem_getO 0 rfl | exact mem_getO 1 rfl | exact mem_getO 2 rfl | exact mem_getO 3 rfl | exact mem_getO 4 rfl | exact mem_getO 5 rfl | exact mem_getO 6 rfl | exact mem_getO 7 rfl | exact mem_getO 8 rfl | exact mem_getO 9 rfl | exact mem_getO 10 rfl | exact mem_getO 11 rfl | exact mem_getO 12 rfl | exact mem_getO 13 rfl | exact mem_getO 14 rfl | exact mem_getO 15 rfl | exact mem_getO 16 rfl | exact mem_getO 17 rfl | exact mem_getO 18 rfl | exact mem_getO 19 rfl | exact mem_getO 20 rfl | exact mem_getO 21 rfl | exact mem_getO 22 rfl | exact mem_getO 23 rfl | exact mem_getO 24 rfl | exact mem_getO 25 rfl) hiN (congrArg WR.bx hw))) ?_
    refine gp_quiet 7 rfl rfl rfl rfl rfl rfl (q_fieldAddr fa_56_9 rfl) ?_
    refine gp_quiet 8 rfl rfl rfl rfl rfl rfl (q_ld Try.isAgg9 rfl rfl) ?_
    refine gp_take (Own 5 1 (.slice w.a2 w.n w.c2) w.n (ints .u8 w.B)) ?_
    refine gp_take (Blk w.bx (.cells [Value.slice w.a2 w.n w.c2].toArray 90 (0, 0))) ?_
    refine gp_effa 9 [6, 8] [7, 5, 4, 3, 2, 1, 0] rfl rfl rfl rfl rfl rfl rfl (does_call Try.call64 rfl (vtext_ok _ _ w.bx w.a2 w.n w.c2 w.B hwo.len hwo.ha2 (by omega) os (by omega) (w.B ++ (lowB (os.size : Int) 4 ++ bytesI os)) rfl)) ?_
    rintro _ _ ⟨a3, c3, ha3, rfl⟩
    refine ⟨?_, ?_⟩
    · refine .cons rfl rfl rfl rfl rfl (q_fieldAddr fa_56_9 rfl) ?_
      refine .cons rfl rfl rfl rfl rfl (q_ixs Try.underlying43 Try.sizeOf88 rfl rfl (by omega) (by omega)) ?_
      refine .cons rfl rfl rfl rfl rfl (q_move rfl) ?_
      refine .cons rfl rfl rfl rfl rfl (q_ld Try.isAgg43 rfl rfl) ?_
      refine .cons rfl rfl rfl rfl rfl (q_fieldAddr fa_51_1 rfl) ?_
      refine .cons rfl rfl rfl rfl rfl (q_nilCheck rfl) ?_
      refine .cons rfl rfl rfl rfl rfl (q_move rfl) ?_
      exact .nil
    refine gp_end rfl rfl ?_
    refine g_inBlock ?_
    refine g_seq ?_
    refine g_region ?_
    refine l_assign rfl rfl ?_
    refine l_nil ?_
    refine g_take (BigBut S.N i (fun j => wrA (S.W j))) ?_
    refine g_take (Own 5 1 (.slice a3 (w.n + 4 + os.size) c3) (w.n + 4 + os.size) (ints .u8 (w.B ++ (lowB (os.size : Int) 4 ++ bytesI os)))) ?_
    refine g_take (Blk w.bx (.cells [Value.slice a3 (w.n + 4 + os.size) c3].toArray 90 (0, 0))) ?_
    refine g_take (Own 5 1 (.slice a1 (w.n + 4 + os.size) c1) (w.n + 4 + os.size) (ints .u8 (w.B ++ (lowB (os.size : Int) 4 ++ bytesI os)))) ?_
    refine g_take (Blk w.br (.cells [Value.slice a1 (w.n + 4 + os.size) c1, .int .i64 0].toArray 109 (0, 0))) ?_
    refine g_take (Blk w.bw (.cells [Value.pointer (some ⟨w.br, 0, none⟩)].toArray 111 (0, 0))) ?_
    refine g_closew (w := ⟨w.bw, w.br, a1, c1, w.bx, a3, c3, (w.n + 4 + os.size), (w.B ++ (lowB (os.size : Int) 4 ++ bytesI os))⟩) ?_
    rw [ptrs_w (W := S.W) (N := S.N) (i := i) (w := ⟨w.bw, w.br, a1, c1, w.bx, a3, c3, (w.n + 4 + os.size), (w.B ++ (lowB (os.size : Int) 4 ++ bytesI os))⟩) (by rw [hw]), ptrs_v (W := S.W) (N := S.N) (i := i) (w := ⟨w.bw, w.br, a1, c1, w.bx, a3, c3, (w.n + 4 + os.size), (w.B ++ (lowB (os.size : Int) 4 ++ bytesI os))⟩) (by rw [hw]), ← hgl, ← hgv]
    refine g_ret Try.func21 rfl (.tmp rfl .nil) ?_
    exact Gives.mki ⟨⟨S.N, upF S.W i ⟨w.bw, w.br, a1, c1, w.bx, a3, c3, (w.n + 4 + os.size), (w.B ++ (lowB (os.size : Int) 4 ++ bytesI os))⟩, S.wl, S.wc, S.vl, S.vc, S.M, S.R, S.rl, S.rc, S.ql, S.qc, S.K8, S.B8, S.ka8, S.kc8, S.K, S.B, S.ka, S.kc⟩, (by first | rfl | exact congrArg Value.bool (decide_eq_true rfl) | (simp [resVal]; done)), ((hS.le (T2 := T + 8 + os.size) (by omega)).putW (i := i) (w := ⟨w.bw, w.br, a1, c1, w.bx, a3, c3, (w.n + 4 + os.size), (w.B ++ (lowB (os.size : Int) 4 ++ bytesI os))⟩) ⟨by simp only [List.length_append, lowB_len, bytesI_length, hwo.len] <;> omega, by simp only; omega, ha1, ha3, hwo.u.app (fun x hx => (List.mem_append.1 hx).elim (fun h => lowB_byte h) (fun h => bytesI_bd os x h))⟩), ⟨Nat.le_refl _, Nat.le_refl _⟩, rfl⟩
  intro hbr
  have hbr := of_decide_eq_false hbr
  refine g_seq ?_
  refine g_region ?_
  refine l_eql rfl rfl rfl ?_
  refine l_assign rfl rfl ?_
  refine l_nil ?_
  refine g_cond rfl ?_ ?_
  · intro hbr
    have hbr := of_decide_eq_true hbr
    refine g_seq ?_
    refine g_region ?_
    refine l_take (Own 5 1 (.slice w.a2 w.n w.c2) w.n (ints .u8 w.B)) ?_
    refine l_fact (own_cases (mem_getO 0 rfl)) ?_
    intro hown
    refine l_move rfl rfl ?_
    refine l_nilCheck rfl rfl ?_
    refine l_fieldAddr rfl fa_51_0 rfl ?_
    refine l_ld rfl Try.isAgg42 rfl rfl ?_
    refine l_move rfl rfl ?_
    refine l_ixs rfl Try.underlying42 Try.sizeOf61 rfl rfl (by omega) (by omega) ?_
    refine l_loadc (v := .pointer (some ⟨w.bw, 0, none⟩)) rfl Try.isAgg61 rfl (ptr_cell (f := fun j => (S.W j).bw) (by first | exact mem_getO 0 rfl | exact mem_getO 1 rfl | exact mem_getO 2 rfl | exact mem_getO 3 rfl | exact mem_getO 4 rfl | exact mem_getO 5 rfl | exact mem_getO 6 rfl | exact mem_getO 7 rfl | exact mem_getO 8 rfl | exact mem_getO 9 rfl | exact mem_getO 10 rfl | exact mem_getO 11 rfl | exact mem_getO 12 rfl | exact mem_getO 13 rfl | exact mem_getO 14 rfl | exact mem_getO 15 rfl | exact mem_getO 16 rfl | exact mem_getO 17 rfl | exact mem_getO 18 rfl | exact mem_getO 19 rfl | exact mem_getO 20 rfl | exact mem_getO 21 rfl | exact mem_getO 22 rfl | exact mem_getO 23 rfl | exact mem_getO 24 rfl | exact mem_getO 25 rfl) hiN (congrArg WR.bw hw)) ?_
    refine l_inl rfl Try.call27 rfl ?_
    refine c_enter Try.func27 rfl rfl rfl ?_
    refine g_seq ?_
    refine g_region ?_
    refine l_assign rfl rfl ?_
    refine l_nil ?_
    refine g_seq ?_
    refine g_seq ?_
    refine g_region ?_
    refine l_move rfl rfl ?_
    refine l_eqpn rfl Try.underlying61 rfl rfl ?_
    refine l_nil ?_
    first | refine g_cond_f rfl ?_ | refine g_cond_f (congrArg (fun b => some (Value.bool b)) (decide_eq_false hbr)) ?_
    refine g_skip ?_
    refine g_seq ?_
    refine g_region ?_
    refine l_move rfl rfl ?_
    refine l_nilCheck rfl rfl ?_
    refine l_fieldAddr rfl fa_111_0 rfl ?_
    refine l_ld rfl Try.isAgg107 rfl rfl ?_
    refine l_inl rfl Try.call72 rfl ?_
    refine c_enter Try.func72 rfl rfl rfl ?_
    refine g_seq ?_
    refine g_region ?_
    refine l_assign rfl rfl ?_
    refine l_nil ?_
    refine g_seq ?_
    refine g_seq ?_
    refine g_region ?_
    refine l_move rfl rfl ?_
    refine l_eqpn rfl Try.underlying107 rfl rfl ?_
    refine l_nil ?_
    first | refine g_cond_f rfl ?_ | refine g_cond_f (congrArg (fun b => some (Value.bool b)) (decide_eq_false hbr)) ?_
    refine g_skip ?_
    refine g_seq ?_
    refine g_region ?_
    refine l_move rfl rfl ?_
    refine l_nilCheck rfl rfl ?_
    refine l_fieldAddr rfl fa_109_0 rfl ?_
    refine l_ld rfl Try.isAgg36 rfl rfl ?_
    refine l_len rfl Try.underlying36 rfl ?_
    refine l_assign rfl rfl ?_
    refine l_nil ?_
    refine g_ret Try.func72 rfl (.tmp rfl .nil) ?_
    first | refine ⟨.int _ _, rfl, ?_⟩ | refine ⟨_, rfl, ?_⟩
    refine l_assign rfl rfl ?_
    refine l_nil ?_
    refine g_ret Try.func27 rfl (.tmp rfl .nil) ?_
    first | refine ⟨.int _ _, rfl, ?_⟩ | refine ⟨_, rfl, ?_⟩
    refine l_assign rfl rfl ?_
    refine l_nil ?_
    refine g_seq ?_
    refine g_region ?_
    refine l_move rfl rfl ?_
    refine l_nilCheck rfl rfl ?_
    refine l_fieldAddr rfl fa_51_0 rfl ?_
    refine l_ld rfl Try.isAgg42 rfl rfl ?_
    refine l_move rfl rfl ?_
    refine l_ixs rfl Try.underlying42 Try.sizeOf61 rfl rfl (by omega) (by omega) ?_
    refine l_loadc (v := .pointer (some ⟨w.bw, 0, none⟩)) rfl Try.isAgg61 rfl (ptr_cell (f := fun j => (S.W j).bw) (by first | exact mem_getO 0 rfl | exact mem_getO 1 rfl | exact mem_getO 2 rfl | exact mem_getO 3 rfl | exact mem_getO 4 rfl | exact mem_getO 5 rfl | exact mem_getO 6 rfl | exact mem_getO 7 rfl | exact mem_getO 8 rfl | exact mem_getO 9 rfl | exact mem_getO 10 rfl | exact mem_getO 11 rfl | exact mem_getO 12 rfl | exact mem_getO 13 rfl | exact mem_getO 14 rfl | exact mem_getO 15 rfl | exact mem_getO 16 rfl | exact mem_getO 17 rfl | exact mem_getO 18 rfl | exact mem_getO 19 rfl | exact mem_getO 20 rfl | exact mem_getO 21 rfl | exact mem_getO 22 rfl | exact mem_getO 23 rfl | exact mem_getO 24 rfl | exact mem_getO 25 rfl) hiN (congrArg WR.bw hw)) ?_
    refine l_take (Own 5 1 (.slice w.a w.n w.c) w.n (ints .u8 w.B)) ?_
    refine l_take (Blk w.br (.cells [Value.slice w.a w.n w.c, .int .i64 0].toArray 109 (0, 0))) ?_
    refine l_take (Blk w.bw (.cells [Value.pointer (some ⟨w.br, 0, none⟩)].toArray 111 (0, 0))) ?_
    refine l_call rfl Try.call28 rfl (out_ok _ _ w.bw w.br w.a w.n w.c w.B hwo.len hwo.ha (by omega)) ?_; rintro _ _ ⟨g7, rfl, rfl⟩
    refine l_assign rfl rfl ?_
    refine l_nil ?_
    refine g_seq ?_
    refine g_region ?_
    refine l_move rfl rfl ?_
    refine l_nilCheck rfl rfl ?_
    refine l_fieldAddr rfl fa_51_0 rfl ?_
    refine l_ld rfl Try.isAgg42 rfl rfl ?_
    refine l_move rfl rfl ?_
    refine l_ixs rfl Try.underlying42 Try.sizeOf61 rfl rfl (by omega) (by omega) ?_
    refine l_loadc (v := .pointer (some ⟨w.bw, 0, none⟩)) rfl Try.isAgg61 rfl (ptr_cell (f := fun j => (S.W j).bw) (by first | exact mem_getO 0 rfl | exact mem_getO 1 rfl | exact mem_getO 2 rfl | exact mem_getO 3 rfl | exact mem_getO 4 rfl | exact mem_getO 5 rfl | exact mem_getO 6 rfl | exact mem_getO 7 rfl | exact mem_getO 8 rfl | exact mem_getO 9 rfl | exact mem_getO 10 rfl | exact mem_getO 11 rfl | exact mem_getO 12 rfl | exact mem_getO 13 rfl | exact mem_getO 14 rfl | exact mem_getO 15 rfl | exact mem_getO 16 rfl | exact mem_getO 17 rfl | exact mem_getO 18 rfl | exact mem_getO 19 rfl | exact mem_getO 20 rfl | exact mem_getO 21 rfl | exact mem_getO 22 rfl | exact mem_getO 23 rfl | exact mem_getO 24 rfl | exact mem_getO 25 rfl) hiN (congrArg WR.bw hw)) ?_
    refine l_take (Own 5 1 (.slice w.a w.n w.c) w.n (ints .u8 w.B)) ?_
    refine l_take (Blk w.br (.cells [Value.slice w.a w.n w.c, .int .i64 0].toArray 109 (0, 0))) ?_
    refine l_take (Blk w.bw (.cells [Value.pointer (some ⟨w.br, 0, none⟩)].toArray 111 (0, 0))) ?_
    refine l_call rfl Try.call28 rfl (out_ok _ _ w.bw w.br w.a w.n w.c w.B hwo.len hwo.ha (by omega)) ?_; rintro _ _ ⟨g8, rfl, rfl⟩
    refine l_assign rfl rfl ?_
    refine l_nil ?_
    refine g_seq ?_
    refine gp_start mo (by kernel_rfl) (by kernel_rfl) ?_
    refine gp_quiet 0 rfl rfl rfl rfl rfl rfl (q_move rfl) ?_
    refine gp_quiet 1 rfl rfl rfl rfl rfl rfl (q_nilCheck rfl) ?_
    refine gp_quiet 2 rfl rfl rfl rfl rfl rfl (q_fieldAddr fa_51_4 rfl) ?_
    refine gp_quiet 3 rfl rfl rfl rfl rfl rfl (q_move rfl) ?_
    refine gp_quiet 4 rfl rfl rfl rfl rfl rfl (q_move rfl) ?_
    refine gp_quiet 5 rfl rfl rfl rfl rfl rfl (q_nilCheck rfl) ?_
    refine gp_quiet 6 rfl rfl rfl rfl rfl rfl (q_fieldAddr fa_51_1 rfl) ?_
    refine gp_quiet 7 rfl rfl rfl rfl rfl rfl (q_ld Try.isAgg43 rfl rfl) ?_
    refine gp_quiet 8 rfl rfl rfl rfl rfl rfl (q_move rfl) ?_
    refine gp_quiet 9 rfl rfl rfl rfl rfl rfl (q_ixs Try.underlying43 Try.sizeOf88 rfl rfl (by omega) (by omega)) ?_
    refine gp_quiet 10 rfl rfl rfl rfl rfl rfl (q_loadc (v := .pointer (some ⟨w.bx, 0, none⟩)) Try.isAgg88 rfl (ptr_cell (f := fun j => (S.W j).bx) (by first | exact mem_getO 0 rfl | exact mem_getO 1 rfl | exact mem_getO 2 rfl | exact mem_getO 3 rfl | exact mem_getO 4 rfl | exact mem_getO 5 rfl | exact mem_getO 6 rfl | exact mem_getO 7 rfl | exact mem_getO 8 rfl | exact mem_getO 9 rfl | exact mem_getO 10 rfl | exact mem_getO 11 rfl | exact mem_getO 12 rfl | exact mem_getO 13 rfl | exact mem_getO 14 rfl | exact mem_getO 15 rfl | exact mem_getO 16 rfl | exact mem_getO 17 rfl | exact mem_getO 18 rfl | exact mem_getO 19 rfl | exact mem_getO 20 rfl | exact mem_getO 21 rfl | exact mem_getO 22 rfl | exact mem_getO 23 rfl | exact mem_getO 24 rfl | exact mem_getO 25 rfl) hiN (congrArg WR.bx hw))) ?_
    refine gp_quiet 11 rfl rfl rfl rfl rfl rfl (q_nilCheck rfl) ?_
    refine gp_quiet 12 rfl rfl rfl rfl rfl rfl (q_fieldAddr fa_90_0 rfl) ?_
    refine gp_quiet 13 rfl rfl rfl rfl rfl rfl (q_ld Try.isAgg36 rfl rfl) ?_
    refine gp_take (Own 5 1 (.slice (some ⟨g7, 0, none⟩) w.n w.n) w.n (ints .u8 w.B)) ?_
    refine gp_take (BigF S.K8 (fun j => bkA8 (S.B8 j))) ?_
    refine gp_take (Own 102 4 (.slice S.ka8 S.K8 S.kc8) S.K8 (rowsN S.K8 (fun j => bkR8 (S.B8 j)))) ?_
    refine gp_take (Blk xw (.cells [Value.slice (some ⟨gl, 0, none⟩) S.N S.wc, .slice (some ⟨gv, 0, none⟩) S.N S.vc, .slice S.rl S.M S.rc, .slice S.ql S.M S.qc, .slice S.ka8 S.K8 S.kc8, .slice S.ka S.K S.kc].toArray 51 (0, 0))) ?_
    refine gp_effa 14 [2, 3, 13] [12, 11, 10, 9, 8, 7, 6, 5, 4, 1, 0] rfl rfl rfl rfl rfl rfl rfl (does_call Try.call57 rfl (keepw_ok8 _ _ xw _ _ _ _ _ S.ka8 S.K8 S.kc8 S.B8 hS.hB8 (by have := hS.hK8; omega) (some ⟨g7, 0, none⟩) w.a2 w.n w.n w.c2 w.B hwo.len (by omega) hwo.u (.inr ⟨_, rfl⟩) (Reads.own (E := 5) hown.1 (hown.2.2.imp id fun ⟨g, c, h, _⟩ => ⟨g, c, h⟩) (by first | exact mem_getO 0 rfl | exact mem_getO 1 rfl | exact mem_getO 2 rfl | exact mem_getO 3 rfl | exact mem_getO 4 rfl | exact mem_getO 5 rfl | exact mem_getO 6 rfl | exact mem_getO 7 rfl | exact mem_getO 8 rfl | exact mem_getO 9 rfl | exact mem_getO 10 rfl | exact mem_getO 11 rfl | exact mem_getO 12 rfl | exact mem_getO 13 rfl | exact mem_getO 14 rfl | exact mem_getO 15 rfl | exact mem_getO 16 rfl | exact mem_getO 17 rfl | exact mem_getO 18 rfl | exact mem_getO 19 rfl | exact mem_getO 20 rfl | exact mem_getO 21 rfl | exact mem_getO 22 rfl | exact mem_getO 23 rfl | exact mem_getO 24 rfl | exact mem_getO 25 rfl)))) ?_
    rintro _ _ ⟨B1, ka1, kc1, rfl, hB1, hka1, rfl⟩
    refine ⟨?_, ?_⟩
    · refine .cons rfl rfl rfl rfl rfl (q_fieldAddr fa_90_0 rfl) ?_
      refine .cons rfl rfl rfl rfl rfl (q_nilCheck rfl) ?_
      refine .cons rfl rfl rfl rfl rfl (q_loadc (v := .pointer (some ⟨w.bx, 0, none⟩)) Try.isAgg88 rfl (ptr_cell (f := fun j => (S.W j).bx) (by first | exact mem_getO 0 rfl | exact mem_getO 1 rfl | exact mem_getO 2 rfl | exact mem_getO 3 rfl | exact mem_getO 4 rfl | exact mem_getO 5 rfl | exact mem_getO 6 rfl | exact mem_getO 7 rfl | exact mem_getO 8 rfl | exact mem_getO 9 rfl | exact mem_getO 10 rfl | exact mem_getO 11 rfl | exact mem_getO 12 rfl | exact mem_getO 13 rfl | exact mem_getO 14 rfl | exact mem_getO 15 rfl | exact mem_getO 16 rfl | exact mem_getO 17 rfl | exact mem_getO 18 rfl | exact mem_getO 19 rfl | exact mem_getO 20 rfl | exact mem_getO 21 rfl | exact mem_getO 22 rfl | exact mem_getO 23 rfl | exact mem_getO 24 rfl | exact mem_getO 25 rfl) hiN (congrArg WR.bx hw))) ?_
      refine .cons rfl rfl rfl rfl rfl (q_ixs Try.underlying43 Try.sizeOf88 rfl rfl (by omega) (by omega)) ?_
      refine .cons rfl rfl rfl rfl rfl (q_move rfl) ?_
      refine .cons rfl rfl rfl rfl rfl (q_ld Try.isAgg43 rfl rfl) ?_
      refine .cons rfl rfl rfl rfl rfl (q_fieldAddr fa_51_1 rfl) ?_
      refine .cons rfl rfl rfl rfl rfl (q_nilCheck rfl) ?_
      refine .cons rfl rfl rfl rfl rfl (q_move rfl) ?_
      refine .cons rfl rfl rfl rfl rfl (q_nilCheck rfl) ?_
      refine .cons rfl rfl rfl rfl rfl (q_move rfl) ?_
      exact .nil
    refine gp_quiet 15 rfl rfl rfl rfl rfl rfl (q_assign rfl) ?_
    refine gp_end rfl rfl ?_
    refine g_seq ?_
    refine gp_start mo (by kernel_rfl) (by kernel_rfl) ?_
    refine gp_quiet 0 rfl rfl rfl rfl rfl rfl (q_move rfl) ?_
    refine gp_quiet 1 rfl rfl rfl rfl rfl rfl (q_nilCheck rfl) ?_
    refine gp_quiet 2 rfl rfl rfl rfl rfl rfl (q_fieldAddr fa_51_4 rfl) ?_
    refine gp_quiet 3 rfl rfl rfl rfl rfl rfl (q_move rfl) ?_
    refine gp_quiet 4 rfl rfl rfl rfl rfl rfl (q_move rfl) ?_
    refine gp_quiet 5 rfl rfl rfl rfl rfl rfl (q_nilCheck rfl) ?_
    refine gp_quiet 6 rfl rfl rfl rfl rfl rfl (q_fieldAddr fa_51_1 rfl) ?_
    refine gp_quiet 7 rfl rfl rfl rfl rfl rfl (q_ld Try.isAgg43 rfl rfl) ?_
    refine gp_quiet 8 rfl rfl rfl rfl rfl rfl (q_move rfl) ?_
    refine gp_quiet 9 rfl rfl rfl rfl rfl rfl (q_ixs Try.underlying43 Try.sizeOf88 rfl rfl (by omega) (by omega)) ?_
    refine gp_quiet 10 rfl rfl rfl rfl rfl rfl (q_loadc (v := .pointer (some ⟨w.bx, 0, none⟩)) Try.isAgg88 rfl (ptr_cell (f := fun j => (S.W j).bx) (by first | exact mem_getO 0 rfl | exact mem_getO 1 rfl | exact mem_getO 2 rfl | exact mem_getO 3 rfl | exact mem_getO 4 rfl | exact mem_getO 5 rfl | exact mem_getO 6 rfl | exact mem_getO 7 rfl | exact mem_getO 8 rfl | exact mem_getO 9 rfl | exact mem_getO 10 rfl | exact mem_getO 11 rfl | exact mem_getO 12 rfl | exact mem_getO 13 rfl | exact mem_getO 14 rfl | exact mem_getO 15 rfl | exact mem_getO 16 rfl | exact mem_getO 17 rfl | exact mem_getO 18 rfl | exact mem_getO 19 rfl | exact mem_getO 20 rfl | exact mem_getO 21 rfl | exact mem_getO 22 rfl | exact mem_getO 23 rfl | exact mem_getO 24 rfl | exact mem_getO 25 rfl) hiN (congrArg WR.bx hw))) ?_
    refine gp_quiet 11 rfl rfl rfl rfl rfl rfl (q_nilCheck rfl) ?_
    refine gp_quiet 12 rfl rfl rfl rfl rfl rfl (q_fieldAddr fa_90_0 rfl) ?_
    refine gp_quiet 13 rfl rfl rfl rfl rfl rfl (q_ld Try.isAgg36 rfl rfl) ?_
    refine gp_take (Own 5 1 (.slice (some ⟨g8, 0, none⟩) w.n w.n) w.n (ints .u8 w.B)) ?_
    refine gp_take (BigF (S.K8 + 1) (fun j => bkA8 (B1 j))) ?_
    refine gp_take (Own 102 4 (.slice ka1 (S.K8 + 1) kc1) (S.K8 + 1) (rowsN (S.K8 + 1) (fun j => bkR8 (B1 j)))) ?_
    refine gp_take (Blk xw (.cells [Value.slice (some ⟨gl, 0, none⟩) S.N S.wc, .slice (some ⟨gv, 0, none⟩) S.N S.vc, .slice S.rl S.M S.rc, .slice S.ql S.M S.qc, .slice ka1 (S.K8 + 1) kc1, .slice S.ka S.K S.kc].toArray 51 (0, 0))) ?_
    refine gp_effa 14 [2, 3, 13] [12, 11, 10, 9, 8, 7, 6, 5, 4, 1, 0] rfl rfl rfl rfl rfl rfl rfl (does_call Try.call57 rfl (keepw_ok8 _ _ xw _ _ _ _ _ ka1 (S.K8 + 1) kc1 B1 hB1 (by have := hS.hK8; omega) (some ⟨g8, 0, none⟩) w.a2 w.n w.n w.c2 w.B hwo.len (by omega) hwo.u (.inr ⟨_, rfl⟩) (Reads.own (E := 5) hown.1 (hown.2.2.imp id fun ⟨g, c, h, _⟩ => ⟨g, c, h⟩) (by first | exact mem_getO 0 rfl | exact mem_getO 1 rfl | exact mem_getO 2 rfl | exact mem_getO 3 rfl | exact mem_getO 4 rfl | exact mem_getO 5 rfl | exact mem_getO 6 rfl | exact mem_getO 7 rfl | exact mem_getO 8 rfl | exact mem_getO 9 rfl | exact mem_getO 10 rfl | exact mem_getO 11 rfl | exact mem_getO 12 rfl | exact mem_getO 13 rfl | exact mem_getO 14 rfl | exact mem_getO 15 rfl | exact mem_getO 16 rfl | exact mem_getO 17 rfl | exact mem_getO 18 rfl | exact mem_getO 19 rfl | exact mem_getO 20 rfl | exact mem_getO 21 rfl | exact mem_getO 22 rfl | exact mem_getO 23 rfl | exact mem_getO 24 rfl | exact mem_getO 25 rfl)))) ?_
    rintro _ _ ⟨B2, ka2, kc2, rfl, hB2, hka2, rfl⟩
    refine ⟨?_, ?_⟩
    · refine .cons rfl rfl rfl rfl rfl (q_fieldAddr fa_90_0 rfl) ?_
      refine .cons rfl rfl rfl rfl rfl (q_nilCheck rfl) ?_
      refine .cons rfl rfl rfl rfl rfl (q_loadc (v := .pointer (some ⟨w.bx, 0, none⟩)) Try.isAgg88 rfl (ptr_cell (f := fun j => (S.W j).bx) (by first | exact mem_getO 0 rfl | exact mem_getO 1 rfl | exact mem_getO 2 rfl | exact mem_getO 3 rfl | exact mem_getO 4 rfl | exact mem_getO 5 rfl | exact mem_getO 6 rfl | exact mem_getO 7 rfl | exact mem_getO 8 rfl | exact mem_getO 9 rfl | exact mem_getO 10 rfl | exact mem_getO 11 rfl | exact mem_getO 12 rfl | exact mem_getO 13 rfl | exact mem_getO 14 rfl | exact mem_getO 15 rfl | exact mem_getO 16 rfl | exact mem_getO 17 rfl | exact mem_getO 18 rfl | exact mem_getO 19 rfl | exact mem_getO 20 rfl | exact mem_getO 21 rfl | exact mem_getO 22 rfl | exact mem_getO 23 rfl | exact mem_getO 24 rfl | exact mem_getO 25 rfl) hiN (congrArg WR.bx hw))) ?_
      refine .cons rfl rfl rfl rfl rfl (q_ixs Try.underlying43 Try.sizeOf88 rfl rfl (by omega) (by omega)) ?_
      refine .cons rfl rfl rfl rfl rfl (q_move rfl) ?_
      refine .cons rfl rfl rfl rfl rfl (q_ld Try.isAgg43 rfl rfl) ?_
      refine .cons rfl rfl rfl rfl rfl (q_fieldAddr fa_51_1 rfl) ?_
      refine .cons rfl rfl rfl rfl rfl (q_nilCheck rfl) ?_
      refine .cons rfl rfl rfl rfl rfl (q_move rfl) ?_
      refine .cons rfl rfl rfl rfl rfl (q_nilCheck rfl) ?_
      refine .cons rfl rfl rfl rfl rfl (q_move rfl) ?_
      exact .nil
    refine gp_quiet 15 rfl rfl rfl rfl rfl rfl (q_assign rfl) ?_
    refine gp_end rfl rfl ?_
    refine g_seq ?_
    refine g_region ?_
    refine l_move rfl rfl ?_
    refine l_move rfl rfl ?_
    refine l_nilCheck rfl rfl ?_
    refine l_fieldAddr rfl fa_51_1 rfl ?_
    refine l_ld rfl Try.isAgg43 rfl rfl ?_
    refine l_move rfl rfl ?_
    refine l_ixs rfl Try.underlying43 Try.sizeOf88 rfl rfl (by omega) (by omega) ?_
    refine l_loadc (v := .pointer (some ⟨w.bx, 0, none⟩)) rfl Try.isAgg88 rfl (ptr_cell (f := fun j => (S.W j).bx) (by first | exact mem_getO 0 rfl | exact mem_getO 1 rfl | exact mem_getO 2 rfl | exact mem_getO 3 rfl | exact mem_getO 4 rfl | exact mem_getO 5 rfl | exact mem_getO 6 rfl | exact mem_getO 7 rfl | exact mem_getO 8 rfl | exact mem_getO 9 rfl | exact mem_getO 10 rfl | exact mem_getO 11 rfl | exact mem_getO 12 rfl | exact mem_getO 13 rfl | exact mem_getO 14 rfl | exact mem_getO 15 rfl | exact mem_getO 16 rfl | exact mem_getO 17 rfl | exact mem_getO 18 rfl | exact mem_getO 19 rfl | exact mem_getO 20 rfl | exact mem_getO 21 rfl | exact mem_getO 22 rfl | exact mem_getO 23 rfl | exact mem_getO 24 rfl | exact mem_getO 25 rfl) hiN (congrArg WR.bx hw)) ?_
    refine l_nilCheck rfl rfl ?_
    refine l_fieldAddr rfl fa_90_0 rfl ?_
    refine l_ld rfl Try.isAgg36 rfl rfl ?_
    refine l_len rfl Try.underlying36 rfl ?_
    refine l_eql rfl rfl rfl ?_
    refine l_move rfl rfl ?_
    refine l_split 182 rfl ?_ ?_
    · intro hbr
      have hbr := of_decide_eq_true hbr
      refine l_guard_yes rfl rfl ?_
      refine l_move rfl rfl ?_
      refine l_pick_t rfl rfl rfl ?_
      refine l_move rfl rfl ?_
      refine l_guard_yes rfl rfl ?_
      refine l_move rfl rfl ?_
      refine l_pick_t rfl rfl rfl ?_
      refine l_assign rfl rfl ?_
      refine l_nil ?_
      refine g_take (BigBut S.N i (fun j => wrA (S.W j))) ?_
      refine g_take (Own 5 1 (.slice w.a2 w.n w.c2) w.n (ints .u8 w.B)) ?_
      refine g_take (Blk w.bx (.cells [Value.slice w.a2 w.n w.c2].toArray 90 (0, 0))) ?_
      refine g_take (Own 5 1 (.slice w.a w.n w.c) w.n (ints .u8 w.B)) ?_
      refine g_take (Blk w.br (.cells [Value.slice w.a w.n w.c, .int .i64 0].toArray 109 (0, 0))) ?_
      refine g_take (Blk w.bw (.cells [Value.pointer (some ⟨w.br, 0, none⟩)].toArray 111 (0, 0))) ?_
      refine g_closew (w := w) ?_
      rw [ptrs_w (W := S.W) (N := S.N) (i := i) (w := w) (by rw [hw]), ptrs_v (W := S.W) (N := S.N) (i := i) (w := w) (by rw [hw]), ← hgl, ← hgv]
      refine g_ret Try.func21 rfl (.tmp rfl .nil) ?_
      exact Gives.mki ⟨⟨S.N, upF S.W i w, S.wl, S.wc, S.vl, S.vc, S.M, S.R, S.rl, S.rc, S.ql, S.qc, S.K8 + 1 + 1, B2, ka2, kc2, S.K, S.B, S.ka, S.kc⟩, (by first | rfl | exact congrArg Value.bool (decide_eq_true rfl) | (simp [resVal]; done)), (((hS.le (T2 := T + 8 + os.size) (by omega)).putW (i := i) (w := w) (hwo.le (by omega))).bk8 hB2 hka2 kc2 (by have := hS.hK8; omega)), ⟨Nat.le_refl _, Nat.le_refl _⟩, rfl⟩
    · intro hbr
      have hbr := of_decide_eq_false hbr
      (exfalso; first | omega | (simp at hbr; done))
  intro hbr
  have hbr := of_decide_eq_false hbr
  refine g_skip ?_
  refine g_inBlock ?_
  refine g_seq ?_
  refine g_region ?_
  refine l_assign rfl rfl ?_
  refine l_nil ?_
  refine g_take (BigBut S.N i (fun j => wrA (S.W j))) ?_
  refine g_take (Own 5 1 (.slice w.a2 w.n w.c2) w.n (ints .u8 w.B)) ?_
  refine g_take (Blk w.bx (.cells [Value.slice w.a2 w.n w.c2].toArray 90 (0, 0))) ?_
  refine g_take (Own 5 1 (.slice w.a w.n w.c) w.n (ints .u8 w.B)) ?_
  refine g_take (Blk w.br (.cells [Value.slice w.a w.n w.c, .int .i64 0].toArray 109 (0, 0))) ?_
  refine g_take (Blk w.bw (.cells [Value.pointer (some ⟨w.br, 0, none⟩)].toArray 111 (0, 0))) ?_
  refine g_closew (w := w) ?_
  rw [ptrs_w (W := S.W) (N := S.N) (i := i) (w := w) (by rw [hw]), ptrs_v (W := S.W) (N := S.N) (i := i) (w := w) (by rw [hw]), ← hgl, ← hgv]
  refine g_ret Try.func21 rfl (.tmp rfl .nil) ?_
  exact Gives.mki ⟨⟨S.N, upF S.W i w, S.wl, S.wc, S.vl, S.vc, S.M, S.R, S.rl, S.rc, S.ql, S.qc, S.K8, S.B8, S.ka8, S.kc8, S.K, S.B, S.ka, S.kc⟩, (by first | rfl | exact congrArg Value.bool (decide_eq_true rfl) | (simp [resVal]; done)), ((hS.le (T2 := T + 8 + os.size) (by omega)).putW (i := i) (w := w) (hwo.le (by omega))), ⟨Nat.le_refl _, Nat.le_refl _⟩, rfl⟩
set_option maxHeartbeats 16000000 in
theorem reads_ok (w0 : World) (F : List Atom) (xw : Nat) (S : WS) (T : Nat) (hS : SOk S T) (hT : T ≤ 2147483700) (hM1 : 1 ≤ S.M) (kd : Int) (kd0 : -9223372036854775808 ≤ kd) (kd1 : kd ≤ 9223372036854775807) (who : Int) (who0 : -9223372036854775808 ≤ who) (who1 : who ≤ 9223372036854775807) (oa : Int) (oa0 : -9223372036854775808 ≤ oa) (oa1 : oa ≤ 9223372036854775807) (ob : Int) (ob0 : -9223372036854775808 ≤ ob) (ob1 : ob ≤ 9223372036854775807) (ow : Int) (ow0 : 0 ≤ ow) (ow1 : ow ≤ 4294967295) (ov : Int) (ov0 : 0 ≤ ov) (ov1 : ov ≤ 4294967295) (on : Int) (on0 : 0 ≤ on) (on1 : on ≤ 18446744073709551615) (ba : Option Addr) (nb bc : Nat) (Z : List Int) (hZ : RA w0 F .u8 ba nb bc Z) (hbc : nb ≤ bc) (hZU : U8s Z) (wa : Option Addr) (nw wc : Nat) (Y : List Int) (hY : RA w0 F .u32 wa nw wc Y) (hYU : W32s Y) (os : ByteArray) (hwt : os.size ≤ 2147483647 ∧ nb ≤ 2147483647 ∧ nw ≤ 536870911) :
    CallK Try.prog 22 [.pointer (some ⟨xw, 0, none⟩), .agg [Value.int .i64 kd, .int .i64 who, .int .i64 oa, .int .i64 ob, .int .u32 ow, .int .u32 ov, .int .u64 on, .slice ba nb bc, .slice wa nw wc, .string os].toArray] w0 (Blk xw (.cells [Value.slice S.wl S.N S.wc, .slice S.vl S.N S.vc, .slice S.rl S.M S.rc, .slice S.ql S.M S.qc, .slice S.ka8 S.K8 S.kc8, .slice S.ka S.K S.kc].toArray 51 (0, 0)) :: Own 61 1 (.slice S.wl S.N S.wc) S.N (ptrs S.N fun j => (S.W j).bw) :: Own 88 1 (.slice S.vl S.N S.vc) S.N (ptrs S.N fun j => (S.W j).bx) :: Own 69 1 (.slice S.rl S.M S.rc) S.M (ptrs S.M fun j => (S.R j).bq) :: Own 92 1 (.slice S.ql S.M S.qc) S.M (ptrs S.M fun j => (S.R j).by_) :: BigF S.N (fun j => wrA (S.W j)) :: BigF S.M (fun j => rdA (S.R j)) :: Own 102 4 (.slice S.ka8 S.K8 S.kc8) S.K8 (rowsN S.K8 (fun j => bkR8 (S.B8 j))) :: BigF S.K8 (fun j => bkA8 (S.B8 j)) :: Own 104 4 (.slice S.ka S.K S.kc) S.K (rowsN S.K (fun j => bkR (S.B j))) :: BigF S.K (fun j => bkA (S.B j)) :: F) (Gives w0 fun v F2 => ∃ S' : WS, v = .bool true ∧ SOk S' (T + 8 + os.size) ∧ (S.N ≤ S'.N ∧ S.M ≤ S'.M) ∧ F2 = Blk xw (.cells [Value.slice S'.wl S'.N S'.wc, .slice S'.vl S'.N S'.vc, .slice S'.rl S'.M S'.rc, .slice S'.ql S'.M S'.qc, .slice S'.ka8 S'.K8 S'.kc8, .slice S'.ka S'.K S'.kc].toArray 51 (0, 0)) :: Own 61 1 (.slice S'.wl S'.N S'.wc) S'.N (ptrs S'.N fun j => (S'.W j).bw) :: Own 88 1 (.slice S'.vl S'.N S'.vc) S'.N (ptrs S'.N fun j => (S'.W j).bx) :: Own 69 1 (.slice S'.rl S'.M S'.rc) S'.M (ptrs S'.M fun j => (S'.R j).bq) :: Own 92 1 (.slice S'.ql S'.M S'.qc) S'.M (ptrs S'.M fun j => (S'.R j).by_) :: BigF S'.N (fun j => wrA (S'.W j)) :: BigF S'.M (fun j => rdA (S'.R j)) :: Own 102 4 (.slice S'.ka8 S'.K8 S'.kc8) S'.K8 (rowsN S'.K8 (fun j => bkR8 (S'.B8 j))) :: BigF S'.K8 (fun j => bkA8 (S'.B8 j)) :: Own 104 4 (.slice S'.ka S'.K S'.kc) S'.K (rowsN S'.K (fun j => bkR (S'.B j))) :: BigF S'.K (fun j => bkA (S'.B j)) :: F) := by
  obtain ⟨i, hi⟩ : ∃ q : Nat, pickV who (S.M : Int) = (q : Int) := ⟨(pickV who (S.M : Int)).toNat, by have := @pickV_bd who (S.M : Int) (by omega); omega⟩
  have hiM : i < S.M := by have := @pickV_bd who (S.M : Int) (by omega); omega
  obtain ⟨r, hr⟩ : ∃ q, S.R i = q := ⟨_, rfl⟩
  have hro := hS.hR i hiM
  rw [hr] at hro
  have hfit := hro.fit
  have hMT := hS.hM
  obtain ⟨gl, hgl⟩ := hS.hrl.resolve_left (by omega)
  obtain ⟨gv, hgv⟩ := hS.hql.resolve_left (by omega)
  have hp0 := hro.p0
  have hp1 := hro.p1
  have hq0 := hro.q0
  have hq1 := hro.q1
  refine c_enter Try.func22 rfl rfl rfl ?_
  refine g_seq ?_
  refine g_region ?_
  refine l_boxs rfl rfl ?_; intro b3
  refine l_assign rfl rfl ?_
  refine l_nil ?_
  refine g_seq ?_
  refine gp_start mo (by kernel_rfl) (by kernel_rfl) ?_
  rw [hgl, hgv]
  refine gp_quiet 0 rfl rfl rfl rfl rfl rfl (q_fieldAddr fa_56_1 rfl) ?_
  first | refine gp_quiet 1 rfl rfl rfl rfl rfl rfl (q_ld Try.isAgg3 rfl rfl) ?_ | refine gp_quiet 1 rfl rfl rfl rfl rfl rfl (q_ldw Try.isAgg3 rfl (by omega)) ?_
  refine gp_quiet 2 rfl rfl rfl rfl rfl rfl (q_move rfl) ?_
  refine gp_quiet 3 rfl rfl rfl rfl rfl rfl (q_nilCheck rfl) ?_
  refine gp_quiet 4 rfl rfl rfl rfl rfl rfl (q_fieldAddr fa_51_2 rfl) ?_
  refine gp_quiet 5 rfl rfl rfl rfl rfl rfl (q_ld Try.isAgg44 rfl rfl) ?_
  refine gp_quiet 6 rfl rfl rfl rfl rfl rfl (q_len Try.underlying44 rfl) ?_
  refine gp_effa 7 [1, 6] [5, 4, 3, 2, 0] rfl rfl rfl rfl rfl rfl rfl (does_call Try.call14 rfl (pick_ok _ _ who (by omega) (by omega) (S.M : Int) (by omega) (by omega))) ?_
  rintro _ _ ⟨rfl, rfl⟩
  rw [hi]
  refine ⟨?_, ?_⟩
  · refine .cons rfl rfl rfl rfl rfl (q_ld Try.isAgg44 rfl rfl) ?_
    refine .cons rfl rfl rfl rfl rfl (q_fieldAddr fa_51_2 rfl) ?_
    refine .cons rfl rfl rfl rfl rfl (q_nilCheck rfl) ?_
    refine .cons rfl rfl rfl rfl rfl (q_move rfl) ?_
    refine .cons rfl rfl rfl rfl rfl (q_fieldAddr fa_56_1 rfl) ?_
    exact .nil
  refine gp_quiet 8 rfl rfl rfl rfl rfl rfl (q_assign rfl) ?_
  refine gp_end rfl rfl ?_
  refine g_seq ?_
  refine g_seq ?_
  refine g_region ?_
  refine l_take (BigF S.M (fun j => rdA (S.R j))) ?_
  refine l_openr hiM hr ?_
  refine l_fieldAddr rfl fa_56_0 rfl ?_
  first | refine l_ld rfl Try.isAgg3 rfl rfl ?_ | refine l_ldw rfl Try.isAgg3 rfl (by omega) ?_
  refine l_nil ?_
  refine g_block ?_
  refine g_seq ?_
  refine g_region ?_
  refine l_eql rfl rfl rfl ?_
  refine l_assign rfl rfl ?_
  refine l_nil ?_
  refine g_cond rfl ?_ ?_
  · intro hbr
    have hbr := of_decide_eq_true hbr
    refine g_seq ?_
    refine g_region ?_
    refine l_move rfl rfl ?_
    refine l_nilCheck rfl rfl ?_
    refine l_fieldAddr rfl fa_51_2 rfl ?_
    refine l_ld rfl Try.isAgg44 rfl rfl ?_
    refine l_move rfl rfl ?_
    refine l_ixs rfl Try.underlying44 Try.sizeOf69 rfl rfl (by omega) (by omega) ?_
    refine l_loadc (v := .pointer (some ⟨r.bq, 0, none⟩)) rfl Try.isAgg69 rfl (ptr_cell (f := fun j => (S.R j).bq) (by first | exact mem_getO 0 rfl | exact mem_getO 1 rfl | exact mem_getO 2 rfl | exact mem_getO 3 rfl | exact mem_getO 4 rfl | exact mem_getO 5 rfl | exact mem_getO 6 rfl | exact mem_getO 7 rfl | exact mem_getO 8 rfl | exact mem_getO 9 rfl | exact mem_getO 10 rfl | exact mem_getO 11 rfl | exact mem_getO 12 rfl | exact mem_getO 13 rfl | exact mem_getO 14 rfl | exact mem_getO 15 rfl | exact mem_getO 16 rfl | exact mem_getO 17 rfl | exact mem_getO 18 rfl | exact mem_getO 19 rfl | exact mem_getO 20 rfl | exact mem_getO 21 rfl | exact mem_getO 22 rfl | exact mem_getO 23 rfl | exact mem_getO 24 rfl | exact mem_getO 25 rfl) hiM (congrArg RR.bq hr)) ?_
    refine l_take (Own 5 1 (.slice (some ⟨r.g, 0, none⟩) r.n r.n) r.n (ints .u8 r.B)) ?_
    refine l_take (Blk r.bs (.cells [Value.slice (some ⟨r.g, 0, none⟩) r.n r.n, .int .i64 r.p].toArray 109 (0, 0))) ?_
    refine l_take (Blk r.bq (.cells [Value.pointer (some ⟨r.bs, 0, none⟩), .int .i64 r.q].toArray 113 (0, 0))) ?_
    refine l_call rfl Try.call42 rfl (r8_ok _ _ r.bq r.bs r.g r.n r.B hro.len hro.u (by omega) r.p r.q hp0 hp1 hq0 hq1) ?_; rintro _ _ ⟨m1, p9, q9, hR1, rfl, rfl⟩
    have hsp := (rdN_spec hro.u hR1).2
    rw [show (256 : Int) ^ (1 : Int).toNat = 256 from rfl] at hsp
    have hbd := rdN_bd hro.len hp0 hp1 hq0 hq1 (by decide) hR1
    refine l_assign rfl rfl ?_
    refine l_nil ?_
    refine g_seq ?_
    refine g_region ?_
    refine l_move rfl rfl ?_
    first | refine l_conv rfl Try.underlying5 Try.underlying53 rfl (w_u64 (by omega) (by omega)) ?_ | refine l_convm (m := 18446744073709551616) rfl wr_u64 Try.underlying5 Try.underlying53 rfl ?_
    refine l_move rfl rfl ?_
    refine l_nilCheck rfl rfl ?_
    refine l_fieldAddr rfl fa_51_3 rfl ?_
    refine l_ld rfl Try.isAgg45 rfl rfl ?_
    refine l_move rfl rfl ?_
    refine l_ixs rfl Try.underlying45 Try.sizeOf92 rfl rfl (by omega) (by omega) ?_
    refine l_loadc (v := .pointer (some ⟨r.by_, 0, none⟩)) rfl Try.isAgg92 rfl (ptr_cell (f := fun j => (S.R j).by_) (by first | exact mem_getO 0 rfl | exact mem_getO 1 rfl | exact mem_getO 2 rfl | exact mem_getO 3 rfl | exact mem_getO 4 rfl | exact mem_getO 5 rfl | exact mem_getO 6 rfl | exact mem_getO 7 rfl | exact mem_getO 8 rfl | exact mem_getO 9 rfl | exact mem_getO 10 rfl | exact mem_getO 11 rfl | exact mem_getO 12 rfl | exact mem_getO 13 rfl | exact mem_getO 14 rfl | exact mem_getO 15 rfl | exact mem_getO 16 rfl | exact mem_getO 17 rfl | exact mem_getO 18 rfl | exact mem_getO 19 rfl | exact mem_getO 20 rfl | exact mem_getO 21 rfl | exact mem_getO 22 rfl | exact mem_getO 23 rfl | exact mem_getO 24 rfl | exact mem_getO 25 rfl) hiM (congrArg RR.by_ hr)) ?_
    refine l_take (Own 5 1 (.slice r.a2 r.n r.c2) r.n (ints .u8 r.B)) ?_
    refine l_take (Blk r.by_ (.cells [Value.slice r.a2 r.n r.c2, .int .i64 r.p, .int .i64 r.q].toArray 99 (0, 0))) ?_
    refine l_call rfl Try.call65 rfl (qnum_ok _ _ r.by_ r.a2 r.n r.c2 r.B hro.len hro.ha2 hro.hc hro.u (by omega) r.p r.q hp0 hp1 hq0 hq1 1 (by decide) (by decide)) ?_; rintro _ _ ⟨m2, p8, q8, hR2, rfl, rfl⟩
    obtain ⟨rfl, rfl, rfl⟩ := trip (hR1.symm.trans hR2)
    refine l_eql rfl rfl rfl ?_
    refine l_assign rfl rfl ?_
    refine l_nil ?_
    refine g_take (BigBut S.M i (fun j => rdA (S.R j))) ?_
    refine g_take (Own 5 1 (.slice r.a2 r.n r.c2) r.n (ints .u8 r.B)) ?_
    refine g_take (Blk r.by_ (.cells [Value.slice r.a2 r.n r.c2, .int .i64 p9, .int .i64 q9].toArray 99 (0, 0))) ?_
    refine g_take (Own 5 1 (.slice (some ⟨r.g, 0, none⟩) r.n r.n) r.n (ints .u8 r.B)) ?_
    refine g_take (Blk r.bs (.cells [Value.slice (some ⟨r.g, 0, none⟩) r.n r.n, .int .i64 p9].toArray 109 (0, 0))) ?_
    refine g_take (Blk r.bq (.cells [Value.pointer (some ⟨r.bs, 0, none⟩), .int .i64 q9].toArray 113 (0, 0))) ?_
    refine g_closer (r := ⟨r.bq, r.bs, r.g, r.by_, r.a2, r.c2, r.n, r.B, p9, q9⟩) ?_
    rw [ptrs_r (R := S.R) (N := S.M) (i := i) (r := ⟨r.bq, r.bs, r.g, r.by_, r.a2, r.c2, r.n, r.B, p9, q9⟩) (by rw [hr]), ptrs_q (R := S.R) (N := S.M) (i := i) (r := ⟨r.bq, r.bs, r.g, r.by_, r.a2, r.c2, r.n, r.B, p9, q9⟩) (by rw [hr]), ← hgl, ← hgv]
    refine g_ret Try.func22 rfl (.tmp rfl .nil) ?_
    exact Gives.mki ⟨⟨S.N, S.W, S.wl, S.wc, S.vl, S.vc, S.M, upF S.R i ⟨r.bq, r.bs, r.g, r.by_, r.a2, r.c2, r.n, r.B, p9, q9⟩, S.rl, S.rc, S.ql, S.qc, S.K8, S.B8, S.ka8, S.kc8, S.K, S.B, S.ka, S.kc⟩, (by first | rfl | exact congrArg Value.bool (decide_eq_true rfl) | (simp [resVal]; done)), ((hS.le (T2 := T + 8 + os.size) (by omega)).putR (i := i) (r := ⟨r.bq, r.bs, r.g, r.by_, r.a2, r.c2, r.n, r.B, p9, q9⟩) ⟨hro.len, hro.fit, hro.ha2, hro.hc, hro.u, hbd.1, hbd.2.1, hbd.2.2.1, hbd.2.2.2⟩), ⟨Nat.le_refl _, Nat.le_refl _⟩, rfl⟩
  intro hbr
  have hbr := of_decide_eq_false hbr
  refine g_seq ?_
  refine g_region ?_
  refine l_eql rfl rfl rfl ?_
  refine l_assign rfl rfl ?_
  refine l_nil ?_
  refine g_cond rfl ?_ ?_
  · intro hbr
    have hbr := of_decide_eq_true hbr
    refine g_seq ?_
    refine g_region ?_
    refine l_move rfl rfl ?_
    refine l_nilCheck rfl rfl ?_
    refine l_fieldAddr rfl fa_51_2 rfl ?_
    refine l_ld rfl Try.isAgg44 rfl rfl ?_
    refine l_move rfl rfl ?_
    refine l_ixs rfl Try.underlying44 Try.sizeOf69 rfl rfl (by omega) (by omega) ?_
    refine l_loadc (v := .pointer (some ⟨r.bq, 0, none⟩)) rfl Try.isAgg69 rfl (ptr_cell (f := fun j => (S.R j).bq) (by first | exact mem_getO 0 rfl | exact mem_getO 1 rfl | exact mem_getO 2 rfl | exact mem_getO 3 rfl | exact mem_getO 4 rfl | exact mem_getO 5 rfl | exact mem_getO 6 rfl | exact mem_getO 7 rfl | exact mem_getO 8 rfl | exact mem_getO 9 rfl | exact mem_getO 10 rfl | exact mem_getO 11 rfl | exact mem_getO 12 rfl | exact mem_getO 13 rfl | exact mem_getO 14 rfl | exact mem_getO 15 rfl | exact mem_getO 16 rfl | exact mem_getO 17 rfl | exact mem_getO 18 rfl | exact mem_getO 19 rfl | exact mem_getO 20 rfl | exact mem_getO 21 rfl | exact mem_getO 22 rfl | exact mem_getO 23 rfl | exact mem_getO 24 rfl | exact mem_getO 25 rfl) hiM (congrArg RR.bq hr)) ?_
    refine l_take (Own 5 1 (.slice (some ⟨r.g, 0, none⟩) r.n r.n) r.n (ints .u8 r.B)) ?_
    refine l_take (Blk r.bs (.cells [Value.slice (some ⟨r.g, 0, none⟩) r.n r.n, .int .i64 r.p].toArray 109 (0, 0))) ?_
    refine l_take (Blk r.bq (.cells [Value.pointer (some ⟨r.bs, 0, none⟩), .int .i64 r.q].toArray 113 (0, 0))) ?_
    refine l_call rfl Try.call47 rfl (r32_ok _ _ r.bq r.bs r.g r.n r.B hro.len hro.u (by omega) r.p r.q hp0 hp1 hq0 hq1) ?_; rintro _ _ ⟨m1, p9, q9, hR1, rfl, rfl⟩
    have hsp := (rdN_spec hro.u hR1).2
    rw [show (256 : Int) ^ (4 : Int).toNat = 4294967296 from rfl] at hsp
    have hbd := rdN_bd hro.len hp0 hp1 hq0 hq1 (by decide) hR1
    refine l_assign rfl rfl ?_
    refine l_nil ?_
    refine g_seq ?_
    refine g_region ?_
    refine l_move rfl rfl ?_
    first | refine l_conv rfl Try.underlying23 Try.underlying53 rfl (w_u64 (by omega) (by omega)) ?_ | refine l_convm (m := 18446744073709551616) rfl wr_u64 Try.underlying23 Try.underlying53 rfl ?_
    refine l_move rfl rfl ?_
    refine l_nilCheck rfl rfl ?_
    refine l_fieldAddr rfl fa_51_3 rfl ?_
    refine l_ld rfl Try.isAgg45 rfl rfl ?_
    refine l_move rfl rfl ?_
    refine l_ixs rfl Try.underlying45 Try.sizeOf92 rfl rfl (by omega) (by omega) ?_
    refine l_loadc (v := .pointer (some ⟨r.by_, 0, none⟩)) rfl Try.isAgg92 rfl (ptr_cell (f := fun j => (S.R j).by_) (by first | exact mem_getO 0 rfl | exact mem_getO 1 rfl | exact mem_getO 2 rfl | exact mem_getO 3 rfl | exact mem_getO 4 rfl | exact mem_getO 5 rfl | exact mem_getO 6 rfl | exact mem_getO 7 rfl | exact mem_getO 8 rfl | exact mem_getO 9 rfl | exact mem_getO 10 rfl | exact mem_getO 11 rfl | exact mem_getO 12 rfl | exact mem_getO 13 rfl | exact mem_getO 14 rfl | exact mem_getO 15 rfl | exact mem_getO 16 rfl | exact mem_getO 17 rfl | exact mem_getO 18 rfl | exact mem_getO 19 rfl | exact mem_getO 20 rfl | exact mem_getO 21 rfl | exact mem_getO 22 rfl | exact mem_getO 23 rfl | exact mem_getO 24 rfl | exact mem_getO 25 rfl) hiM (congrArg RR.by_ hr)) ?_
    refine l_take (Own 5 1 (.slice r.a2 r.n r.c2) r.n (ints .u8 r.B)) ?_
    refine l_take (Blk r.by_ (.cells [Value.slice r.a2 r.n r.c2, .int .i64 r.p, .int .i64 r.q].toArray 99 (0, 0))) ?_
    refine l_call rfl Try.call65 rfl (qnum_ok _ _ r.by_ r.a2 r.n r.c2 r.B hro.len hro.ha2 hro.hc hro.u (by omega) r.p r.q hp0 hp1 hq0 hq1 4 (by decide) (by decide)) ?_; rintro _ _ ⟨m2, p8, q8, hR2, rfl, rfl⟩
    obtain ⟨rfl, rfl, rfl⟩ := trip (hR1.symm.trans hR2)
    refine l_eql rfl rfl rfl ?_
    refine l_assign rfl rfl ?_
    refine l_nil ?_
    refine g_take (BigBut S.M i (fun j => rdA (S.R j))) ?_
    refine g_take (Own 5 1 (.slice r.a2 r.n r.c2) r.n (ints .u8 r.B)) ?_
    refine g_take (Blk r.by_ (.cells [Value.slice r.a2 r.n r.c2, .int .i64 p9, .int .i64 q9].toArray 99 (0, 0))) ?_
    refine g_take (Own 5 1 (.slice (some ⟨r.g, 0, none⟩) r.n r.n) r.n (ints .u8 r.B)) ?_
    refine g_take (Blk r.bs (.cells [Value.slice (some ⟨r.g, 0, none⟩) r.n r.n, .int .i64 p9].toArray 109 (0, 0))) ?_
    refine g_take (Blk r.bq (.cells [Value.pointer (some ⟨r.bs, 0, none⟩), .int .i64 q9].toArray 113 (0, 0))) ?_
    refine g_closer (r := ⟨r.bq, r.bs, r.g, r.by_, r.a2, r.c2, r.n, r.B, p9, q9⟩) ?_
    rw [ptrs_r (R := S.R) (N := S.M) (i := i) (r := ⟨r.bq, r.bs, r.g, r.by_, r.a2, r.c2, r.n, r.B, p9, q9⟩) (by rw [hr]), ptrs_q (R := S.R) (N := S.M) (i := i) (r := ⟨r.bq, r.bs, r.g, r.by_, r.a2, r.c2, r.n, r.B, p9, q9⟩) (by rw [hr]), ← hgl, ← hgv]
    refine g_ret Try.func22 rfl (.tmp rfl .nil) ?_
    exact Gives.mki ⟨⟨S.N, S.W, S.wl, S.wc, S.vl, S.vc, S.M, upF S.R i ⟨r.bq, r.bs, r.g, r.by_, r.a2, r.c2, r.n, r.B, p9, q9⟩, S.rl, S.rc, S.ql, S.qc, S.K8, S.B8, S.ka8, S.kc8, S.K, S.B, S.ka, S.kc⟩, (by first | rfl | exact congrArg Value.bool (decide_eq_true rfl) | (simp [resVal]; done)), ((hS.le (T2 := T + 8 + os.size) (by omega)).putR (i := i) (r := ⟨r.bq, r.bs, r.g, r.by_, r.a2, r.c2, r.n, r.B, p9, q9⟩) ⟨hro.len, hro.fit, hro.ha2, hro.hc, hro.u, hbd.1, hbd.2.1, hbd.2.2.1, hbd.2.2.2⟩), ⟨Nat.le_refl _, Nat.le_refl _⟩, rfl⟩
  intro hbr
  have hbr := of_decide_eq_false hbr
  refine g_seq ?_
  refine g_region ?_
  refine l_eql rfl rfl rfl ?_
  refine l_assign rfl rfl ?_
  refine l_nil ?_
  refine g_cond rfl ?_ ?_
  · intro hbr
    have hbr := of_decide_eq_true hbr
    refine g_seq ?_
    refine g_region ?_
    refine l_move rfl rfl ?_
    refine l_nilCheck rfl rfl ?_
    refine l_fieldAddr rfl fa_51_2 rfl ?_
    refine l_ld rfl Try.isAgg44 rfl rfl ?_
    refine l_move rfl rfl ?_
    refine l_ixs rfl Try.underlying44 Try.sizeOf69 rfl rfl (by omega) (by omega) ?_
    refine l_loadc (v := .pointer (some ⟨r.bq, 0, none⟩)) rfl Try.isAgg69 rfl (ptr_cell (f := fun j => (S.R j).bq) (by first | exact mem_getO 0 rfl | exact mem_getO 1 rfl | exact mem_getO 2 rfl | exact mem_getO 3 rfl | exact mem_getO 4 rfl | exact mem_getO 5 rfl | exact mem_getO 6 rfl | exact mem_getO 7 rfl | exact mem_getO 8 rfl | exact mem_getO 9 rfl | exact mem_getO 10 rfl | exact mem_getO 11 rfl | exact mem_getO 12 rfl | exact mem_getO 13 rfl | exact mem_getO 14 rfl | exact mem_getO 15 rfl | exact mem_getO 16 rfl | exact mem_getO 17 rfl | exact mem_getO 18 rfl | exact mem_getO 19 rfl | exact mem_getO 20 rfl | exact mem_getO 21 rfl | exact mem_getO 22 rfl | exact mem_getO 23 rfl | exact mem_getO 24 rfl | exact mem_getO 25 rfl) hiM (congrArg RR.bq hr)) ?_
    refine l_take (Own 5 1 (.slice (some ⟨r.g, 0, none⟩) r.n r.n) r.n (ints .u8 r.B)) ?_
    refine l_take (Blk r.bs (.cells [Value.slice (some ⟨r.g, 0, none⟩) r.n r.n, .int .i64 r.p].toArray 109 (0, 0))) ?_
    refine l_take (Blk r.bq (.cells [Value.pointer (some ⟨r.bs, 0, none⟩), .int .i64 r.q].toArray 113 (0, 0))) ?_
    refine l_call rfl Try.call48 rfl (r64_ok _ _ r.bq r.bs r.g r.n r.B hro.len hro.u (by omega) r.p r.q hp0 hp1 hq0 hq1) ?_; rintro _ _ ⟨m1, p9, q9, hR1, rfl, rfl⟩
    have hsp := (rdN_spec hro.u hR1).2
    rw [show (256 : Int) ^ (8 : Int).toNat = 18446744073709551616 from rfl] at hsp
    have hbd := rdN_bd hro.len hp0 hp1 hq0 hq1 (by decide) hR1
    refine l_assign rfl rfl ?_
    refine l_nil ?_
    refine g_seq ?_
    refine g_region ?_
    refine l_move rfl rfl ?_
    refine l_move rfl rfl ?_
    refine l_nilCheck rfl rfl ?_
    refine l_fieldAddr rfl fa_51_3 rfl ?_
    refine l_ld rfl Try.isAgg45 rfl rfl ?_
    refine l_move rfl rfl ?_
    refine l_ixs rfl Try.underlying45 Try.sizeOf92 rfl rfl (by omega) (by omega) ?_
    refine l_loadc (v := .pointer (some ⟨r.by_, 0, none⟩)) rfl Try.isAgg92 rfl (ptr_cell (f := fun j => (S.R j).by_) (by first | exact mem_getO 0 rfl | exact mem_getO 1 rfl | exact mem_getO 2 rfl | exact mem_getO 3 rfl | exact mem_getO 4 rfl | exact mem_getO 5 rfl | exact mem_getO 6 rfl | exact mem_getO 7 rfl | exact mem_getO 8 rfl | exact mem_getO 9 rfl | exact mem_getO 10 rfl | exact mem_getO 11 rfl | exact mem_getO 12 rfl | exact mem_getO 13 rfl | exact mem_getO 14 rfl | exact mem_getO 15 rfl | exact mem_getO 16 rfl | exact mem_getO 17 rfl | exact mem_getO 18 rfl | exact mem_getO 19 rfl | exact mem_getO 20 rfl | exact mem_getO 21 rfl | exact mem_getO 22 rfl | exact mem_getO 23 rfl | exact mem_getO 24 rfl | exact mem_getO 25 rfl) hiM (congrArg RR.by_ hr)) ?_
    refine l_take (Own 5 1 (.slice r.a2 r.n r.c2) r.n (ints .u8 r.B)) ?_
    refine l_take (Blk r.by_ (.cells [Value.slice r.a2 r.n r.c2, .int .i64 r.p, .int .i64 r.q].toArray 99 (0, 0))) ?_
    refine l_call rfl Try.call65 rfl (qnum_ok _ _ r.by_ r.a2 r.n r.c2 r.B hro.len hro.ha2 hro.hc hro.u (by omega) r.p r.q hp0 hp1 hq0 hq1 8 (by decide) (by decide)) ?_; rintro _ _ ⟨m2, p8, q8, hR2, rfl, rfl⟩
    obtain ⟨rfl, rfl, rfl⟩ := trip (hR1.symm.trans hR2)
    refine l_eql rfl rfl rfl ?_
    refine l_assign rfl rfl ?_
    refine l_nil ?_
    refine g_take (BigBut S.M i (fun j => rdA (S.R j))) ?_
    refine g_take (Own 5 1 (.slice r.a2 r.n r.c2) r.n (ints .u8 r.B)) ?_
    refine g_take (Blk r.by_ (.cells [Value.slice r.a2 r.n r.c2, .int .i64 p9, .int .i64 q9].toArray 99 (0, 0))) ?_
    refine g_take (Own 5 1 (.slice (some ⟨r.g, 0, none⟩) r.n r.n) r.n (ints .u8 r.B)) ?_
    refine g_take (Blk r.bs (.cells [Value.slice (some ⟨r.g, 0, none⟩) r.n r.n, .int .i64 p9].toArray 109 (0, 0))) ?_
    refine g_take (Blk r.bq (.cells [Value.pointer (some ⟨r.bs, 0, none⟩), .int .i64 q9].toArray 113 (0, 0))) ?_
    refine g_closer (r := ⟨r.bq, r.bs, r.g, r.by_, r.a2, r.c2, r.n, r.B, p9, q9⟩) ?_
    rw [ptrs_r (R := S.R) (N := S.M) (i := i) (r := ⟨r.bq, r.bs, r.g, r.by_, r.a2, r.c2, r.n, r.B, p9, q9⟩) (by rw [hr]), ptrs_q (R := S.R) (N := S.M) (i := i) (r := ⟨r.bq, r.bs, r.g, r.by_, r.a2, r.c2, r.n, r.B, p9, q9⟩) (by rw [hr]), ← hgl, ← hgv]
    refine g_ret Try.func22 rfl (.tmp rfl .nil) ?_
    exact Gives.mki ⟨⟨S.N, S.W, S.wl, S.wc, S.vl, S.vc, S.M, upF S.R i ⟨r.bq, r.bs, r.g, r.by_, r.a2, r.c2, r.n, r.B, p9, q9⟩, S.rl, S.rc, S.ql, S.qc, S.K8, S.B8, S.ka8, S.kc8, S.K, S.B, S.ka, S.kc⟩, (by first | rfl | exact congrArg Value.bool (decide_eq_true rfl) | (simp [resVal]; done)), ((hS.le (T2 := T + 8 + os.size) (by omega)).putR (i := i) (r := ⟨r.bq, r.bs, r.g, r.by_, r.a2, r.c2, r.n, r.B, p9, q9⟩) ⟨hro.len, hro.fit, hro.ha2, hro.hc, hro.u, hbd.1, hbd.2.1, hbd.2.2.1, hbd.2.2.2⟩), ⟨Nat.le_refl _, Nat.le_refl _⟩, rfl⟩
  intro hbr
  have hbr := of_decide_eq_false hbr
  refine g_seq ?_
  refine g_region ?_
  refine l_eql rfl rfl rfl ?_
  refine l_assign rfl rfl ?_
  refine l_nil ?_
  refine g_cond rfl ?_ ?_
  · intro hbr
    have hbr := of_decide_eq_true hbr
    refine g_seq ?_
    refine gp_start mo (by kernel_rfl) (by kernel_rfl) ?_
    refine gp_quiet 0 rfl rfl rfl rfl rfl rfl (q_move rfl) ?_
    refine gp_quiet 1 rfl rfl rfl rfl rfl rfl (q_nilCheck rfl) ?_
    refine gp_quiet 2 rfl rfl rfl rfl rfl rfl (q_fieldAddr fa_51_2 rfl) ?_
    refine gp_quiet 3 rfl rfl rfl rfl rfl rfl (q_ld Try.isAgg44 rfl rfl) ?_
    refine gp_quiet 4 rfl rfl rfl rfl rfl rfl (q_move rfl) ?_
    refine gp_quiet 5 rfl rfl rfl rfl rfl rfl (q_ixs Try.underlying44 Try.sizeOf69 rfl rfl (by omega) (by omega)) ?_
    refine gp_quiet 6 rfl rfl rfl rfl rfl rfl (q_loadc (v := .pointer (some ⟨r.bq, 0, none⟩)) Try.isAgg69 rfl (ptr_cell (f := fun j => (S.R j).bq) (by first | exact mem_getO 0 rfl | exact mem_getO 1 rfl | exact mem_getO 2 rfl | exact mem_getO 3 rfl | exact mem_getO 4 rfl | exact mem_getO 5 rfl | exact mem_getO 6 rfl | exact mem_getO 7 rfl | exact mem_getO 8 rfl | exact mem_getO 9 rfl | exact mem_getO 10 rfl | exact mem_getO 11 rfl | exact mem_getO 12 rfl | exact mem_getO 13 rfl | exact mem_getO 14 rfl | exact mem_getO 15 rfl | exact mem_getO 16 rfl | exact mem_getO 17 rfl | exact mem_getO 18 rfl | exact mem_getO 19 rfl | exact mem_getO 20 rfl | exact mem_getO 21 rfl | exact mem_getO 22 rfl | exact mem_getO 23 rfl | exact mem_getO 24 rfl | exact mem_getO 25 rfl) hiM (congrArg RR.bq hr))) ?_
    refine gp_quiet 7 rfl rfl rfl rfl rfl rfl (q_fieldAddr fa_56_2 rfl) ?_
    first | refine gp_quiet 8 rfl rfl rfl rfl rfl rfl (q_ld Try.isAgg3 rfl rfl) ?_ | refine gp_quiet 8 rfl rfl rfl rfl rfl rfl (q_ldw Try.isAgg3 rfl (by omega)) ?_
    refine gp_take (Own 5 1 (.slice (some ⟨r.g, 0, none⟩) r.n r.n) r.n (ints .u8 r.B)) ?_
    refine gp_take (Blk r.bs (.cells [Value.slice (some ⟨r.g, 0, none⟩) r.n r.n, .int .i64 r.p].toArray 109 (0, 0))) ?_
    refine gp_take (Blk r.bq (.cells [Value.pointer (some ⟨r.bs, 0, none⟩), .int .i64 r.q].toArray 113 (0, 0))) ?_
    refine gp_effa 9 [6, 8] [7, 5, 4, 3, 2, 1, 0] rfl rfl rfl rfl rfl rfl rfl (does_call Try.call35 rfl (rtext_ok _ _ r.bq r.bs r.g r.n r.B hro.len hro.u (by omega) r.p r.q hp0 hp1 hq0 hq1 oa oa0 oa1)) ?_
    rintro _ _ ⟨T1, p9, q9, hR1, rfl, rfl⟩
    have hbd := rdT_bd hro.len hro.u hp0 hp1 hq0 hq1 hR1
    refine ⟨?_, ?_⟩
    · refine .cons rfl rfl rfl rfl rfl (q_fieldAddr fa_56_2 rfl) ?_
      refine .cons rfl rfl rfl rfl rfl (q_ixs Try.underlying44 Try.sizeOf69 rfl rfl (by omega) (by omega)) ?_
      refine .cons rfl rfl rfl rfl rfl (q_move rfl) ?_
      refine .cons rfl rfl rfl rfl rfl (q_ld Try.isAgg44 rfl rfl) ?_
      refine .cons rfl rfl rfl rfl rfl (q_fieldAddr fa_51_2 rfl) ?_
      refine .cons rfl rfl rfl rfl rfl (q_nilCheck rfl) ?_
      refine .cons rfl rfl rfl rfl rfl (q_move rfl) ?_
      exact .nil
    refine gp_quiet 10 rfl rfl rfl rfl rfl rfl (q_assign rfl) ?_
    refine gp_end rfl rfl ?_
    refine g_seq ?_
    refine gp_start mo (by kernel_rfl) (by kernel_rfl) ?_
    refine gp_quiet 0 rfl rfl rfl rfl rfl rfl (q_move rfl) ?_
    refine gp_quiet 1 rfl rfl rfl rfl rfl rfl (q_move rfl) ?_
    refine gp_quiet 2 rfl rfl rfl rfl rfl rfl (q_nilCheck rfl) ?_
    refine gp_quiet 3 rfl rfl rfl rfl rfl rfl (q_fieldAddr fa_51_3 rfl) ?_
    refine gp_quiet 4 rfl rfl rfl rfl rfl rfl (q_ld Try.isAgg45 rfl rfl) ?_
    refine gp_quiet 5 rfl rfl rfl rfl rfl rfl (q_move rfl) ?_
    refine gp_quiet 6 rfl rfl rfl rfl rfl rfl (q_ixs Try.underlying45 Try.sizeOf92 rfl rfl (by omega) (by omega)) ?_
    refine gp_quiet 7 rfl rfl rfl rfl rfl rfl (q_loadc (v := .pointer (some ⟨r.by_, 0, none⟩)) Try.isAgg92 rfl (ptr_cell (f := fun j => (S.R j).by_) (by first | exact mem_getO 0 rfl | exact mem_getO 1 rfl | exact mem_getO 2 rfl | exact mem_getO 3 rfl | exact mem_getO 4 rfl | exact mem_getO 5 rfl | exact mem_getO 6 rfl | exact mem_getO 7 rfl | exact mem_getO 8 rfl | exact mem_getO 9 rfl | exact mem_getO 10 rfl | exact mem_getO 11 rfl | exact mem_getO 12 rfl | exact mem_getO 13 rfl | exact mem_getO 14 rfl | exact mem_getO 15 rfl | exact mem_getO 16 rfl | exact mem_getO 17 rfl | exact mem_getO 18 rfl | exact mem_getO 19 rfl | exact mem_getO 20 rfl | exact mem_getO 21 rfl | exact mem_getO 22 rfl | exact mem_getO 23 rfl | exact mem_getO 24 rfl | exact mem_getO 25 rfl) hiM (congrArg RR.by_ hr))) ?_
    refine gp_quiet 8 rfl rfl rfl rfl rfl rfl (q_fieldAddr fa_56_2 rfl) ?_
    first | refine gp_quiet 9 rfl rfl rfl rfl rfl rfl (q_ld Try.isAgg3 rfl rfl) ?_ | refine gp_quiet 9 rfl rfl rfl rfl rfl rfl (q_ldw Try.isAgg3 rfl (by omega)) ?_
    refine gp_take (Own 5 1 (.slice r.a2 r.n r.c2) r.n (ints .u8 r.B)) ?_
    refine gp_take (Blk r.by_ (.cells [Value.slice r.a2 r.n r.c2, .int .i64 r.p, .int .i64 r.q].toArray 99 (0, 0))) ?_
    refine gp_effa 10 [7, 9] [8, 6, 5, 4, 3, 2, 1, 0] rfl rfl rfl rfl rfl rfl rfl (does_call Try.call66 rfl (qtext_ok _ _ r.by_ r.a2 r.n r.c2 r.B hro.len hro.ha2 hro.hc hro.u (by omega) r.p r.q hp0 hp1 hq0 hq1 oa oa0 oa1)) ?_
    rintro _ _ ⟨T2, p8, q8, hR2, rfl, rfl⟩
    obtain ⟨rfl, rfl, rfl⟩ := tript (hR1.symm.trans hR2)
    refine ⟨?_, ?_⟩
    · refine .cons rfl rfl rfl rfl rfl (q_fieldAddr fa_56_2 rfl) ?_
      refine .cons rfl rfl rfl rfl rfl (q_ixs Try.underlying45 Try.sizeOf92 rfl rfl (by omega) (by omega)) ?_
      refine .cons rfl rfl rfl rfl rfl (q_move rfl) ?_
      refine .cons rfl rfl rfl rfl rfl (q_ld Try.isAgg45 rfl rfl) ?_
      refine .cons rfl rfl rfl rfl rfl (q_fieldAddr fa_51_3 rfl) ?_
      refine .cons rfl rfl rfl rfl rfl (q_nilCheck rfl) ?_
      refine .cons rfl rfl rfl rfl rfl (q_move rfl) ?_
      refine .cons rfl rfl rfl rfl rfl (q_move rfl) ?_
      exact .nil
    refine gp_quiet 11 rfl rfl rfl rfl rfl rfl (q_eqls rfl rfl) ?_
    refine gp_quiet 12 rfl rfl rfl rfl rfl rfl (q_assign rfl) ?_
    refine gp_end rfl rfl ?_
    refine g_take (BigBut S.M i (fun j => rdA (S.R j))) ?_
    refine g_take (Own 5 1 (.slice r.a2 r.n r.c2) r.n (ints .u8 r.B)) ?_
    refine g_take (Blk r.by_ (.cells [Value.slice r.a2 r.n r.c2, .int .i64 p9, .int .i64 q9].toArray 99 (0, 0))) ?_
    refine g_take (Own 5 1 (.slice (some ⟨r.g, 0, none⟩) r.n r.n) r.n (ints .u8 r.B)) ?_
    refine g_take (Blk r.bs (.cells [Value.slice (some ⟨r.g, 0, none⟩) r.n r.n, .int .i64 p9].toArray 109 (0, 0))) ?_
    refine g_take (Blk r.bq (.cells [Value.pointer (some ⟨r.bs, 0, none⟩), .int .i64 q9].toArray 113 (0, 0))) ?_
    refine g_closer (r := ⟨r.bq, r.bs, r.g, r.by_, r.a2, r.c2, r.n, r.B, p9, q9⟩) ?_
    rw [ptrs_r (R := S.R) (N := S.M) (i := i) (r := ⟨r.bq, r.bs, r.g, r.by_, r.a2, r.c2, r.n, r.B, p9, q9⟩) (by rw [hr]), ptrs_q (R := S.R) (N := S.M) (i := i) (r := ⟨r.bq, r.bs, r.g, r.by_, r.a2, r.c2, r.n, r.B, p9, q9⟩) (by rw [hr]), ← hgl, ← hgv]
    refine g_ret Try.func22 rfl (.tmp rfl .nil) ?_
    exact Gives.mki ⟨⟨S.N, S.W, S.wl, S.wc, S.vl, S.vc, S.M, upF S.R i ⟨r.bq, r.bs, r.g, r.by_, r.a2, r.c2, r.n, r.B, p9, q9⟩, S.rl, S.rc, S.ql, S.qc, S.K8, S.B8, S.ka8, S.kc8, S.K, S.B, S.ka, S.kc⟩, (by first | rfl | exact congrArg Value.bool (decide_eq_true rfl) | (simp [resVal]; done)), ((hS.le (T2 := T + 8 + os.size) (by omega)).putR (i := i) (r := ⟨r.bq, r.bs, r.g, r.by_, r.a2, r.c2, r.n, r.B, p9, q9⟩) ⟨hro.len, hro.fit, hro.ha2, hro.hc, hro.u, hbd.1, hbd.2.1, hbd.2.2.1, hbd.2.2.2⟩), ⟨Nat.le_refl _, Nat.le_refl _⟩, rfl⟩
  intro hbr
  have hbr := of_decide_eq_false hbr
  refine g_seq ?_
  refine g_region ?_
  refine l_eql rfl rfl rfl ?_
  refine l_assign rfl rfl ?_
  refine l_nil ?_
  refine g_cond rfl ?_ ?_
  · intro hbr
    have hbr := of_decide_eq_true hbr
    refine g_seq ?_
    refine g_region ?_
    refine l_move rfl rfl ?_
    refine l_nilCheck rfl rfl ?_
    refine l_fieldAddr rfl fa_51_2 rfl ?_
    refine l_ld rfl Try.isAgg44 rfl rfl ?_
    refine l_move rfl rfl ?_
    refine l_ixs rfl Try.underlying44 Try.sizeOf69 rfl rfl (by omega) (by omega) ?_
    refine l_loadc (v := .pointer (some ⟨r.bq, 0, none⟩)) rfl Try.isAgg69 rfl (ptr_cell (f := fun j => (S.R j).bq) (by first | exact mem_getO 0 rfl | exact mem_getO 1 rfl | exact mem_getO 2 rfl | exact mem_getO 3 rfl | exact mem_getO 4 rfl | exact mem_getO 5 rfl | exact mem_getO 6 rfl | exact mem_getO 7 rfl | exact mem_getO 8 rfl | exact mem_getO 9 rfl | exact mem_getO 10 rfl | exact mem_getO 11 rfl | exact mem_getO 12 rfl | exact mem_getO 13 rfl | exact mem_getO 14 rfl | exact mem_getO 15 rfl | exact mem_getO 16 rfl | exact mem_getO 17 rfl | exact mem_getO 18 rfl | exact mem_getO 19 rfl | exact mem_getO 20 rfl | exact mem_getO 21 rfl | exact mem_getO 22 rfl | exact mem_getO 23 rfl | exact mem_getO 24 rfl | exact mem_getO 25 rfl) hiM (congrArg RR.bq hr)) ?_
    refine l_inl rfl Try.call33 rfl ?_
    refine c_enter Try.func33 rfl rfl rfl ?_
    refine g_seq ?_
    refine g_region ?_
    refine l_assign rfl rfl ?_
    refine l_nil ?_
    refine g_seq ?_
    refine g_seq ?_
    refine g_region ?_
    refine l_move rfl rfl ?_
    refine l_eqpn rfl Try.underlying69 rfl rfl ?_
    refine l_nil ?_
    first | refine g_cond_f rfl ?_ | refine g_cond_f (congrArg (fun b => some (Value.bool b)) (decide_eq_false hbr)) ?_
    refine g_skip ?_
    refine g_seq ?_
    refine g_region ?_
    refine l_move rfl rfl ?_
    refine l_nilCheck rfl rfl ?_
    refine l_fieldAddr rfl fa_113_0 rfl ?_
    refine l_ld rfl Try.isAgg107 rfl rfl ?_
    refine l_inl rfl Try.call74 rfl ?_
    refine c_enter Try.func74 rfl rfl rfl ?_
    refine g_seq ?_
    refine g_region ?_
    refine l_assign rfl rfl ?_
    refine l_nil ?_
    refine g_seq ?_
    refine g_seq ?_
    refine g_region ?_
    refine l_move rfl rfl ?_
    refine l_eqpn rfl Try.underlying107 rfl rfl ?_
    refine l_nil ?_
    first | refine g_cond_f rfl ?_ | refine g_cond_f (congrArg (fun b => some (Value.bool b)) (decide_eq_false hbr)) ?_
    refine g_skip ?_
    refine g_seq ?_
    refine gp_start mo (by kernel_rfl) (by kernel_rfl) ?_
    refine gp_quiet 0 rfl rfl rfl rfl rfl rfl (q_move rfl) ?_
    refine gp_quiet 1 rfl rfl rfl rfl rfl rfl (q_nilCheck rfl) ?_
    refine gp_quiet 2 rfl rfl rfl rfl rfl rfl (q_fieldAddr fa_109_0 rfl) ?_
    refine gp_quiet 3 rfl rfl rfl rfl rfl rfl (q_ld Try.isAgg36 rfl rfl) ?_
    refine gp_quiet 4 rfl rfl rfl rfl rfl rfl (q_len Try.underlying36 rfl) ?_
    refine gp_quiet 5 rfl rfl rfl rfl rfl rfl (q_move rfl) ?_
    refine gp_quiet 6 rfl rfl rfl rfl rfl rfl (q_nilCheck rfl) ?_
    refine gp_quiet 7 rfl rfl rfl rfl rfl rfl (q_fieldAddr fa_109_1 rfl) ?_
    first | refine gp_quiet 8 rfl rfl rfl rfl rfl rfl (q_ld Try.isAgg3 rfl rfl) ?_ | refine gp_quiet 8 rfl rfl rfl rfl rfl rfl (q_ldw Try.isAgg3 rfl (by omega)) ?_
    first | refine gp_quiet 9 rfl rfl rfl rfl rfl rfl (q_sub_ rfl rfl (w_i64 (by omega) (by omega))) ?_ | refine gp_quiet 9 rfl rfl rfl rfl rfl rfl (q_subw rfl rfl) ?_
    refine gp_quiet 10 rfl rfl rfl rfl rfl rfl (q_assign rfl) ?_
    refine gp_end rfl rfl ?_
    refine g_ret Try.func74 rfl (.tmp rfl .nil) ?_
    first | refine ⟨.int _ _, rfl, ?_⟩ | refine ⟨_, rfl, ?_⟩
    refine l_assign rfl rfl ?_
    refine l_nil ?_
    refine g_ret Try.func33 rfl (.tmp rfl .nil) ?_
    first | refine ⟨.int _ _, rfl, ?_⟩ | refine ⟨_, rfl, ?_⟩
    refine l_assign rfl rfl ?_
    refine l_nil ?_
    refine g_seq ?_
    refine g_region ?_
    refine l_move rfl rfl ?_
    refine l_nilCheck rfl rfl ?_
    refine l_fieldAddr rfl fa_51_2 rfl ?_
    refine l_ld rfl Try.isAgg44 rfl rfl ?_
    refine l_move rfl rfl ?_
    refine l_ixs rfl Try.underlying44 Try.sizeOf69 rfl rfl (by omega) (by omega) ?_
    refine l_loadc (v := .pointer (some ⟨r.bq, 0, none⟩)) rfl Try.isAgg69 rfl (ptr_cell (f := fun j => (S.R j).bq) (by first | exact mem_getO 0 rfl | exact mem_getO 1 rfl | exact mem_getO 2 rfl | exact mem_getO 3 rfl | exact mem_getO 4 rfl | exact mem_getO 5 rfl | exact mem_getO 6 rfl | exact mem_getO 7 rfl | exact mem_getO 8 rfl | exact mem_getO 9 rfl | exact mem_getO 10 rfl | exact mem_getO 11 rfl | exact mem_getO 12 rfl | exact mem_getO 13 rfl | exact mem_getO 14 rfl | exact mem_getO 15 rfl | exact mem_getO 16 rfl | exact mem_getO 17 rfl | exact mem_getO 18 rfl | exact mem_getO 19 rfl | exact mem_getO 20 rfl | exact mem_getO 21 rfl | exact mem_getO 22 rfl | exact mem_getO 23 rfl | exact mem_getO 24 rfl | exact mem_getO 25 rfl) hiM (congrArg RR.bq hr)) ?_
    refine l_inl rfl Try.call31 rfl ?_
    refine c_enter Try.func31 rfl rfl rfl ?_
    refine g_seq ?_
    refine g_region ?_
    refine l_assign rfl rfl ?_
    refine l_nil ?_
    refine g_seq ?_
    refine g_seq ?_
    refine g_region ?_
    refine l_move rfl rfl ?_
    refine l_eqpn rfl Try.underlying69 rfl rfl ?_
    refine l_nil ?_
    first | refine g_cond_f rfl ?_ | refine g_cond_f (congrArg (fun b => some (Value.bool b)) (decide_eq_false hbr)) ?_
    refine g_skip ?_
    refine g_seq ?_
    refine g_region ?_
    refine l_move rfl rfl ?_
    refine l_nilCheck rfl rfl ?_
    refine l_fieldAddr rfl fa_113_0 rfl ?_
    refine l_ld rfl Try.isAgg107 rfl rfl ?_
    refine l_inl rfl Try.call73 rfl ?_
    refine c_enter Try.func73 rfl rfl rfl ?_
    refine g_seq ?_
    refine g_region ?_
    refine l_assign rfl rfl ?_
    refine l_nil ?_
    refine g_seq ?_
    refine g_seq ?_
    refine g_region ?_
    refine l_move rfl rfl ?_
    refine l_eqpn rfl Try.underlying107 rfl rfl ?_
    refine l_nil ?_
    first | refine g_cond_f rfl ?_ | refine g_cond_f (congrArg (fun b => some (Value.bool b)) (decide_eq_false hbr)) ?_
    refine g_skip ?_
    refine g_seq ?_
    refine g_region ?_
    refine l_move rfl rfl ?_
    refine l_nilCheck rfl rfl ?_
    refine l_fieldAddr rfl fa_109_1 rfl ?_
    first | refine l_ld rfl Try.isAgg3 rfl rfl ?_ | refine l_ldw rfl Try.isAgg3 rfl (by omega) ?_
    refine l_assign rfl rfl ?_
    refine l_nil ?_
    refine g_ret Try.func73 rfl (.tmp rfl .nil) ?_
    first | refine ⟨.int _ _, rfl, ?_⟩ | refine ⟨_, rfl, ?_⟩
    refine l_assign rfl rfl ?_
    refine l_nil ?_
    refine g_ret Try.func31 rfl (.tmp rfl .nil) ?_
    first | refine ⟨.int _ _, rfl, ?_⟩ | refine ⟨_, rfl, ?_⟩
    refine l_assign rfl rfl ?_
    refine l_nil ?_
    refine g_seq ?_
    refine g_region ?_
    refine l_move rfl rfl ?_
    refine l_nilCheck rfl rfl ?_
    refine l_fieldAddr rfl fa_51_2 rfl ?_
    refine l_ld rfl Try.isAgg44 rfl rfl ?_
    refine l_move rfl rfl ?_
    refine l_ixs rfl Try.underlying44 Try.sizeOf69 rfl rfl (by omega) (by omega) ?_
    refine l_loadc (v := .pointer (some ⟨r.bq, 0, none⟩)) rfl Try.isAgg69 rfl (ptr_cell (f := fun j => (S.R j).bq) (by first | exact mem_getO 0 rfl | exact mem_getO 1 rfl | exact mem_getO 2 rfl | exact mem_getO 3 rfl | exact mem_getO 4 rfl | exact mem_getO 5 rfl | exact mem_getO 6 rfl | exact mem_getO 7 rfl | exact mem_getO 8 rfl | exact mem_getO 9 rfl | exact mem_getO 10 rfl | exact mem_getO 11 rfl | exact mem_getO 12 rfl | exact mem_getO 13 rfl | exact mem_getO 14 rfl | exact mem_getO 15 rfl | exact mem_getO 16 rfl | exact mem_getO 17 rfl | exact mem_getO 18 rfl | exact mem_getO 19 rfl | exact mem_getO 20 rfl | exact mem_getO 21 rfl | exact mem_getO 22 rfl | exact mem_getO 23 rfl | exact mem_getO 24 rfl | exact mem_getO 25 rfl) hiM (congrArg RR.bq hr)) ?_
    refine l_inl rfl Try.call34 rfl ?_
    refine c_enter Try.func34 rfl rfl rfl ?_
    refine g_seq ?_
    refine g_region ?_
    refine l_assign rfl rfl ?_
    refine l_nil ?_
    refine g_seq ?_
    refine g_seq ?_
    refine g_region ?_
    refine l_move rfl rfl ?_
    refine l_eqpn rfl Try.underlying69 rfl rfl ?_
    refine l_nil ?_
    first | refine g_cond_f rfl ?_ | refine g_cond_f (congrArg (fun b => some (Value.bool b)) (decide_eq_false hbr)) ?_
    refine g_skip ?_
    refine g_seq ?_
    refine g_region ?_
    refine l_move rfl rfl ?_
    refine l_nilCheck rfl rfl ?_
    refine l_fieldAddr rfl fa_113_1 rfl ?_
    first | refine l_ld rfl Try.isAgg26 rfl rfl ?_ | refine l_ldw rfl Try.isAgg26 rfl (by omega) ?_
    refine l_assign rfl rfl ?_
    refine l_nil ?_
    refine g_ret Try.func34 rfl (.tmp rfl .nil) ?_
    first | refine ⟨.int _ _, rfl, ?_⟩ | refine ⟨_, rfl, ?_⟩
    refine l_assign rfl rfl ?_
    refine l_nil ?_
    refine g_seq ?_
    refine g_region ?_
    refine l_move rfl rfl ?_
    refine l_nilCheck rfl rfl ?_
    refine l_fieldAddr rfl fa_51_2 rfl ?_
    refine l_ld rfl Try.isAgg44 rfl rfl ?_
    refine l_move rfl rfl ?_
    refine l_ixs rfl Try.underlying44 Try.sizeOf69 rfl rfl (by omega) (by omega) ?_
    refine l_loadc (v := .pointer (some ⟨r.bq, 0, none⟩)) rfl Try.isAgg69 rfl (ptr_cell (f := fun j => (S.R j).bq) (by first | exact mem_getO 0 rfl | exact mem_getO 1 rfl | exact mem_getO 2 rfl | exact mem_getO 3 rfl | exact mem_getO 4 rfl | exact mem_getO 5 rfl | exact mem_getO 6 rfl | exact mem_getO 7 rfl | exact mem_getO 8 rfl | exact mem_getO 9 rfl | exact mem_getO 10 rfl | exact mem_getO 11 rfl | exact mem_getO 12 rfl | exact mem_getO 13 rfl | exact mem_getO 14 rfl | exact mem_getO 15 rfl | exact mem_getO 16 rfl | exact mem_getO 17 rfl | exact mem_getO 18 rfl | exact mem_getO 19 rfl | exact mem_getO 20 rfl | exact mem_getO 21 rfl | exact mem_getO 22 rfl | exact mem_getO 23 rfl | exact mem_getO 24 rfl | exact mem_getO 25 rfl) hiM (congrArg RR.bq hr)) ?_
    refine l_take (Own 5 1 (.slice (some ⟨r.g, 0, none⟩) r.n r.n) r.n (ints .u8 r.B)) ?_
    refine l_take (Blk r.bs (.cells [Value.slice (some ⟨r.g, 0, none⟩) r.n r.n, .int .i64 r.p].toArray 109 (0, 0))) ?_
    refine l_take (Blk r.bq (.cells [Value.pointer (some ⟨r.bs, 0, none⟩), .int .i64 r.q].toArray 113 (0, 0))) ?_
    refine l_call rfl Try.call32 rfl (rend_ok _ _ r.bq r.bs r.g r.n r.B hro.len hro.u (by omega) r.p r.q hp0 hp1 hq0 hq1) ?_; rintro _ _ ⟨rfl, rfl⟩
    refine l_assign rfl rfl ?_
    refine l_nil ?_
    refine g_seq ?_
    refine g_region ?_
    refine l_move rfl rfl ?_
    refine l_move rfl rfl ?_
    refine l_nilCheck rfl rfl ?_
    refine l_fieldAddr rfl fa_51_3 rfl ?_
    refine l_ld rfl Try.isAgg45 rfl rfl ?_
    refine l_move rfl rfl ?_
    refine l_ixs rfl Try.underlying45 Try.sizeOf92 rfl rfl (by omega) (by omega) ?_
    refine l_loadc (v := .pointer (some ⟨r.by_, 0, none⟩)) rfl Try.isAgg92 rfl (ptr_cell (f := fun j => (S.R j).by_) (by first | exact mem_getO 0 rfl | exact mem_getO 1 rfl | exact mem_getO 2 rfl | exact mem_getO 3 rfl | exact mem_getO 4 rfl | exact mem_getO 5 rfl | exact mem_getO 6 rfl | exact mem_getO 7 rfl | exact mem_getO 8 rfl | exact mem_getO 9 rfl | exact mem_getO 10 rfl | exact mem_getO 11 rfl | exact mem_getO 12 rfl | exact mem_getO 13 rfl | exact mem_getO 14 rfl | exact mem_getO 15 rfl | exact mem_getO 16 rfl | exact mem_getO 17 rfl | exact mem_getO 18 rfl | exact mem_getO 19 rfl | exact mem_getO 20 rfl | exact mem_getO 21 rfl | exact mem_getO 22 rfl | exact mem_getO 23 rfl | exact mem_getO 24 rfl | exact mem_getO 25 rfl) hiM (congrArg RR.by_ hr)) ?_
    refine l_take (Own 5 1 (.slice r.a2 r.n r.c2) r.n (ints .u8 r.B)) ?_
    refine l_take (Blk r.by_ (.cells [Value.slice r.a2 r.n r.c2, .int .i64 r.p, .int .i64 r.q].toArray 99 (0, 0))) ?_
    refine l_call rfl Try.call67 rfl (qleft_ok _ _ r.by_ r.a2 r.n r.c2 r.B hro.len hro.ha2 hro.hc hro.u (by omega) r.p r.q hp0 hp1 hq0 hq1) ?_; rintro _ _ ⟨rfl, rfl⟩
    refine l_eql rfl rfl rfl ?_
    refine l_move rfl rfl ?_
    refine l_split 154 rfl ?_ ?_
    · intro hbr
      have hbr := of_decide_eq_true hbr
      refine l_guard_yes rfl rfl ?_
      refine l_move rfl rfl ?_
      refine l_guard_yes rfl rfl ?_
      refine l_move rfl rfl ?_
      refine l_guard_yes rfl rfl ?_
      refine l_nilCheck rfl rfl ?_
      refine l_guard_yes rfl rfl ?_
      refine l_fieldAddr rfl fa_51_3 rfl ?_
      refine l_guard_yes rfl rfl ?_
      refine l_ld rfl Try.isAgg45 rfl rfl ?_
      refine l_guard_yes rfl rfl ?_
      refine l_move rfl rfl ?_
      refine l_guard_yes rfl rfl ?_
      refine l_ixs rfl Try.underlying45 Try.sizeOf92 rfl rfl (by omega) (by omega) ?_
      refine l_guard_yes rfl rfl ?_
      refine l_loadc (v := .pointer (some ⟨r.by_, 0, none⟩)) rfl Try.isAgg92 rfl (ptr_cell (f := fun j => (S.R j).by_) (by first | exact mem_getO 0 rfl | exact mem_getO 1 rfl | exact mem_getO 2 rfl | exact mem_getO 3 rfl | exact mem_getO 4 rfl | exact mem_getO 5 rfl | exact mem_getO 6 rfl | exact mem_getO 7 rfl | exact mem_getO 8 rfl | exact mem_getO 9 rfl | exact mem_getO 10 rfl | exact mem_getO 11 rfl | exact mem_getO 12 rfl | exact mem_getO 13 rfl | exact mem_getO 14 rfl | exact mem_getO 15 rfl | exact mem_getO 16 rfl | exact mem_getO 17 rfl | exact mem_getO 18 rfl | exact mem_getO 19 rfl | exact mem_getO 20 rfl | exact mem_getO 21 rfl | exact mem_getO 22 rfl | exact mem_getO 23 rfl | exact mem_getO 24 rfl | exact mem_getO 25 rfl) hiM (congrArg RR.by_ hr)) ?_
      refine l_guard_yes rfl rfl ?_
      refine l_nilCheck rfl rfl ?_
      refine l_guard_yes rfl rfl ?_
      refine l_fieldAddr rfl fa_99_1 rfl ?_
      refine l_guard_yes rfl rfl ?_
      first | refine l_ld rfl Try.isAgg3 rfl rfl ?_ | refine l_ldw rfl Try.isAgg3 rfl (by omega) ?_
      refine l_guard_yes rfl rfl ?_
      refine l_eql rfl rfl rfl ?_
      refine l_pick_t rfl rfl rfl ?_
      refine l_move rfl rfl ?_
      refine l_split 168 rfl ?_ ?_
      · intro hbr
        have hbr := of_decide_eq_true hbr
        refine l_guard_yes rfl rfl ?_
        refine l_move rfl rfl ?_
        refine l_guard_yes rfl rfl ?_
        refine l_move rfl rfl ?_
        refine l_guard_yes rfl rfl ?_
        refine l_nilCheck rfl rfl ?_
        refine l_guard_yes rfl rfl ?_
        refine l_fieldAddr rfl fa_51_3 rfl ?_
        refine l_guard_yes rfl rfl ?_
        refine l_ld rfl Try.isAgg45 rfl rfl ?_
        refine l_guard_yes rfl rfl ?_
        refine l_move rfl rfl ?_
        refine l_guard_yes rfl rfl ?_
        refine l_ixs rfl Try.underlying45 Try.sizeOf92 rfl rfl (by omega) (by omega) ?_
        refine l_guard_yes rfl rfl ?_
        refine l_loadc (v := .pointer (some ⟨r.by_, 0, none⟩)) rfl Try.isAgg92 rfl (ptr_cell (f := fun j => (S.R j).by_) (by first | exact mem_getO 0 rfl | exact mem_getO 1 rfl | exact mem_getO 2 rfl | exact mem_getO 3 rfl | exact mem_getO 4 rfl | exact mem_getO 5 rfl | exact mem_getO 6 rfl | exact mem_getO 7 rfl | exact mem_getO 8 rfl | exact mem_getO 9 rfl | exact mem_getO 10 rfl | exact mem_getO 11 rfl | exact mem_getO 12 rfl | exact mem_getO 13 rfl | exact mem_getO 14 rfl | exact mem_getO 15 rfl | exact mem_getO 16 rfl | exact mem_getO 17 rfl | exact mem_getO 18 rfl | exact mem_getO 19 rfl | exact mem_getO 20 rfl | exact mem_getO 21 rfl | exact mem_getO 22 rfl | exact mem_getO 23 rfl | exact mem_getO 24 rfl | exact mem_getO 25 rfl) hiM (congrArg RR.by_ hr)) ?_
        refine l_guard_yes rfl rfl ?_
        refine l_nilCheck rfl rfl ?_
        refine l_guard_yes rfl rfl ?_
        refine l_fieldAddr rfl fa_99_2 rfl ?_
        refine l_guard_yes rfl rfl ?_
        first | refine l_ld rfl Try.isAgg26 rfl rfl ?_ | refine l_ldw rfl Try.isAgg26 rfl (by omega) ?_
        refine l_guard_yes rfl rfl ?_
        refine l_eql rfl rfl rfl ?_
        refine l_pick_t rfl rfl rfl ?_
        refine l_move rfl rfl ?_
        refine l_split 182 rfl ?_ ?_
        · intro hbr
          have hbr := of_decide_eq_true hbr
          refine l_guard_yes rfl rfl ?_
          refine l_move rfl rfl ?_
          refine l_guard_yes rfl rfl ?_
          refine l_move rfl rfl ?_
          refine l_guard_yes rfl rfl ?_
          refine l_nilCheck rfl rfl ?_
          refine l_guard_yes rfl rfl ?_
          refine l_fieldAddr rfl fa_51_3 rfl ?_
          refine l_guard_yes rfl rfl ?_
          refine l_ld rfl Try.isAgg45 rfl rfl ?_
          refine l_guard_yes rfl rfl ?_
          refine l_move rfl rfl ?_
          refine l_guard_yes rfl rfl ?_
          refine l_ixs rfl Try.underlying45 Try.sizeOf92 rfl rfl (by omega) (by omega) ?_
          refine l_guard_yes rfl rfl ?_
          refine l_loadc (v := .pointer (some ⟨r.by_, 0, none⟩)) rfl Try.isAgg92 rfl (ptr_cell (f := fun j => (S.R j).by_) (by first | exact mem_getO 0 rfl | exact mem_getO 1 rfl | exact mem_getO 2 rfl | exact mem_getO 3 rfl | exact mem_getO 4 rfl | exact mem_getO 5 rfl | exact mem_getO 6 rfl | exact mem_getO 7 rfl | exact mem_getO 8 rfl | exact mem_getO 9 rfl | exact mem_getO 10 rfl | exact mem_getO 11 rfl | exact mem_getO 12 rfl | exact mem_getO 13 rfl | exact mem_getO 14 rfl | exact mem_getO 15 rfl | exact mem_getO 16 rfl | exact mem_getO 17 rfl | exact mem_getO 18 rfl | exact mem_getO 19 rfl | exact mem_getO 20 rfl | exact mem_getO 21 rfl | exact mem_getO 22 rfl | exact mem_getO 23 rfl | exact mem_getO 24 rfl | exact mem_getO 25 rfl) hiM (congrArg RR.by_ hr)) ?_
          refine l_guard_yes rfl rfl ?_
          refine l_take (Own 5 1 (.slice r.a2 r.n r.c2) r.n (ints .u8 r.B)) ?_
          refine l_take (Blk r.by_ (.cells [Value.slice r.a2 r.n r.c2, .int .i64 r.p, .int .i64 r.q].toArray 99 (0, 0))) ?_
          refine l_call rfl Try.call68 rfl (qend_ok _ _ r.by_ r.a2 r.n r.c2 r.B hro.len hro.ha2 hro.hc hro.u (by omega) r.p r.q hp0 hp1 hq0 hq1) ?_; rintro _ _ ⟨rfl, rfl⟩
          refine l_guard_yes rfl rfl ?_
          refine l_eql rfl rfl rfl ?_
          refine l_pick_t rfl rfl rfl ?_
          refine l_assign rfl rfl ?_
          refine l_nil ?_
          refine g_take (BigBut S.M i (fun j => rdA (S.R j))) ?_
          refine g_take (Own 5 1 (.slice r.a2 r.n r.c2) r.n (ints .u8 r.B)) ?_
          refine g_take (Blk r.by_ (.cells [Value.slice r.a2 r.n r.c2, .int .i64 r.p, .int .i64 r.q].toArray 99 (0, 0))) ?_
          refine g_take (Own 5 1 (.slice (some ⟨r.g, 0, none⟩) r.n r.n) r.n (ints .u8 r.B)) ?_
          refine g_take (Blk r.bs (.cells [Value.slice (some ⟨r.g, 0, none⟩) r.n r.n, .int .i64 r.p].toArray 109 (0, 0))) ?_
          refine g_take (Blk r.bq (.cells [Value.pointer (some ⟨r.bs, 0, none⟩), .int .i64 r.q].toArray 113 (0, 0))) ?_
          refine g_closer (r := r) ?_
          rw [ptrs_r (R := S.R) (N := S.M) (i := i) (r := r) (by rw [hr]), ptrs_q (R := S.R) (N := S.M) (i := i) (r := r) (by rw [hr]), ← hgl, ← hgv]
          refine g_ret Try.func22 rfl (.tmp rfl .nil) ?_
          exact Gives.mki ⟨⟨S.N, S.W, S.wl, S.wc, S.vl, S.vc, S.M, upF S.R i r, S.rl, S.rc, S.ql, S.qc, S.K8, S.B8, S.ka8, S.kc8, S.K, S.B, S.ka, S.kc⟩, (by first | rfl | exact congrArg Value.bool (decide_eq_true rfl) | (simp [resVal]; done)), ((hS.le (T2 := T + 8 + os.size) (by omega)).putR (i := i) (r := r) hro), ⟨Nat.le_refl _, Nat.le_refl _⟩, rfl⟩
        · intro hbr
          have hbr := of_decide_eq_false hbr
          (exfalso; first | omega | (simp at hbr; done))
      · intro hbr
        have hbr := of_decide_eq_false hbr
        (exfalso; first | omega | (simp at hbr; done))
    · intro hbr
      have hbr := of_decide_eq_false hbr
      (exfalso; first | omega | (simp at hbr; done))
  intro hbr
  have hbr := of_decide_eq_false hbr
  refine g_skip ?_
  refine g_inBlock ?_
  refine g_seq ?_
  refine g_region ?_
  refine l_assign rfl rfl ?_
  refine l_nil ?_
  refine g_take (BigBut S.M i (fun j => rdA (S.R j))) ?_
  refine g_take (Own 5 1 (.slice r.a2 r.n r.c2) r.n (ints .u8 r.B)) ?_
  refine g_take (Blk r.by_ (.cells [Value.slice r.a2 r.n r.c2, .int .i64 r.p, .int .i64 r.q].toArray 99 (0, 0))) ?_
  refine g_take (Own 5 1 (.slice (some ⟨r.g, 0, none⟩) r.n r.n) r.n (ints .u8 r.B)) ?_
  refine g_take (Blk r.bs (.cells [Value.slice (some ⟨r.g, 0, none⟩) r.n r.n, .int .i64 r.p].toArray 109 (0, 0))) ?_
  refine g_take (Blk r.bq (.cells [Value.pointer (some ⟨r.bs, 0, none⟩), .int .i64 r.q].toArray 113 (0, 0))) ?_
  refine g_closer (r := r) ?_
  rw [ptrs_r (R := S.R) (N := S.M) (i := i) (r := r) (by rw [hr]), ptrs_q (R := S.R) (N := S.M) (i := i) (r := r) (by rw [hr]), ← hgl, ← hgv]
  refine g_ret Try.func22 rfl (.tmp rfl .nil) ?_
  exact Gives.mki ⟨⟨S.N, S.W, S.wl, S.wc, S.vl, S.vc, S.M, upF S.R i r, S.rl, S.rc, S.ql, S.qc, S.K8, S.B8, S.ka8, S.kc8, S.K, S.B, S.ka, S.kc⟩, (by first | rfl | exact congrArg Value.bool (decide_eq_true rfl) | (simp [resVal]; done)), ((hS.le (T2 := T + 8 + os.size) (by omega)).putR (i := i) (r := r) hro), ⟨Nat.le_refl _, Nat.le_refl _⟩, rfl⟩
end Go.Proofs.Ytnkmhhjldfapdaa.Fw
