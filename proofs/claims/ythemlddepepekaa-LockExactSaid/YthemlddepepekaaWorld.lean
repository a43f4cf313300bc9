import Derived.Test.YthemlddepepekaaRMem
import Derived.Test.YthemlddepepekaaKeep
import Derived.Test.YthemlddepepekaaFw32
namespace Go.Proofs.Ythemlddepepekaa.Fw
open Go Go.Proofs
set_option linter.unusedVariables false
set_option linter.unusedSimpArgs false
set_option maxRecDepth 10000

/-- A memory and the document's; a chain and the document's; all that there is. -/
structure MP where
  x : Nat
  g : Nat
  c : Nat
  y : Nat
  h : Nat
  d : Nat
  W : List Int
def mpA (m : MP) : Atom := Quad (Blk m.x (.cells [Value.slice (some ⟨m.g, 0, none⟩) 32 m.c].toArray 81 (0, 0))) (Own 51 1 (.slice (some ⟨m.g, 0, none⟩) 32 m.c) 32 (ints .u32 m.W)) (Blk m.y (.cells [Value.slice (some ⟨m.h, 0, none⟩) 32 m.d].toArray 67 (0, 0))) (Own 51 1 (.slice (some ⟨m.h, 0, none⟩) 32 m.d) 32 (ints .u32 m.W))
structure MOk (m : MP) : Prop where
  len : m.W.length = 32
  hc : 32 ≤ m.c
  hd : 32 ≤ m.d
  u : W32s m.W
structure CR where
  b : Nat
  al : Option Addr
  cl : Nat
  tt : Option Addr
  ct : Nat
  b2 : Nat
  al2 : Option Addr
  cl2 : Nat
  tt2 : Option Addr
  ct2 : Nat
  L : List Int
  h : Int
  q : Bool
  T : List Int
def chR (c : CR) : List Value := [.pointer (some ⟨c.b, 0, none⟩), .pointer (some ⟨c.b2, 0, none⟩)]
def chA (c : CR) : Atom := Star (Quad (Blk c.b (.cells [Value.slice c.al c.L.length c.cl, .int .i64 c.h, .bool c.q, .slice c.tt c.T.length c.ct].toArray 84 (0, 0))) (Own 3 1 (.slice c.al c.L.length c.cl) c.L.length (ints .i64 c.L)) (Own 51 1 (.slice c.tt c.T.length c.ct) c.T.length (ints .u32 c.T)) (Blk c.b2 (.cells [Value.slice c.al2 c.L.length c.cl2, .int .i64 c.h, .bool c.q, .slice c.tt2 c.T.length c.ct2].toArray 104 (0, 0)))) (Star (Own 3 1 (.slice c.al2 c.L.length c.cl2) c.L.length (ints .i64 c.L)) (Own 51 1 (.slice c.tt2 c.T.length c.ct2) c.T.length (ints .u32 c.T)))
structure COk (c : CR) : Prop where
  len : c.L.length ≤ 2147483647
  lb : I64s c.L
  hal : c.L.length = 0 ∨ ∃ g, c.al = some ⟨g, 0, none⟩
  htt : c.T.length = 0 ∨ ∃ g, c.tt = some ⟨g, 0, none⟩
  hal2 : c.L.length = 0 ∨ ∃ g, c.al2 = some ⟨g, 0, none⟩
  htt2 : c.T.length = 0 ∨ ∃ g, c.tt2 = some ⟨g, 0, none⟩
  ok : ChOk c.L.length c.h c.q c.T.length
  u : W32s c.T
structure WS where
  m : MP
  p : MP
  N : Nat
  C : Nat → CR
  la : Option Addr
  lc : Nat
  K : Nat
  B : Nat → BK
  ka : Option Addr
  kc : Nat
structure SOk (S : WS) : Prop where
  hm : MOk S.m
  hp : MOk S.p
  hC : ∀ j, j < S.N → COk (S.C j)
  hla : S.N = 0 ∨ ∃ g, S.la = some ⟨g, 0, none⟩
  hB : ∀ j, j < S.K → BkOk (S.B j)
  hka : S.K = 0 ∨ ∃ g, S.ka = some ⟨g, 0, none⟩
theorem chR_len (C : Nat → CR) (N : Nat) : ∀ q, q < N → (chR (C q)).length = 2 := fun q _ => rfl
theorem chA_out {w0 : World} {F : List Atom} {w : World} {c : CR} (h : Holds w0 (chA c :: F) w) : Holds w0 (Blk c.b (.cells [Value.slice c.al c.L.length c.cl, .int .i64 c.h, .bool c.q, .slice c.tt c.T.length c.ct].toArray 84 (0, 0)) :: Own 3 1 (.slice c.al c.L.length c.cl) c.L.length (ints .i64 c.L) :: Own 51 1 (.slice c.tt c.T.length c.ct) c.T.length (ints .u32 c.T) :: Blk c.b2 (.cells [Value.slice c.al2 c.L.length c.cl2, .int .i64 c.h, .bool c.q, .slice c.tt2 c.T.length c.ct2].toArray 104 (0, 0)) :: Own 3 1 (.slice c.al2 c.L.length c.cl2) c.L.length (ints .i64 c.L) :: Own 51 1 (.slice c.tt2 c.T.length c.ct2) c.T.length (ints .u32 c.T) :: F) w := by
  have h1 := Quad.out (Star.out h)
  have h2 := h1.perm (List.perm_append_comm (l₁ := [_, _, _, _]) (l₂ := [_]) |>.append_right F)
  have h3 := (Star.out h2).perm (List.perm_append_comm (l₁ := [_, _]) (l₂ := [_, _, _, _]) |>.append_right F)
  exact h3
theorem chA_in {w0 : World} {F : List Atom} {w : World} {c : CR} (h : Holds w0 (Blk c.b (.cells [Value.slice c.al c.L.length c.cl, .int .i64 c.h, .bool c.q, .slice c.tt c.T.length c.ct].toArray 84 (0, 0)) :: Own 3 1 (.slice c.al c.L.length c.cl) c.L.length (ints .i64 c.L) :: Own 51 1 (.slice c.tt c.T.length c.ct) c.T.length (ints .u32 c.T) :: Blk c.b2 (.cells [Value.slice c.al2 c.L.length c.cl2, .int .i64 c.h, .bool c.q, .slice c.tt2 c.T.length c.ct2].toArray 104 (0, 0)) :: Own 3 1 (.slice c.al2 c.L.length c.cl2) c.L.length (ints .i64 c.L) :: Own 51 1 (.slice c.tt2 c.T.length c.ct2) c.T.length (ints .u32 c.T) :: F) w) : Holds w0 (chA c :: F) w := by
  have h3 := h.perm (List.perm_append_comm (l₁ := [_, _, _, _]) (l₂ := [_, _]) |>.append_right F)
  have h2 := (Star.mk h3).perm (List.perm_append_comm (l₁ := [_]) (l₂ := [_, _, _, _]) |>.append_right F)
  exact Star.mk (Quad.mk h2)
theorem SOk.mem {S : WS} (h : SOk S) {m : MP} (hm : MOk m) : SOk ⟨m, S.p, S.N, S.C, S.la, S.lc, S.K, S.B, S.ka, S.kc⟩ := ⟨hm, h.hp, h.hC, h.hla, h.hB, h.hka⟩
theorem SOk.swap {S : WS} (h : SOk S) : SOk ⟨S.p, S.m, S.N, S.C, S.la, S.lc, S.K, S.B, S.ka, S.kc⟩ := ⟨h.hp, h.hm, h.hC, h.hla, h.hB, h.hka⟩
theorem SOk.put {S : WS} (h : SOk S) {i : Nat} {c : CR} (hc : COk c) : SOk ⟨S.m, S.p, S.N, upF S.C i c, S.la, S.lc, S.K, S.B, S.ka, S.kc⟩ := ⟨h.hm, h.hp, fun j hj => by
  simp only at hj ⊢
  by_cases e : j = i
  · subst e; rw [upF_at]; exact hc
  · rw [upF_ne e]; exact h.hC j hj, h.hla, h.hB, h.hka⟩
theorem SOk.new {S : WS} (h : SOk S) {c : CR} (hc : COk c) (g l : Nat) : SOk ⟨S.m, S.p, S.N + 1, upF S.C S.N c, some ⟨g, 0, none⟩, l, S.K, S.B, S.ka, S.kc⟩ := ⟨h.hm, h.hp, fun j hj => by
  simp only at hj ⊢
  by_cases e : j = S.N
  · subst e; rw [upF_at]; exact hc
  · rw [upF_ne e]; exact h.hC j (by omega), .inr ⟨g, rfl⟩, h.hB, h.hka⟩
theorem SOk.bk {S : WS} (h : SOk S) {K : Nat} {B : Nat → BK} (hB : ∀ j, j < K → BkOk (B j)) {ka : Option Addr} (hka : ∃ g, ka = some ⟨g, 0, none⟩) (kc : Nat) : SOk ⟨S.m, S.p, S.N, S.C, S.la, S.lc, K, B, ka, kc⟩ := ⟨h.hm, h.hp, h.hC, h.hla, hB, .inr hka⟩
theorem ch_rows {C : Nat → CR} {N i : Nat} {c : CR} (h : chR c = chR (C i)) : rowsN N (fun j => chR (C j)) = rowsN N (fun j => chR (upF C i c j)) := rowsN_congr fun k hk => by
  by_cases e : k = i
  · subst e; rw [upF_at, h]
  · rw [upF_ne e]
theorem ch_row {w0 : World} {F : List Atom} {g N c i : Nat} {C : Nat → CR} {m : CR} (hm : Own 95 2 (.slice (some ⟨g, 0, none⟩) N c) N (rowsN N (fun j => chR (C j))) ∈ F) (hi : i < N) (hx : C i = m) : RowAt w0 F g (0 + (i : Int).toNat * 2) (chR m) := by
  have h := rn_row (w0 := w0) (f := fun j => chR (C j)) (k := i) hm (chR_len C N) hi
  rw [Int.toNat_natCast, ← hx]
  exact h
theorem own_ra {w0 : World} {F : List Atom} {kd : IntKind} {E : Nat} {a : Option Addr} {n c : Nat} {W : List Int} (h : ∀ w, Holds w0 F w → (Own E 1 (.slice a n c) n (ints kd W)).ok (hp w)) (hW : W.length = n) (w : World) (hw : Holds w0 F w) : RA w0 F kd a n c W := by
  refine ⟨hW, ?_⟩
  rcases (h w hw).2 with ⟨hv, h0⟩ | ⟨g, cap, cur, hv, _⟩
  · injection hv with e1 _ e2
    exact .inl ⟨h0, fun _ => e2⟩
  · injection hv with e1 _ _
    subst e1
    exact .inr ⟨g, 0, rfl, fun w hw => own_row (h w hw)⟩
theorem ch_ra {w0 : World} {F : List Atom} {N j : Nat} {C : Nat → CR} (hm : BigF N (fun j => chA (C j)) ∈ F) (hj : j < N) (w : World) (hw : Holds w0 F w) : RA w0 F .i64 (C j).al2 (C j).L.length (C j).cl2 (C j).L :=
  own_ra (E := 3) (fun w hw => (big_ok hm hj hw).2.1.1) rfl w hw
theorem TakG.w32 {W : List Int} {n : Nat} {a k e : Int} {W2 : List Int} (H : TakG W n a k e W2) (h : W32s W) : W32s W2 ∧ 0 ≤ k ∧ k ≤ 4294967295 := by
  rcases H with ⟨a1, b, c, d⟩ | ⟨a1, b, c, d, f⟩ | ⟨a1, b, c, d, f⟩
  · subst_vars; exact ⟨h, by omega, by omega⟩
  · subst_vars; exact ⟨h, by omega, by omega⟩
  · subst_vars
    have hx := h a.toNat
    refine ⟨h.set _ ⟨by omega, by omega⟩, hx.1, hx.2⟩
theorem FreG.w32 {W : List Int} {n : Nat} {a t e : Int} {W2 : List Int} (H : FreG W n a t e W2) (h : W32s W) : W32s W2 := by
  rcases H with ⟨a1, b, c⟩ | ⟨a1, b, c, d⟩ | ⟨a1, b, c, d, f⟩
  · subst_vars; exact h
  · subst_vars; exact h
  · subst_vars; exact h.set _ ⟨by omega, by omega⟩
theorem W32s.app {T : List Int} (h : W32s T) {k : Int} (hk : 0 ≤ k ∧ k ≤ 4294967295) : W32s (T ++ [k]) := .of fun x hx => by
  rcases List.mem_append.1 hx with hx | hx
  · exact h.all x hx
  · simp only [List.mem_singleton] at hx
    subst hx; exact hk
theorem W32s.take {T : List Int} (h : W32s T) (n : Nat) : W32s (T.take n) := .of fun x hx => h.all x (List.mem_of_mem_take hx)
theorem StepG.w32 {n : Nat} {W L T : List Int} {h : Int} {q b : Bool} {e : Int} {W2 T2 : List Int} {h2 : Int} {q2 : Bool} (H : StepG n W L h q T b e W2 h2 q2 T2) (hW : W32s W) (hT : W32s T) : W32s W2 ∧ W32s T2 := by
  rcases H with ⟨a1, a2, a3, a4, a5, a6, a7⟩ | ⟨a1, a2, a3, a4, a5, a6⟩ | ⟨a1, a2, a3, k, a4, a5⟩
  · subst_vars; exact ⟨hW, hT⟩
  · subst_vars; exact ⟨hW, hT⟩
  · have hk := a4.w32 hW
    rcases a5 with ⟨_, _, _, a8⟩ | ⟨_, _, _, a8⟩
    · subst a8; exact ⟨hk.1, hT.app hk.2⟩
    · subst a8; exact ⟨hk.1, hT⟩
theorem BackG.w32 {n : Nat} {W L T : List Int} {h : Int} {q b : Bool} {e : Int} {W2 T2 : List Int} {h2 : Int} {q2 : Bool} (H : BackG n W L h q T b e W2 h2 q2 T2) (hW : W32s W) (hT : W32s T) : W32s W2 ∧ W32s T2 := by
  obtain ⟨rfl, H⟩ := H
  rcases H with ⟨a1, a2, a3, a4, a5, a6⟩ | ⟨a1, a2, a3, a4, a5, a6, a7⟩ | ⟨a1, a2, a3, a4⟩
  · subst a4 a6; exact ⟨hW, hT⟩
  · subst a5 a7; exact ⟨hW, hT⟩
  · rcases a4 with ⟨_, _, _, a8⟩ | ⟨_, _, _, a8⟩
    · subst a8; exact ⟨a3.w32 hW, hT⟩
    · subst a8; exact ⟨a3.w32 hW, hT.take _⟩
theorem wr_ok {V : List Int} {n : Nat} (hV : V.length = n) (hU : W32s V) (a x : Int) (x0 : 0 ≤ x) (x1 : x ≤ 4294967295) : (wrW V n a x).length = n ∧ W32s (wrW V n a x) := by
  unfold wrW
  split
  · exact ⟨by simpa using hV, hU.set _ ⟨x0, x1⟩⟩
  · exact ⟨hV, hU⟩
section
variable {P : Program} {f : Fr} {w0 : World} {K : Post} {n' : Nat} {d' : List Deferred} {ops : Array Oper} {rest : List Oper} {k : List Item} {e : Env} {F : List Atom} {N i : Nat} {C : Nat → CR} {m : MP} {c : CR} {V : List Int}
theorem l_openm (hk : GL P f w0 K n' d' ops rest k e (Blk m.x (.cells [Value.slice (some ⟨m.g, 0, none⟩) 32 m.c].toArray 81 (0, 0)) :: Own 51 1 (.slice (some ⟨m.g, 0, none⟩) 32 m.c) 32 (ints .u32 m.W) :: Blk m.y (.cells [Value.slice (some ⟨m.h, 0, none⟩) 32 m.d].toArray 67 (0, 0)) :: Own 51 1 (.slice (some ⟨m.h, 0, none⟩) 32 m.d) 32 (ints .u32 m.W) :: F)) : GL P f w0 K n' d' ops rest k e (mpA m :: F) := l_quad hk
theorem l_closem (V : List Int) (hk : GL P f w0 K n' d' ops rest k e (mpA ⟨m.x, m.g, m.c, m.y, m.h, m.d, V⟩ :: F)) : GL P f w0 K n' d' ops rest k e (Blk m.x (.cells [Value.slice (some ⟨m.g, 0, none⟩) 32 m.c].toArray 81 (0, 0)) :: Own 51 1 (.slice (some ⟨m.g, 0, none⟩) 32 m.c) 32 (ints .u32 V) :: Blk m.y (.cells [Value.slice (some ⟨m.h, 0, none⟩) 32 m.d].toArray 67 (0, 0)) :: Own 51 1 (.slice (some ⟨m.h, 0, none⟩) 32 m.d) 32 (ints .u32 V) :: F) := l_unquad hk
theorem g_closem (V : List Int) (hk : G P f w0 K n' d' k e (mpA ⟨m.x, m.g, m.c, m.y, m.h, m.d, V⟩ :: F)) : G P f w0 K n' d' k e (Blk m.x (.cells [Value.slice (some ⟨m.g, 0, none⟩) 32 m.c].toArray 81 (0, 0)) :: Own 51 1 (.slice (some ⟨m.g, 0, none⟩) 32 m.c) 32 (ints .u32 V) :: Blk m.y (.cells [Value.slice (some ⟨m.h, 0, none⟩) 32 m.d].toArray 67 (0, 0)) :: Own 51 1 (.slice (some ⟨m.h, 0, none⟩) 32 m.d) 32 (ints .u32 V) :: F) := g_unquad hk
theorem l_openc (hi : i < N) (hc : C i = c) (hk : GL P f w0 K n' d' ops rest k e (Blk c.b (.cells [Value.slice c.al c.L.length c.cl, .int .i64 c.h, .bool c.q, .slice c.tt c.T.length c.ct].toArray 84 (0, 0)) :: Own 3 1 (.slice c.al c.L.length c.cl) c.L.length (ints .i64 c.L) :: Own 51 1 (.slice c.tt c.T.length c.ct) c.T.length (ints .u32 c.T) :: Blk c.b2 (.cells [Value.slice c.al2 c.L.length c.cl2, .int .i64 c.h, .bool c.q, .slice c.tt2 c.T.length c.ct2].toArray 104 (0, 0)) :: Own 3 1 (.slice c.al2 c.L.length c.cl2) c.L.length (ints .i64 c.L) :: Own 51 1 (.slice c.tt2 c.T.length c.ct2) c.T.length (ints .u32 c.T) :: BigBut N i (fun j => chA (C j)) :: F)) : GL P f w0 K n' d' ops rest k e (BigF N (fun j => chA (C j)) :: F) := by
  refine l_focus (A := fun j => chA (C j)) i hi ?_
  rw [hc]
  exact gl_heap (fun w hw => chA_out hw) hk
theorem g_closec (hk : G P f w0 K n' d' k e (BigF N (fun j => chA (upF C i c j)) :: F)) : G P f w0 K n' d' k e (Blk c.b (.cells [Value.slice c.al c.L.length c.cl, .int .i64 c.h, .bool c.q, .slice c.tt c.T.length c.ct].toArray 84 (0, 0)) :: Own 3 1 (.slice c.al c.L.length c.cl) c.L.length (ints .i64 c.L) :: Own 51 1 (.slice c.tt c.T.length c.ct) c.T.length (ints .u32 c.T) :: Blk c.b2 (.cells [Value.slice c.al2 c.L.length c.cl2, .int .i64 c.h, .bool c.q, .slice c.tt2 c.T.length c.ct2].toArray 104 (0, 0)) :: Own 3 1 (.slice c.al2 c.L.length c.cl2) c.L.length (ints .i64 c.L) :: Own 51 1 (.slice c.tt2 c.T.length c.ct2) c.T.length (ints .u32 c.T) :: BigBut N i (fun j => chA (C j)) :: F) :=
  g_heap (fun w hw => chA_in hw) (g_unfocus (fun j => chA (upF C i c j)) (by simp only [upF_at]) (fun k _ hk => by simp only [upF_ne hk]) hk)
theorem l_closec (hk : GL P f w0 K n' d' ops rest k e (BigF N (fun j => chA (upF C i c j)) :: F)) : GL P f w0 K n' d' ops rest k e (Blk c.b (.cells [Value.slice c.al c.L.length c.cl, .int .i64 c.h, .bool c.q, .slice c.tt c.T.length c.ct].toArray 84 (0, 0)) :: Own 3 1 (.slice c.al c.L.length c.cl) c.L.length (ints .i64 c.L) :: Own 51 1 (.slice c.tt c.T.length c.ct) c.T.length (ints .u32 c.T) :: Blk c.b2 (.cells [Value.slice c.al2 c.L.length c.cl2, .int .i64 c.h, .bool c.q, .slice c.tt2 c.T.length c.ct2].toArray 104 (0, 0)) :: Own 3 1 (.slice c.al2 c.L.length c.cl2) c.L.length (ints .i64 c.L) :: Own 51 1 (.slice c.tt2 c.T.length c.ct2) c.T.length (ints .u32 c.T) :: BigBut N i (fun j => chA (C j)) :: F) :=
  gl_heap (fun w hw => chA_in hw) (l_unfocus (fun j => chA (upF C i c j)) (by simp only [upF_at]) (fun k _ hk => by simp only [upF_ne hk]) hk)
theorem g_snocc (hk : G P f w0 K n' d' k e (BigF (N + 1) (fun j => chA (upF C N c j)) :: F)) : G P f w0 K n' d' k e (Blk c.b (.cells [Value.slice c.al c.L.length c.cl, .int .i64 c.h, .bool c.q, .slice c.tt c.T.length c.ct].toArray 84 (0, 0)) :: Own 3 1 (.slice c.al c.L.length c.cl) c.L.length (ints .i64 c.L) :: Own 51 1 (.slice c.tt c.T.length c.ct) c.T.length (ints .u32 c.T) :: Blk c.b2 (.cells [Value.slice c.al2 c.L.length c.cl2, .int .i64 c.h, .bool c.q, .slice c.tt2 c.T.length c.ct2].toArray 104 (0, 0)) :: Own 3 1 (.slice c.al2 c.L.length c.cl2) c.L.length (ints .i64 c.L) :: Own 51 1 (.slice c.tt2 c.T.length c.ct2) c.T.length (ints .u32 c.T) :: BigF N (fun j => chA (C j)) :: F) :=
  g_heap (fun w hw => chA_in hw) (g_snocb (fun j => chA (upF C N c j)) (by simp only [upF_at]) (fun k hk => by simp only [upF_ne (show k ≠ N by omega)]) hk)
end
end Go.Proofs.Ythemlddepepekaa.Fw
