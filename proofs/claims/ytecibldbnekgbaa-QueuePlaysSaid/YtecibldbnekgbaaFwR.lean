import Derived.Test.YtecibldbnekgbaaFw23
import Derived.Test.YtecibldbnekgbaaFw16
namespace Go.Proofs.Ytecibldbnekgbaa.Fw
open Go
set_option linter.unusedVariables false
set_option linter.unusedSimpArgs false
set_option linter.unusedSectionVars false

/- Lists of any things, each told by a row; objects that are told by a number each. -/
theorem big_ok {w0 : World} {F : List Atom} {w : World} {N j : Nat} {A : Nat → Atom} (hm : BigF N A ∈ F) (hj : j < N) (hw : Holds w0 F w) : (A j).ok (hp w) := (hw.ok _ hm).1 j hj
theorem blk_cell {b o E : Nat} {c : List Value} {v : Value} {w : World} (h : (Blk b (.cells c.toArray E (0, 0))).ok (hp w)) (hv : c[o]? = some v) : w.cell? ⟨b, o, none⟩ = some v := cell_of_has h hv
theorem own_row {E sz b n cap : Nat} {xs : List Value} {w : World} (h : (Own E sz (.slice (some ⟨b, 0, none⟩) n cap) n xs).ok (hp w)) : ∀ (j : Nat) u, xs[j]? = some u → w.cell? ⟨b, 0 + j, none⟩ = some u := fun i u hu => by
  obtain ⟨h1, h2⟩ := h
  rcases h2 with ⟨h2, _⟩ | ⟨g, cap2, cur, hv, hg, h3, h4, h5, h6⟩
  · cases h2
  · cases hv
    rw [← h6, List.getElem?_take] at hu
    split at hu
    · rw [Nat.zero_add]
      exact cell_of_has hg hu
    · cases hu
/- Rows that are told by a number each. -/
def rowsN (N : Nat) (f : Nat → List Value) : List Value := ((List.range N).map f).flatten
theorem rowsN_snoc (N : Nat) (f : Nat → List Value) : rowsN (N + 1) f = rowsN N f ++ f N := by simp [rowsN, List.range_succ]
theorem rowsN_congr {N : Nat} {f g : Nat → List Value} (h : ∀ k, k < N → f k = g k) : rowsN N f = rowsN N g := by
  unfold rowsN
  congr 1
  exact List.map_congr_left fun k hk => h k (List.mem_range.1 hk)
theorem rowsN_len {sz : Nat} {f : Nat → List Value} : ∀ {N : Nat}, (∀ k, k < N → (f k).length = sz) → (rowsN N f).length = N * sz
  | 0, _ => by simp [rowsN]
  | N + 1, h => by
    rw [rowsN_snoc, List.length_append, rowsN_len fun k hk => h k (by omega), h N (by omega), Nat.add_mul, Nat.one_mul]
theorem rowsN_get {sz k j : Nat} {f : Nat → List Value} : ∀ {N : Nat}, (∀ q, q < N → (f q).length = sz) → k < N → j < sz → (rowsN N f)[k * sz + j]? = (f k)[j]?
  | 0, _, hk, _ => by omega
  | N + 1, h, hk, hj => by
    have hl := rowsN_len (sz := sz) (f := f) (N := N) fun q hq => h q (by omega)
    rw [rowsN_snoc]
    by_cases e : k = N
    · subst e
      rw [List.getElem?_append_right (by omega), hl]
      congr 1
      omega
    · have h1 : (k + 1) * sz ≤ N * sz := Nat.mul_le_mul_right _ (by omega)
      rw [Nat.add_mul, Nat.one_mul] at h1
      rw [List.getElem?_append_left (by omega)]
      exact rowsN_get (fun q hq => h q (by omega)) (by omega) hj
theorem rowsN_set {sz k j : Nat} {f : Nat → List Value} {v : Value} : ∀ {N : Nat}, (∀ q, q < N → (f q).length = sz) → k < N → j < sz → (rowsN N f).set (k * sz + j) v = rowsN N (fun q => if q = k then (f k).set j v else f q)
  | 0, _, hk, _ => by omega
  | N + 1, h, hk, hj => by
    have hl := rowsN_len (sz := sz) (f := f) (N := N) fun q hq => h q (by omega)
    rw [rowsN_snoc, rowsN_snoc, List.set_append, hl]
    by_cases e : k = N
    · subst e
      rw [if_neg (by omega), if_pos rfl, show k * sz + j - k * sz = j by omega]
      congr 1
      exact rowsN_congr fun q hq => by rw [if_neg (by omega)]
    · have h1 : (k + 1) * sz ≤ N * sz := Nat.mul_le_mul_right _ (by omega)
      rw [Nat.add_mul, Nat.one_mul] at h1
      rw [if_pos (by omega), if_neg (fun e2 => e e2.symm), rowsN_set (fun q hq => h q (by omega)) (by omega) hj]
theorem rn_cell {w0 : World} {F : List Atom} {g E sz m cap N k j : Nat} {f : Nat → List Value} {v : Value} (hm : Own E sz (.slice (some ⟨g, 0, none⟩) m cap) m (rowsN N f) ∈ F) (hf : ∀ q, q < N → (f q).length = sz) (hk : k < N) (hj : j < sz) (hv : (f k)[j]? = some v) : CellAt w0 F g (0 + k * sz + j) v := by
  have := (RowAt.own (w0 := w0) hm).cell (j := k * sz + j) (v := v) (by rw [rowsN_get hf hk hj]; exact hv)
  rw [show 0 + k * sz + j = 0 + (k * sz + j) by omega]
  exact this
theorem rn_row {w0 : World} {F : List Atom} {g E sz m cap N k : Nat} {f : Nat → List Value} (hm : Own E sz (.slice (some ⟨g, 0, none⟩) m cap) m (rowsN N f) ∈ F) (hf : ∀ q, q < N → (f q).length = sz) (hk : k < N) : RowAt w0 F g (0 + k * sz) (f k) := fun w hw j u hu =>
  rn_cell hm hf hk (by have h1 := (List.getElem?_eq_some_iff.1 hu).1; have h2 := hf k hk; omega) hu w hw
def upF {α : Type} (M : Nat → α) (i : Nat) (x : α) : Nat → α := fun k => if k = i then x else M k
theorem upF_at {α : Type} {M : Nat → α} {i : Nat} {x : α} : upF M i x i = x := if_pos rfl
theorem upF_ne {α : Type} {M : Nat → α} {i k : Nat} {x : α} (h : k ≠ i) : upF M i x k = M k := if_neg h
theorem rowsN_push {α : Type} {r : α → List Value} {K : Nat} {B : Nat → α} {x : α} : rowsN K (fun j => r (B j)) ++ r x = rowsN (K + 1) (fun j => r (upF B K x j)) := by
  rw [rowsN_snoc]
  simp only [upF_at]
  congr 1
  exact rowsN_congr fun k hk => by simp only [upF_ne (show k ≠ K by omega)]
theorem rowsN_pushI {α : Type} {r : α → Nat → List Value} {K : Nat} {B : Nat → α} {x : α} : rowsN K (fun j => r (B j) j) ++ r x K = rowsN (K + 1) (fun j => r (upF B K x j) j) := by
  rw [rowsN_snoc]
  simp only [upF_at]
  congr 1
  exact rowsN_congr fun k hk => by simp only [upF_ne (show k ≠ K by omega)]
theorem big_row {w0 : World} {F : List Atom} {N j g E sz n cap : Nat} {xs : List Value} {A : Nat → Atom} (hm : BigF N A ∈ F) (hj : j < N) (hA : A j = Own E sz (.slice (some ⟨g, 0, none⟩) n cap) n xs) : RowAt w0 F g 0 xs := fun w hw => by
  have := big_ok hm hj hw
  rw [hA] at this
  exact own_row this
theorem big_rowo {w0 : World} {F : List Atom} {N j E sz n cap : Nat} {a : Option Addr} {xs : List Value} {A : Nat → Atom} (hm : BigF N A ∈ F) (hj : j < N) (hA : A j = Own E sz (.slice a n cap) n xs) (ha : n = 0 ∨ ∃ g, a = some ⟨g, 0, none⟩) : n = 0 ∨ ∃ b o, a = some ⟨b, o, none⟩ ∧ RowAt w0 F b o xs := by
  rcases ha with h | ⟨g, rfl⟩
  · exact .inl h
  · exact .inr ⟨g, 0, rfl, big_row hm hj hA⟩
/- Lists. -/
def rowsT {α : Type} (f : α → List Value) (L : List α) : List Value := (L.map f).flatten
theorem rowsT_snoc {α : Type} (f : α → List Value) (L : List α) (x : α) : rowsT f L ++ f x = rowsT f (L ++ [x]) := by simp [rowsT]
theorem rowsT_len {α : Type} {f : α → List Value} {sz : Nat} (hf : ∀ x, (f x).length = sz) : ∀ (L : List α), (rowsT f L).length = L.length * sz
  | [] => by simp [rowsT]
  | x :: L => by
    have := rowsT_len hf L
    simp only [rowsT, List.map_cons, List.flatten_cons, List.length_append, List.length_cons, hf] at this ⊢
    rw [this, Nat.add_mul]; omega
theorem rowsT_scalar {α : Type} {f : α → List Value} (hf : ∀ x, (f x).all scalar = true) (L : List α) : (rowsT f L).all scalar = true := by
  simp only [rowsT, List.all_flatten, List.all_map, List.all_eq_true]
  intro x _
  have := hf x
  rw [List.all_eq_true] at this
  simpa using this
theorem rowsT_get {α : Type} {f : α → List Value} {sz : Nat} (hf : ∀ x, (f x).length = sz) {L : List α} {i q : Nat} {x : α} (hx : L[i]? = some x) (hq : q < sz) : (rowsT f L)[i * sz + q]? = (f x)[q]? :=
  flat_get (rows := L.map f) (fun r hr => by obtain ⟨y, _, rfl⟩ := List.mem_map.1 hr; exact hf y) i q (f x) (by simp [hx]) hq
def TR {α : Type} (f : α → List Value) (w0 : World) (F : List Atom) (a : Option Addr) (n : Nat) (L : List α) : Prop := L.length = n ∧ (n = 0 ∨ ∃ b o, a = some ⟨b, o, none⟩ ∧ RowAt w0 F b o (rowsT f L))
theorem TR.ex {α : Type} {f : α → List Value} {w0 : World} {F0 F : List Atom} {a n} {L : List α} (h : TR f w0 F0 a n L) [e : Ext F0 F] : TR f w0 F a n L := ⟨h.1, h.2.imp id fun ⟨b, o, h1, h2⟩ => ⟨b, o, h1, h2.ex⟩⟩
theorem TR.some {α : Type} {f : α → List Value} {w0 : World} {F : List Atom} {a n} {L : List α} (h : TR f w0 F a n L) {i : Nat} (hi : i < n) : ∃ b o x, a = some ⟨b, o, none⟩ ∧ RowAt w0 F b o (rowsT f L) ∧ L[i]? = Option.some x := by
  rcases h.2 with h0 | ⟨b, o, h1, h2⟩
  · omega
  · exact ⟨b, o, L[i]'(by have := h.1; omega), h1, h2, List.getElem?_eq_getElem _⟩
theorem tr_row {α : Type} {f : α → List Value} {sz : Nat} (hf : ∀ x, (f x).length = sz) {w0 : World} {F0 F : List Atom} {b o i : Nat} {L : List α} {x : α} (h : RowAt w0 F0 b o (rowsT f L)) (hx : L[i]? = some x) [e : Ext F0 F] : RowAt w0 F b (o + i * sz) (f x) :=
  row_elem (rows := L.map f) h.ex (fun r hr => by obtain ⟨y, _, rfl⟩ := List.mem_map.1 hr; exact hf y) (by simp [hx])
theorem rowsT_take {α : Type} {f : α → List Value} {sz : Nat} (hf : ∀ x, (f x).length = sz) (L M : List α) : (rowsT f (L ++ M)).take (L.length * sz) = rowsT f L := by
  have : rowsT f (L ++ M) = rowsT f L ++ rowsT f M := by simp [rowsT]
  rw [this, ← rowsT_len hf L, List.take_left']
  rfl
theorem tr_pre {α : Type} {f : α → List Value} {sz : Nat} (hf : ∀ x, (f x).length = sz) {w0 : World} {F : List Atom} {b o : Nat} {L M : List α} (h : RowAt w0 F b o (rowsT f (L ++ M))) : RowAt w0 F b o (rowsT f L) := by
  have := h.mid 0 (L.length * sz)
  rw [List.drop_zero, rowsT_take hf] at this
  simpa using this
/-- A list with marks behind it. -/
def rm {α : Type} (mk : Nat → α) (L : List α) (k : Nat) : List α := L ++ (List.range k).map mk
theorem rm_len {α : Type} (mk : Nat → α) (L : List α) (k : Nat) : (rm mk L k).length = L.length + k := by simp [rm]
theorem rm_zero {α : Type} (mk : Nat → α) (L : List α) : rm mk L 0 = L := by simp [rm]
theorem rm_push {α : Type} (mk : Nat → α) (L : List α) (k : Nat) : rm mk L k ++ [mk k] = rm mk L (k + 1) := by simp [rm, List.range_succ]
theorem rm_lt {α : Type} {mk : Nat → α} {L : List α} {k i : Nat} (h : i < L.length) : (rm mk L k)[i]? = L[i]? := by simp [rm, List.getElem?_append_left h]
theorem rm_ge {α : Type} {mk : Nat → α} {L : List α} {k i : Nat} (h : L.length ≤ i) (h2 : i < L.length + k) : (rm mk L k)[i]? = some (mk (i - L.length)) := by
  simp [rm, List.getElem?_append_right h, show i - L.length < k by omega]
/- Lists of lists. -/
structure LX (α : Type) where
  a : Option Addr
  n : Nat
  c : Nat
  L : List α
def lxV {α : Type} (x : LX α) : Value := .slice x.a x.n x.c
def LLR {α : Type} (f : α → List Value) (w0 : World) (F : List Atom) (a : Option Addr) (n : Nat) (X : Nat → LX α) : Prop := (∀ i, i < n → TR f w0 F (X i).a (X i).n (X i).L) ∧ (n = 0 ∨ ∃ b o, a = some ⟨b, o, none⟩ ∧ ∀ i, i < n → CellAt w0 F b (o + i * 1) (lxV (X i)))
theorem CellAt.ex {w0 : World} {F0 F : List Atom} {b o : Nat} {v : Value} (h : CellAt w0 F0 b o v) [e : Ext F0 F] : CellAt w0 F b o v := fun w hw => h w (e.on w0 w hw)
theorem LLR.ex {α : Type} {f : α → List Value} {w0 : World} {F0 F : List Atom} {a n} {X : Nat → LX α} (h : LLR f w0 F0 a n X) [e : Ext F0 F] : LLR f w0 F a n X := ⟨fun i hi => (h.1 i hi).ex, h.2.imp id fun ⟨b, o, h1, h2⟩ => ⟨b, o, h1, fun i hi => (h2 i hi).ex⟩⟩
theorem LLR.some {α : Type} {f : α → List Value} {w0 : World} {F : List Atom} {a n} {X : Nat → LX α} (h : LLR f w0 F a n X) {i : Nat} (hi : i < n) : ∃ b o, a = some ⟨b, o, none⟩ ∧ ∀ i, i < n → CellAt w0 F b (o + i * 1) (lxV (X i)) := by
  rcases h.2 with h | h
  · omega
  · exact h
theorem LLR.tr {α : Type} {f : α → List Value} {w0 : World} {F : List Atom} {ca n} {X : Nat → LX α} (h : LLR f w0 F ca n X) {i : Nat} {a m c} {L : List α} (hk : X i = ⟨a, m, c, L⟩) (hi : i < n) : TR f w0 F a m L := by
  have := h.1 i hi
  rwa [hk] at this
theorem lx_cell {α : Type} {w0 : World} {F0 F : List Atom} {b o n i : Nat} {X : Nat → LX α} {a m c} {L : List α} (h : ∀ i, i < n → CellAt w0 F0 b (o + i * 1) (lxV (X i))) (hk : X i = ⟨a, m, c, L⟩) (hi : i < n) [e : Ext F0 F] : CellAt w0 F b (o + i * 1) (.slice a m c) := by
  have := (h i hi).ex (F := F)
  rw [hk] at this
  exact this
theorem lxv_mk {α : Type} {x : LX α} {a n c} {L : List α} (h : x = ⟨a, n, c, L⟩) : lxV x = .slice a n c := by rw [h]; rfl
theorem own_some {w0 : World} {F : List Atom} {E sz m c : Nat} {a : Option Addr} {xs : List Value} (hm : Own E sz (.slice a m c) m xs ∈ F) (h0 : 0 < m) (w : World) (hw : Holds w0 F w) : ∃ g, a = some ⟨g, 0, none⟩ ∧ m ≤ c := by
  rcases (own_cases hm w hw).2.2 with ⟨_, h⟩ | ⟨g, c2, h, h2⟩
  · omega
  · injection h with h1 _ h3
    exact ⟨g, h1, by rw [h3]; exact h2⟩
theorem own_nil2 {w0 : World} {F : List Atom} {E sz m c : Nat} {a : Option Addr} {xs : List Value} (hm : Own E sz (.slice a m c) m xs ∈ F) (w : World) (hw : Holds w0 F w) : (a = none → c = 0) ∧ (m = 0 ∨ ∃ g, a = some ⟨g, 0, none⟩) := by
  rcases (own_cases hm w hw).2.2 with ⟨h, h2⟩ | ⟨g, c2, h, _⟩
  · injection h with h1 _ h3
    exact ⟨fun _ => h3, .inl h2⟩
  · injection h with h1
    subst h1
    exact ⟨fun h => (by cases h), .inr ⟨g, rfl⟩⟩
section
variable {P : Program} {f : FuncId} {w0 : World} {K : Post} {n : Nat} {d : List Deferred} {ops : Array Oper} {rest : List Oper} {k : List Item} {e : Env} {F : List Atom}
theorem g_take (B : Atom) {F'} [h : Takes F B F'] (hk : G P f w0 K n d k e (B :: F')) : G P f w0 K n d k e F := g_heap (fun w hw => hw.perm h.perm) hk
theorem l_take (B : Atom) {F'} [h : Takes F B F'] (hk : GL P f w0 K n d ops rest k e (B :: F')) : GL P f w0 K n d ops rest k e F := gl_heap (fun w hw => hw.perm h.perm) hk
theorem gp_take {D A : List Nat} (B : Atom) {F'} [h : Takes F B F'] (hk : GP P f w0 K n d ops k D A e (B :: F')) : GP P f w0 K n d ops k D A e F := fun hreg hac hPA hp => by
  intro X hX fuel listed a w h1 h2 h3 h4 hw
  exact hk hreg hac hPA (hp.perm h.perm) X hX fuel listed a w h1 h2 h3 h4 (hw.perm h.perm)
theorem gp_frontv (v : Value) {D A : List Nat} {B F'} [h : FrontV F v B F'] (hk : GP P f w0 K n d ops k D A e (B :: F')) : GP P f w0 K n d ops k D A e F := fun hreg hac hPA hp => by
  intro X hX fuel listed a w h1 h2 h3 h4 hw
  exact hk hreg hac hPA (hp.perm h.perm) X hX fuel listed a w h1 h2 h3 h4 (hw.perm h.perm)
theorem g_frontv (v : Value) {B F'} [h : FrontV F v B F'] (hk : G P f w0 K n d k e (B :: F')) : G P f w0 K n d k e F := g_heap (fun w hw => hw.perm h.perm) hk
theorem l_snocb {N : Nat} {A : Nat → Atom} {B : Atom} (C : Nat → Atom) (hB : C N = B) (hC : ∀ k, k < N → C k = A k) (hk : GL P f w0 K n d ops rest k e (BigF (N + 1) C :: F)) : GL P f w0 K n d ops rest k e (B :: BigF N A :: F) := gl_heap (fun w hw => BigF.snoc hw hB hC) hk
theorem g_snocb {N : Nat} {A : Nat → Atom} {B : Atom} (C : Nat → Atom) (hB : C N = B) (hC : ∀ k, k < N → C k = A k) (hk : G P f w0 K n d k e (BigF (N + 1) C :: F)) : G P f w0 K n d k e (B :: BigF N A :: F) := g_heap (fun w hw => BigF.snoc hw hB hC) hk
theorem l_bigzero (A : Nat → Atom) (hk : GL P f w0 K n d ops rest k e (BigF 0 A :: F)) : GL P f w0 K n d ops rest k e F := gl_heap (fun w hw => BigF.zero hw A) hk
theorem g_bigzero (A : Nat → Atom) (hk : G P f w0 K n d k e (BigF 0 A :: F)) : G P f w0 K n d k e F := g_heap (fun w hw => BigF.zero hw A) hk
/-- An append of any row, the answer as a slice. -/
theorem does_appendS {ty : TypeId} {pos : String} {aft : Array Edge} {t x y T E sz by_ m m2 m3 inf z v u} {F1 : Option Addr → Nat → List Atom} {xs news X3 : List Value} (i : Nat) (hT : P.underlying T = some (.slice E)) (hi : P.info? E = some inf) (hz : inf.zero = some z) (hsz : inf.size = sz) (hby : inf.bytes = by_) (hzs : z.cells.size = sz) (hpos : Nat.blt 0 sz = true)
    (hx : evO e x = some v) (hy : evO e y = some u) (hF : getO F i = some (Own E sz v m xs)) (hu : Reads w0 F u m2 sz news) (h1 : news.all scalar = true) (hb : (m + m2) * by_ ≤ 140737488355328) (h63 : m + m2 ≤ maxLen) (hm3 : m + m2 = m3) (hV3 : xs ++ news = X3)
    (hset : ∀ a c, setO F i (Own E sz (.slice a m3 c) m3 X3) = some (F1 a c)) :
    Does P w0 (.mk (some t) (.call ⟨.builtin .append, #[x, y], #[T, T]⟩) ty pos aft none) e F (fun v' F2 => ∃ a c, (m3 = 0 ∨ ∃ g, a = some ⟨g, 0, none⟩) ∧ v' = .slice a m3 c ∧ F2 = F1 a c) := by
  subst hm3 hV3
  have hlt : i < F.length := (List.getElem?_eq_some_iff.1 (getO_eq hF)).1
  intro ρ w ha hw
  rcases does_append (P := P) (w0 := w0) (ty := ty) (pos := pos) (aft := aft) (t := t) i hT hi hz hsz hby hzs hpos hx hy hF hu h1 hb h63 (fun v' => setO_of hlt) ρ w ha hw with ⟨v', w', F', hr, hw', hn, rfl⟩ | ⟨g, args, hr, hc⟩
  · have hmem : Own E sz v' (m + m2) (xs ++ news) ∈ F.set i (Own E sz v' (m + m2) (xs ++ news)) := List.mem_set hlt _
    obtain ⟨a, c, rfl, h1⟩ := own_slice hmem w' hw'
    have := (setO_eq (hset a c)).2
    exact .inl ⟨_, w', _, hr, by rw [← this] at hw'; exact hw', a, c, h1, rfl, rfl⟩
  · refine .inr ⟨g, args, hr, hc.mono ?_⟩
    rintro en w' ⟨v', F', rfl, ⟨hn, rfl⟩, hw'⟩
    have hmem : Own E sz v' (m + m2) (xs ++ news) ∈ F.set i (Own E sz v' (m + m2) (xs ++ news)) := List.mem_set hlt _
    obtain ⟨a, c, rfl, h1⟩ := own_slice hmem w' hw'
    have := (setO_eq (hset a c)).2
    exact ⟨_, _, rfl, ⟨a, c, h1, rfl, rfl⟩, by rw [← this] at hw'; exact hw'⟩
/-- All of a list, put behind a nil one. -/
theorem does_appendT {α : Type} {f9 : α → List Value} {ty : TypeId} {pos : String} {aft : Array Edge} {t x y T E sz by_ n a2 c2 inf z v} {F1 : Option Addr → Nat → List Atom} {L : List α} (i : Nat) (hf : ∀ x, (f9 x).length = sz) (hfs : ∀ x, (f9 x).all scalar = true) (hT : P.underlying T = some (.slice E)) (hi : P.info? E = some inf) (hz : inf.zero = some z) (hsz : inf.size = sz) (hby : inf.bytes = by_) (hzs : z.cells.size = sz) (hpos : Nat.blt 0 sz = true)
    (hx : evO e x = some v) (hy : evO e y = some (.slice a2 n c2)) (hF : getO F i = some (Own E sz v 0 [])) (hu : TR f9 w0 F a2 n L) (hc : a2 = none → c2 = 0) (hb : (0 + n) * by_ ≤ 140737488355328) (h63 : 0 + n ≤ maxLen)
    (hset : ∀ a c, setO F i (Own E sz (.slice a n c) n (rowsT f9 L)) = some (F1 a c)) :
    Does P w0 (.mk (some t) (.call ⟨.builtin .append, #[x, y], #[T, T]⟩) ty pos aft none) e F (fun v' F2 => ∃ a c, (n = 0 ∨ ∃ g, a = some ⟨g, 0, none⟩) ∧ v' = .slice a n c ∧ F2 = F1 a c) := by
  have hgo : Reads w0 F (.slice a2 n c2) n sz (rowsT f9 L) → Does P w0 (.mk (some t) (.call ⟨.builtin .append, #[x, y], #[T, T]⟩) ty pos aft none) e F (fun v' F2 => ∃ a c, (n = 0 ∨ ∃ g, a = some ⟨g, 0, none⟩) ∧ v' = .slice a n c ∧ F2 = F1 a c) := fun hr => does_appendS i hT hi hz hsz hby hzs hpos hx hy hF hr (rowsT_scalar hfs L) hb h63 (Nat.zero_add _) (List.nil_append _) hset
  obtain ⟨hl, h0 | ⟨b, o, rfl, hr⟩⟩ := hu
  · obtain rfl : L = [] := List.eq_nil_of_length_eq_zero (hl.trans h0)
    subst h0
    cases a2 with
    | none =>
      obtain rfl := hc rfl
      exact hgo ⟨by simp [rowsT], .inr ⟨rfl, rfl⟩⟩
    | some ad =>
      intro ρ w ha hw
      have hlt : i < F.length := (List.getElem?_eq_some_iff.1 (getO_eq hF)).1
      have hargs : (#[x, y] : Array Operand).map ρ = [v, .slice (some ad) 0 c2].toArray := kn_args (xs := [x, y]) ha (by simp [evL, hx, hy])
      obtain ⟨l', h1', _⟩ := perm_set (a' := Own E sz v 0 []) (getO_eq hF)
      obtain ⟨v', w', hr, hw', hn⟩ := run_append_atom (P := P) (ty := ty) (c := c2) (m := 0) (news := []) (a := ad) hT hi hz hsz hby hzs (Nat.le_of_ble_eq_true hpos) (hw.perm h1') (by simp) (fun j u hj => by simp at hj) rfl hb h63
      obtain ⟨l2, h2, h3⟩ := perm_set (a' := Own E sz v' 0 []) (getO_eq hF)
      have hw2 : Holds w0 (F.set i (Own E sz v' 0 [])) w' := (hw'.perm ((((h1'.symm.trans h2).cons_inv).cons _))).perm h3.symm
      obtain ⟨a, c, rfl, h1⟩ := own_slice (List.mem_set hlt _) w' hw2
      refine .inl ⟨_, w', F1 a c, .inl (run_builtin ρ hargs (by simp only [builtin]; exact run_value hr)), ?_, a, c, h1, rfl, rfl⟩
      rw [(setO_eq (hset a c)).2]
      exact hw2
  · exact hgo ⟨by rw [rowsT_len hf, hl], .inl ⟨b, o, c2, rfl, hr⟩⟩
end
end Go.Proofs.Ytecibldbnekgbaa.Fw
