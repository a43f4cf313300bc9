import Derived.Test.YtjfibfbknfeflaaDoorProg
import Derived.Test.YtjfibfbknfeflaaDoorFw29
namespace Go.Proofs.YtjfibfbknfeflaaDoor.Fw
open Go Go.Proofs
set_option linter.unusedVariables false
set_option linter.unusedSimpArgs false
set_option maxRecDepth 10000

/- A shelf: a row of things, each with its neighbours; a map by their keys. -/
theorem holds_cut {w0 : World} {A B C : Atom} {F : List Atom} {w : World} (h : Holds w0 (A :: F) w) (hok : A.ok (hp w) → B.ok (hp w) ∧ C.ok (hp w) ∧ ∀ b, B.fp b → ¬ C.fp b) (hfp : ∀ b, B.fp b ∨ C.fp b → A.fp b) : Holds w0 (B :: C :: F) w := by
  obtain ⟨h1, h2, h3⟩ := hok (h.ok _ (List.mem_cons_self ..))
  have hs := List.pairwise_cons.1 h.sep
  refine ⟨h.os, h.tape, h.output, fun D hD => ?_, fun D hD b hb => ?_, List.pairwise_cons.2 ⟨fun D hD b hb hd => ?_, List.pairwise_cons.2 ⟨fun D hD b hb hd => ?_, hs.2⟩⟩⟩
  · rcases List.mem_cons.1 hD with rfl | hD
    · exact h1
    · rcases List.mem_cons.1 hD with rfl | hD
      · exact h2
      · exact h.ok _ (List.mem_cons_of_mem _ hD)
  · rcases List.mem_cons.1 hD with rfl | hD
    · exact h.lt A (List.mem_cons_self ..) b (hfp b (.inl hb))
    · rcases List.mem_cons.1 hD with rfl | hD
      · exact h.lt A (List.mem_cons_self ..) b (hfp b (.inr hb))
      · exact h.lt D (List.mem_cons_of_mem _ hD) b hb
  · rcases List.mem_cons.1 hD with rfl | hD
    · exact h3 b hb hd
    · exact hs.1 D hD b (hfp b (.inl hb)) hd
  · exact hs.1 D hD b (hfp b (.inr hb)) hd
theorem holds_glue {w0 : World} {A B C : Atom} {F : List Atom} {w : World} (h : Holds w0 (B :: C :: F) w) (hok : B.ok (hp w) → C.ok (hp w) → (∀ b, B.fp b → ¬ C.fp b) → A.ok (hp w)) (hfp : ∀ b, A.fp b → B.fp b ∨ C.fp b) : Holds w0 (A :: F) w := by
  have hs := List.pairwise_cons.1 h.sep
  have hs2 := List.pairwise_cons.1 hs.2
  have hB : B ∈ B :: C :: F := List.mem_cons_self ..
  have hC : C ∈ B :: C :: F := List.mem_cons_of_mem _ (List.mem_cons_self ..)
  refine ⟨h.os, h.tape, h.output, fun D hD => ?_, fun D hD b hb => ?_, List.pairwise_cons.2 ⟨fun D hD b hb hd => ?_, hs2.2⟩⟩
  · rcases List.mem_cons.1 hD with rfl | hD
    · exact hok (h.ok _ hB) (h.ok _ hC) (hs.1 C (List.mem_cons_self ..))
    · exact h.ok _ (List.mem_cons_of_mem _ (List.mem_cons_of_mem _ hD))
  · rcases List.mem_cons.1 hD with rfl | hD
    · rcases hfp b hb with h2 | h2
      · exact h.lt _ hB b h2
      · exact h.lt _ hC b h2
    · exact h.lt D (List.mem_cons_of_mem _ (List.mem_cons_of_mem _ hD)) b hb
  · rcases hfp b hb with h2 | h2
    · exact hs.1 D (List.mem_cons_of_mem _ hD) b h2 hd
    · exact hs2.1 D hD b h2 hd
structure Nd where
  b : Nat
  k : Int
  v : Value
def Nd.p (x : Nd) : Option Addr := some ⟨x.b, 0, none⟩
def ndC (x : Nd) (p n : Option Addr) : List Value := [.int .i64 x.k, x.v, .pointer p, .pointer n]
def fstP : List Nd → Option Addr → Option Addr
  | [], d => d
  | x :: _, _ => x.p
def lstP : List Nd → Option Addr → Option Addr
  | [], d => d
  | x :: xs, _ => lstP xs x.p
theorem fstP_nil (d : Option Addr) : fstP [] d = d := rfl
theorem fstP_cons (x : Nd) (xs : List Nd) (d : Option Addr) : fstP (x :: xs) d = x.p := rfl
theorem fstP_app : ∀ (l1 l2 : List Nd) (d : Option Addr), fstP (l1 ++ l2) d = fstP l1 (fstP l2 d)
  | [], _, _ => rfl
  | _ :: _, _, _ => rfl
theorem lstP_app : ∀ (l1 l2 : List Nd) (d : Option Addr), lstP (l1 ++ l2) d = lstP l2 (lstP l1 d)
  | [], _, _ => rfl
  | x :: l1, l2, _ => lstP_app l1 l2 x.p
def SegOk (T : Nat) (h : Nat → Option Obj) : Option Addr → List Nd → Option Addr → Prop
  | _, [], _ => True
  | p, x :: xs, n => h x.b = some (.cells (ndC x p (fstP xs n)).toArray T (0, 0)) ∧ SegOk T h x.p xs n
theorem SegOk.app {T : Nat} {h : Nat → Option Obj} : ∀ {l1 l2 : List Nd} {p n : Option Addr}, SegOk T h p (l1 ++ l2) n ↔ SegOk T h p l1 (fstP l2 n) ∧ SegOk T h (lstP l1 p) l2 n
  | [], l2, p, n => by simp [SegOk, lstP]
  | x :: l1, l2, p, n => by
    simp only [List.cons_append, SegOk, lstP, fstP_app]
    rw [SegOk.app (l1 := l1)]
    exact ⟨fun ⟨a, b, c⟩ => ⟨⟨a, b⟩, c⟩, fun ⟨⟨a, b⟩, c⟩ => ⟨a, b, c⟩⟩
theorem SegOk.loc {T : Nat} {h h' : Nat → Option Obj} : ∀ {xs : List Nd} {p n : Option Addr}, (∀ b, (∃ x ∈ xs, x.b = b) → h b = h' b) → SegOk T h p xs n → SegOk T h' p xs n
  | [], _, _, _, _ => trivial
  | x :: xs, p, n, hh, ho => ⟨by rw [← hh x.b ⟨x, List.mem_cons_self .., rfl⟩]; exact ho.1, SegOk.loc (fun b ⟨y, hy, hb⟩ => hh b ⟨y, List.mem_cons_of_mem _ hy, hb⟩) ho.2⟩
/-- A part of a row: what stands ahead of it, what behind. -/
def Seg (T : Nat) (p : Option Addr) (xs : List Nd) (n : Option Addr) : Atom where
  fp b := ∃ x ∈ xs, x.b = b
  ok h := SegOk T h p xs n ∧ (xs.map Nd.b).Nodup
  loc h h' hh ho := ⟨SegOk.loc hh ho.1, ho.2⟩
theorem seg_cut {w0 : World} {F : List Atom} {w : World} {T : Nat} {l1 l2 : List Nd} {p n : Option Addr} (h : Holds w0 (Seg T p (l1 ++ l2) n :: F) w) : Holds w0 (Seg T p l1 (fstP l2 n) :: Seg T (lstP l1 p) l2 n :: F) w := by
  refine holds_cut h (fun ho => ?_) (fun b hb => ?_)
  · obtain ⟨h1, h2⟩ := ho
    rw [SegOk.app] at h1
    rw [List.map_append, List.nodup_append] at h2
    exact ⟨⟨h1.1, h2.1⟩, ⟨h1.2, h2.2.1⟩, fun b ⟨x, hx, e1⟩ ⟨y, hy, e2⟩ => h2.2.2 x.b (List.mem_map.2 ⟨x, hx, rfl⟩) y.b (List.mem_map.2 ⟨y, hy, rfl⟩) (e1.trans e2.symm)⟩
  · rcases hb with ⟨x, hx, e⟩ | ⟨x, hx, e⟩
    · exact ⟨x, List.mem_append_left _ hx, e⟩
    · exact ⟨x, List.mem_append_right _ hx, e⟩
theorem seg_glue {w0 : World} {F : List Atom} {w : World} {T : Nat} {l1 l2 : List Nd} {p n q r : Option Addr} (hq : q = fstP l2 n) (hr : r = lstP l1 p) (h : Holds w0 (Seg T p l1 q :: Seg T r l2 n :: F) w) : Holds w0 (Seg T p (l1 ++ l2) n :: F) w := by
  subst hq hr
  refine holds_glue h (fun h1 h2 h3 => ⟨SegOk.app.2 ⟨h1.1, h2.1⟩, ?_⟩) (fun b ⟨x, hx, e⟩ => ?_)
  · rw [List.map_append, List.nodup_append]
    refine ⟨h1.2, h2.2, fun a ha b hb e => ?_⟩
    obtain ⟨x, hx, rfl⟩ := List.mem_map.1 ha
    obtain ⟨y, hy, rfl⟩ := List.mem_map.1 hb
    exact h3 x.b ⟨x, hx, rfl⟩ ⟨y, hy, e.symm⟩
  · rcases List.mem_append.1 hx with hx | hx
    · exact .inl ⟨x, hx, e⟩
    · exact .inr ⟨x, hx, e⟩
theorem seg_one {w0 : World} {F : List Atom} {w : World} {T : Nat} {x : Nd} {p n : Option Addr} : Holds w0 (Seg T p [x] n :: F) w ↔ Holds w0 (Blk x.b (.cells (ndC x p n).toArray T (0, 0)) :: F) w := by
  constructor
  · intro h
    exact h.as (fun ho => ho.1.1) (fun b hb => ⟨x, List.mem_cons_self .., hb.symm⟩)
  · intro h
    exact h.as (fun ho => ⟨⟨ho, trivial⟩, by simp⟩) (fun b ⟨y, hy, e⟩ => by
      obtain rfl : y = x := by simpa using hy
      exact e.symm)
theorem seg_nil {w0 : World} {F : List Atom} {w : World} {T : Nat} {p n : Option Addr} (h : Holds w0 F w) : Holds w0 (Seg T p [] n :: F) w :=
  ⟨h.os, h.tape, h.output, fun A hA => by
    rcases List.mem_cons.1 hA with rfl | hA
    · exact ⟨trivial, List.nodup_nil⟩
    · exact h.ok A hA, fun A hA b hb => by
    rcases List.mem_cons.1 hA with rfl | hA
    · obtain ⟨x, hx, _⟩ := hb; cases hx
    · exact h.lt A hA b hb, List.pairwise_cons.2 ⟨fun A hA b ⟨x, hx, _⟩ => (by cases hx), h.sep⟩⟩
theorem seg_at {w0 : World} {F : List Atom} {w : World} {T : Nat} {l1 l2 : List Nd} {x : Nd} {p n : Option Addr} (h : Holds w0 (Seg T p (l1 ++ x :: l2) n :: F) w) : Holds w0 (Seg T p l1 x.p :: Blk x.b (.cells (ndC x (lstP l1 p) (fstP l2 n)).toArray T (0, 0)) :: Seg T x.p l2 n :: F) w := by
  have h1 := seg_cut (l2 := x :: l2) h
  have h2 := seg_cut (l1 := [x]) (l2 := l2) (h1.perm (List.Perm.swap ..))
  have h3 := seg_one.1 h2
  exact h3.perm ((List.Perm.cons _ (List.Perm.swap ..)).trans (List.Perm.swap ..))
theorem seg_to {w0 : World} {F : List Atom} {w : World} {T : Nat} {l1 l2 : List Nd} {x : Nd} {p n q r : Option Addr} (hq : q = lstP l1 p) (hr : r = fstP l2 n) (h : Holds w0 (Seg T p l1 x.p :: Blk x.b (.cells (ndC x q r).toArray T (0, 0)) :: Seg T x.p l2 n :: F) w) : Holds w0 (Seg T p (l1 ++ x :: l2) n :: F) w := by
  subst hq hr
  have h1 := (h.perm (List.Perm.swap ..))
  have h2 := seg_one.2 h1
  have h3 := h2.perm ((List.Perm.cons _ (List.Perm.swap ..)))
  have h4 : Holds w0 (Seg T (lstP l1 p) (x :: l2) n :: Seg T p l1 x.p :: F) w := seg_glue (l1 := [x]) (l2 := l2) rfl rfl h3
  exact seg_glue rfl rfl (h4.perm (List.Perm.swap ..))
theorem seg_cell {w0 : World} {F : List Atom} {T : Nat} {l1 l2 : List Nd} {x : Nd} {p n : Option Addr} (hm : Seg T p (l1 ++ x :: l2) n ∈ F) {o : Nat} {v : Value} (hv : (ndC x (lstP l1 p) (fstP l2 n))[o]? = some v) : CellAt w0 F x.b o v := fun w hw => by
  have h1 := (hw.ok _ hm).1
  rw [SegOk.app] at h1
  exact cell_of_has h1.2.1 hv
/-- The map holds just the things of the row. -/
structure ShOk (kv : List (Int × Value)) (xs : List Nd) : Prop where
  perm : kv.Perm (xs.map fun x => (x.k, Value.pointer x.p))
  nd : (xs.map Nd.k).Nodup
theorem ShOk.nil : ShOk [] [] := ⟨by simp, by simp⟩
theorem ShOk.len {kv : List (Int × Value)} {xs : List Nd} (h : ShOk kv xs) : kv.length = xs.length := by simpa using h.perm.length_eq
theorem fnd_not : ∀ {kv : List (Int × Value)} {k : Int} {i : Nat}, (∀ p ∈ kv, p.1 ≠ k) → fnd kv k i = none
  | [], _, _, _ => rfl
  | p :: kv, k, i, h => by
    simp only [fnd]
    rw [if_neg (fun e => h p (List.mem_cons_self ..) e.symm)]
    exact fnd_not fun q hq => h q (List.mem_cons_of_mem _ hq)
theorem fnd_mem : ∀ {kv : List (Int × Value)} {k : Int} {v : Value} {i : Nat}, (kv.map (·.1)).Nodup → (k, v) ∈ kv → ∃ j, fnd kv k i = some (i + j, v) ∧ kv.Perm ((k, v) :: kv.eraseIdx j)
  | [], _, _, _, _, h => by cases h
  | p :: kv, k, v, i, hn, h => by
    simp only [List.map_cons, List.nodup_cons] at hn
    simp only [fnd]
    by_cases hk : k = p.1
    · rcases List.mem_cons.1 h with e | h
      · exact ⟨0, by rw [if_pos hk, ← e]; rfl, by rw [← e]; exact .refl _⟩
      · exact absurd (List.mem_map.2 ⟨(k, v), h, hk⟩) hn.1
    · rcases List.mem_cons.1 h with e | h
      · exact absurd (by rw [← e]) hk
      · obtain ⟨j, h1, h2⟩ := fnd_mem (i := i + 1) hn.2 h
        exact ⟨j + 1, by rw [if_neg hk, h1, show i + 1 + j = i + (j + 1) by omega], (h2.cons p).trans (List.Perm.swap ..)⟩
theorem ShOk.none {kv : List (Int × Value)} {xs : List Nd} (h : ShOk kv xs) {k : Int} (hk : ∀ x ∈ xs, x.k ≠ k) : fnd kv k 0 = none := fnd_not fun p hp => by
  obtain ⟨x, hx, e⟩ := List.mem_map.1 (h.perm.mem_iff.1 hp)
  rw [← e]; exact hk x hx
theorem ShOk.keys {kv : List (Int × Value)} {xs : List Nd} (h : ShOk kv xs) : (kv.map (·.1)).Nodup := by
  have h1 := h.perm.map (fun p : Int × Value => p.1)
  rw [h1.nodup_iff, List.map_map]
  exact h.nd
theorem ShOk.some {kv : List (Int × Value)} {l1 l2 : List Nd} {x : Nd} (h : ShOk kv (l1 ++ x :: l2)) : ∃ i, fnd kv x.k 0 = Option.some (i, Value.pointer x.p) ∧ ShOk (kv.eraseIdx i) (l1 ++ l2) := by
  obtain ⟨j, h1, h2⟩ := fnd_mem (i := 0) h.keys (h.perm.mem_iff.2 (List.mem_map.2 ⟨x, by simp, rfl⟩))
  rw [Nat.zero_add] at h1
  refine ⟨j, h1, ?_, ?_⟩
  · have h3 := h2.symm.trans h.perm
    rw [List.map_append, List.map_cons] at h3
    have h4 := h3.trans List.perm_middle
    rw [List.map_append]
    exact h4.cons_inv
  · have := h.nd
    rw [List.map_append, List.map_cons] at this
    rw [List.map_append]
    exact ((List.perm_middle.nodup_iff).1 this).of_cons
theorem ShOk.move {kv : List (Int × Value)} {l1 l2 : List Nd} {x y : Nd} (h : ShOk kv (l1 ++ x :: l2)) (hk : y.k = x.k) (hb : y.b = x.b) : ShOk kv (l1 ++ l2 ++ [y]) := by
  have hp : y.p = x.p := by unfold Nd.p; rw [hb]
  refine ⟨h.perm.trans ?_, ?_⟩
  · rw [List.map_append, List.map_cons, List.map_append, List.map_append, List.map_cons, List.map_nil, hk, hp]
    exact List.perm_middle.trans (List.perm_append_singleton ..).symm
  · have := h.nd
    rw [List.map_append, List.map_cons] at this
    rw [List.map_append, List.map_append, List.map_cons, List.map_nil, hk]
    exact ((List.perm_append_singleton ..).nodup_iff).2 ((List.perm_middle.nodup_iff).1 this)
theorem ShOk.snoc {kv : List (Int × Value)} {xs : List Nd} (h : ShOk kv xs) {x : Nd} (hk : ∀ y ∈ xs, y.k ≠ x.k) : ShOk (kv ++ [(x.k, Value.pointer x.p)]) (xs ++ [x]) := by
  refine ⟨?_, ?_⟩
  · rw [List.map_append, List.map_cons, List.map_nil]
    exact h.perm.append (.refl _)
  · rw [List.map_append, List.map_cons, List.map_nil]
    refine ((List.perm_append_singleton ..).nodup_iff).2 (List.nodup_cons.2 ⟨fun hm => ?_, h.nd⟩)
    obtain ⟨y, hy, e⟩ := List.mem_map.1 hm
    exact hk y hy e
theorem nd_split {xs : List Nd} {k : Int} : (∃ l1 x l2, xs = l1 ++ x :: l2 ∧ x.k = k) ∨ ∀ x ∈ xs, x.k ≠ k := by
  by_cases h : ∃ x ∈ xs, x.k = k
  · obtain ⟨x, hx, e⟩ := h
    obtain ⟨l1, l2, h2⟩ := List.append_of_mem hx
    exact .inl ⟨l1, x, l2, h2, e⟩
  · exact .inr fun x hx e => h ⟨x, hx, e⟩

end Go.Proofs.YtjfibfbknfeflaaDoor.Fw
