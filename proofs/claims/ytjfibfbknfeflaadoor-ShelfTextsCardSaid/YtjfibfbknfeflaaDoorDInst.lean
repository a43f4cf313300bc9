import Derived.Test.YtjfibfbknfeflaaDoorDAwk
import Derived.Test.YtjfibfbknfeflaaDoorFw30
namespace Go.Proofs.YtjfibfbknfeflaaDoor.Fw
open Go Go.Proofs
set_option linter.unusedVariables false
set_option linter.unusedSimpArgs false
set_option maxRecDepth 10000
theorem sq_28 (x0 : Int) (x1 : Int) (y0 : Int) (y1 : Int) (w : World) : (Op.equalIn 10000 28 (.agg #[.int .i64 x0, .int .i64 x1]) (.agg #[.int .i64 y0, .int .i64 y1])).run Tryd.prog w = .ok (decide (x0 = y0) && decide (x1 = y1)) w := by
  rw [run_equalIn_struct w 9999 28 _ _ (by simp [Program.fieldsOf, Tryd.underlying28]) Tryd.stoodInHeld28]
  have e0 := fun w => run_equalIn_int (P := Tryd.prog) w 9998 3 .i64 .i64 x0 y0 Tryd.underlying3
  have e1 := fun w => run_equalIn_int (P := Tryd.prog) w 9998 3 .i64 .i64 x1 y1 Tryd.underlying3
  simp [Program.fieldsOf, Tryd.underlying28, Op.eqFields, part, Tryd.isAgg3, e0, e1, Sem.run_bind, Sem.run_pure, Sem.run_ite]
  by_cases h0 : x0 = y0 <;> by_cases h1 : x1 = y1 <;> simp [*]
theorem sqe_28 (x0 : Int) (x1 : Int) (y0 : Int) (y1 : Int) (w : World) : (binOp .eql 28 (.agg #[.int .i64 x0, .int .i64 x1]) (.agg #[.int .i64 y0, .int .i64 y1])).run Tryd.prog w = .ok (.bool ((decide (x0 = y0) && decide (x1 = y1)))) w := by
  rw [run_eql_struct, sq_28]; rfl
def kvP (k : Int × Int) : Value := .agg #[.int .i64 k.1, .int .i64 k.2]
theorem klS : KeyLaw Tryd.prog 9 Value.string := keyLaw_string Tryd.underlying9
theorem equal_pair (w : World) (a b : Int × Int) : (Op.equal 28 (kvP a) (kvP b)).run Tryd.prog w = .ok (decide (a = b)) w := by
  have h := sq_28 a.1 a.2 b.1 b.2 w
  show (Op.equalIn 10000 28 (kvP a) (kvP b)).run Tryd.prog w = _
  unfold kvP
  rw [h]
  congr 1
  by_cases e : a = b
  · subst e; simp
  · rw [decide_eq_false e]
    by_cases e1 : a.1 = b.1
    · have e2 : a.2 ≠ b.2 := fun e2 => e (Prod.ext e1 e2)
      simp [e2]
    · simp [e1]
theorem check_pair (w : World) (b : Bool) (k : Int × Int) : (Instr.checkKey b 10000 28 (kvP k)).run Tryd.prog w = .ok () w := by
  have ki : ∀ (v : Int), (Instr.checkKey b 9999 3 (.int .i64 v)).run Tryd.prog w = .ok () w := fun v => by
    have key : ∀ d, (Instr.checkKey b (d + 1) 3 (.int .i64 v)).run Tryd.prog w = .ok () w := fun d => by
      simp only [Instr.checkKey, Sem.run_bind, run_underlying Tryd.underlying3, Result.andThen_ok]
      rfl
    exact key 9998
  have key : ∀ d, (∀ v, (Instr.checkKey b d 3 (.int .i64 v)).run Tryd.prog w = .ok () w) → (Instr.checkKey b (d + 1) 28 (kvP k)).run Tryd.prog w = .ok () w := fun d hd => by
    simp only [Instr.checkKey, Sem.run_bind, run_underlying Tryd.underlying28, Result.andThen_ok, kvP]
    simp [Sem.run_bind, Sem.run_pure, Sem.run_ite, part, Tryd.isAgg3, hd]
  exact key 9999 ki
theorem klQ : KeyLaw Tryd.prog 28 kvP := keyLaw_asking Tryd.underlying28 (fun a b => by simp [kvP, Instr.sameNow]) check_pair equal_pair
section
variable {P : Program} {f : Fr} {w0 : World} {K : Post} {n : Nat} {d : List Deferred} {ops : Array Oper} {rest : List Oper} {k : List Item} {e : Env} {F F' : List Atom}
theorem gp_take {D A : List Nat} (B : Atom) [h : Takes F B F'] (hk : GP P f w0 K n d ops k D A e (B :: F')) : GP P f w0 K n d ops k D A e F := fun hreg hac hPA hp => by
  intro X hX fuel listed a w h1 h2 h3 h4 hw
  exact hk hreg hac hPA (hp.perm h.perm) X hX fuel listed a w h1 h2 h3 h4 (hw.perm h.perm)
theorem l_take (B : Atom) [h : Takes F B F'] (hk : GL P f w0 K n d ops rest k e (B :: F')) : GL P f w0 K n d ops rest k e F := gl_heap (fun w hw => hw.perm h.perm) hk
end
structure NdS where
  b : Nat
  k : ByteArray
  v : (Int × Int)
def NdS.p (x : NdS) : Option Addr := some ⟨x.b, 0, none⟩
def ndCS (x : NdS) (p n : Option Addr) : List Value := [Value.string x.k, .int .i64 x.v.1, .int .i64 x.v.2, .pointer p, .pointer n]
def fstPS : List NdS → Option Addr → Option Addr
  | [], d => d
  | x :: _, _ => x.p
def lstPS : List NdS → Option Addr → Option Addr
  | [], d => d
  | x :: xs, _ => lstPS xs x.p
theorem fstPS_nil (d : Option Addr) : fstPS [] d = d := rfl
theorem fstPS_cons (x : NdS) (xs : List NdS) (d : Option Addr) : fstPS (x :: xs) d = x.p := rfl
theorem fstPS_app : ∀ (l1 l2 : List NdS) (d : Option Addr), fstPS (l1 ++ l2) d = fstPS l1 (fstPS l2 d)
  | [], _, _ => rfl
  | _ :: _, _, _ => rfl
theorem lstPS_app : ∀ (l1 l2 : List NdS) (d : Option Addr), lstPS (l1 ++ l2) d = lstPS l2 (lstPS l1 d)
  | [], _, _ => rfl
  | x :: l1, l2, _ => lstPS_app l1 l2 x.p
def SegOkS (T : Nat) (h : Nat → Option Obj) : Option Addr → List NdS → Option Addr → Prop
  | _, [], _ => True
  | p, x :: xs, n => h x.b = some (.cells (ndCS x p (fstPS xs n)).toArray T (0, 0)) ∧ SegOkS T h x.p xs n
theorem SegOkS.app {T : Nat} {h : Nat → Option Obj} : ∀ {l1 l2 : List NdS} {p n : Option Addr}, SegOkS T h p (l1 ++ l2) n ↔ SegOkS T h p l1 (fstPS l2 n) ∧ SegOkS T h (lstPS l1 p) l2 n
  | [], l2, p, n => by simp [SegOkS, lstPS]
  | x :: l1, l2, p, n => by
    simp only [List.cons_append, SegOkS, lstPS, fstPS_app]
    rw [SegOkS.app (l1 := l1)]
    exact ⟨fun ⟨a, b, c⟩ => ⟨⟨a, b⟩, c⟩, fun ⟨⟨a, b⟩, c⟩ => ⟨a, b, c⟩⟩
theorem SegOkS.loc {T : Nat} {h h' : Nat → Option Obj} : ∀ {xs : List NdS} {p n : Option Addr}, (∀ b, (∃ x ∈ xs, x.b = b) → h b = h' b) → SegOkS T h p xs n → SegOkS T h' p xs n
  | [], _, _, _, _ => trivial
  | x :: xs, p, n, hh, ho => ⟨by rw [← hh x.b ⟨x, List.mem_cons_self .., rfl⟩]; exact ho.1, SegOkS.loc (fun b ⟨y, hy, hb⟩ => hh b ⟨y, List.mem_cons_of_mem _ hy, hb⟩) ho.2⟩
/-- A part of a row: what stands ahead of it, what behind. -/
def SegS (T : Nat) (p : Option Addr) (xs : List NdS) (n : Option Addr) : Atom where
  fp b := ∃ x ∈ xs, x.b = b
  ok h := SegOkS T h p xs n ∧ (xs.map NdS.b).Nodup
  loc h h' hh ho := ⟨SegOkS.loc hh ho.1, ho.2⟩
theorem segS_cut {w0 : World} {F : List Atom} {w : World} {T : Nat} {l1 l2 : List NdS} {p n : Option Addr} (h : Holds w0 (SegS T p (l1 ++ l2) n :: F) w) : Holds w0 (SegS T p l1 (fstPS l2 n) :: SegS T (lstPS l1 p) l2 n :: F) w := by
  refine holds_cut h (fun ho => ?_) (fun b hb => ?_)
  · obtain ⟨h1, h2⟩ := ho
    rw [SegOkS.app] at h1
    rw [List.map_append, List.nodup_append] at h2
    exact ⟨⟨h1.1, h2.1⟩, ⟨h1.2, h2.2.1⟩, fun b ⟨x, hx, e1⟩ ⟨y, hy, e2⟩ => h2.2.2 x.b (List.mem_map.2 ⟨x, hx, rfl⟩) y.b (List.mem_map.2 ⟨y, hy, rfl⟩) (e1.trans e2.symm)⟩
  · rcases hb with ⟨x, hx, e⟩ | ⟨x, hx, e⟩
    · exact ⟨x, List.mem_append_left _ hx, e⟩
    · exact ⟨x, List.mem_append_right _ hx, e⟩
theorem segS_glue {w0 : World} {F : List Atom} {w : World} {T : Nat} {l1 l2 : List NdS} {p n q r : Option Addr} (hq : q = fstPS l2 n) (hr : r = lstPS l1 p) (h : Holds w0 (SegS T p l1 q :: SegS T r l2 n :: F) w) : Holds w0 (SegS T p (l1 ++ l2) n :: F) w := by
  subst hq hr
  refine holds_glue h (fun h1 h2 h3 => ⟨SegOkS.app.2 ⟨h1.1, h2.1⟩, ?_⟩) (fun b ⟨x, hx, e⟩ => ?_)
  · rw [List.map_append, List.nodup_append]
    refine ⟨h1.2, h2.2, fun a ha b hb e => ?_⟩
    obtain ⟨x, hx, rfl⟩ := List.mem_map.1 ha
    obtain ⟨y, hy, rfl⟩ := List.mem_map.1 hb
    exact h3 x.b ⟨x, hx, rfl⟩ ⟨y, hy, e.symm⟩
  · rcases List.mem_append.1 hx with hx | hx
    · exact .inl ⟨x, hx, e⟩
    · exact .inr ⟨x, hx, e⟩
theorem segS_one {w0 : World} {F : List Atom} {w : World} {T : Nat} {x : NdS} {p n : Option Addr} : Holds w0 (SegS T p [x] n :: F) w ↔ Holds w0 (Blk x.b (.cells (ndCS x p n).toArray T (0, 0)) :: F) w := by
  constructor
  · intro h
    exact h.as (fun ho => ho.1.1) (fun b hb => ⟨x, List.mem_cons_self .., hb.symm⟩)
  · intro h
    exact h.as (fun ho => ⟨⟨ho, trivial⟩, by simp⟩) (fun b ⟨y, hy, e⟩ => by
      obtain rfl : y = x := by simpa using hy
      exact e.symm)
theorem segS_nil {w0 : World} {F : List Atom} {w : World} {T : Nat} {p n : Option Addr} (h : Holds w0 F w) : Holds w0 (SegS T p [] n :: F) w :=
  ⟨h.os, h.tape, h.output, fun A hA => by
    rcases List.mem_cons.1 hA with rfl | hA
    · exact ⟨trivial, List.nodup_nil⟩
    · exact h.ok A hA, fun A hA b hb => by
    rcases List.mem_cons.1 hA with rfl | hA
    · obtain ⟨x, hx, _⟩ := hb; cases hx
    · exact h.lt A hA b hb, List.pairwise_cons.2 ⟨fun A hA b ⟨x, hx, _⟩ => (by cases hx), h.sep⟩⟩
theorem segS_at {w0 : World} {F : List Atom} {w : World} {T : Nat} {l1 l2 : List NdS} {x : NdS} {p n : Option Addr} (h : Holds w0 (SegS T p (l1 ++ x :: l2) n :: F) w) : Holds w0 (SegS T p l1 x.p :: Blk x.b (.cells (ndCS x (lstPS l1 p) (fstPS l2 n)).toArray T (0, 0)) :: SegS T x.p l2 n :: F) w := by
  have h1 := segS_cut (l2 := x :: l2) h
  have h2 := segS_cut (l1 := [x]) (l2 := l2) (h1.perm (List.Perm.swap ..))
  have h3 := segS_one.1 h2
  exact h3.perm ((List.Perm.cons _ (List.Perm.swap ..)).trans (List.Perm.swap ..))
theorem segS_to {w0 : World} {F : List Atom} {w : World} {T : Nat} {l1 l2 : List NdS} {x : NdS} {p n q r : Option Addr} (hq : q = lstPS l1 p) (hr : r = fstPS l2 n) (h : Holds w0 (SegS T p l1 x.p :: Blk x.b (.cells (ndCS x q r).toArray T (0, 0)) :: SegS T x.p l2 n :: F) w) : Holds w0 (SegS T p (l1 ++ x :: l2) n :: F) w := by
  subst hq hr
  have h1 := (h.perm (List.Perm.swap ..))
  have h2 := segS_one.2 h1
  have h3 := h2.perm ((List.Perm.cons _ (List.Perm.swap ..)))
  have h4 : Holds w0 (SegS T (lstPS l1 p) (x :: l2) n :: SegS T p l1 x.p :: F) w := segS_glue (l1 := [x]) (l2 := l2) rfl rfl h3
  exact segS_glue rfl rfl (h4.perm (List.Perm.swap ..))
theorem segS_cell {w0 : World} {F : List Atom} {T : Nat} {l1 l2 : List NdS} {x : NdS} {p n : Option Addr} (hm : SegS T p (l1 ++ x :: l2) n ∈ F) {o : Nat} {v : Value} (hv : (ndCS x (lstPS l1 p) (fstPS l2 n))[o]? = some v) : CellAt w0 F x.b o v := fun w hw => by
  have h1 := (hw.ok _ hm).1
  rw [SegOkS.app] at h1
  exact cell_of_has h1.2.1 hv
/-- The map holds just the things of the row. -/
structure ShOkS (kv : List (ByteArray × Value)) (xs : List NdS) : Prop where
  perm : kv.Perm (xs.map fun x => (x.k, Value.pointer x.p))
  nd : (xs.map NdS.k).Nodup
theorem ShOkS.nil : ShOkS [] [] := ⟨by simp, by simp⟩
theorem ShOkS.len {kv : List (ByteArray × Value)} {xs : List NdS} (h : ShOkS kv xs) : kv.length = xs.length := by simpa using h.perm.length_eq
theorem fnd_notS : ∀ {kv : List (ByteArray × Value)} {k : ByteArray} {i : Nat}, (∀ p ∈ kv, p.1 ≠ k) → fndG kv k i = none
  | [], _, _, _ => rfl
  | p :: kv, k, i, h => by
    simp only [fndG]
    rw [if_neg (fun e => h p (List.mem_cons_self ..) e.symm)]
    exact fnd_notS fun q hq => h q (List.mem_cons_of_mem _ hq)
theorem fnd_memS : ∀ {kv : List (ByteArray × Value)} {k : ByteArray} {v : Value} {i : Nat}, (kv.map (·.1)).Nodup → (k, v) ∈ kv → ∃ j, fndG kv k i = some (i + j, v) ∧ kv.Perm ((k, v) :: kv.eraseIdx j)
  | [], _, _, _, _, h => by cases h
  | p :: kv, k, v, i, hn, h => by
    simp only [List.map_cons, List.nodup_cons] at hn
    simp only [fndG]
    by_cases hk : k = p.1
    · rcases List.mem_cons.1 h with e | h
      · exact ⟨0, by rw [if_pos hk, ← e]; rfl, by rw [← e]; exact .refl _⟩
      · exact absurd (List.mem_map.2 ⟨(k, v), h, hk⟩) hn.1
    · rcases List.mem_cons.1 h with e | h
      · exact absurd (by rw [← e]) hk
      · obtain ⟨j, h1, h2⟩ := fnd_memS (i := i + 1) hn.2 h
        exact ⟨j + 1, by rw [if_neg hk, h1, show i + 1 + j = i + (j + 1) by omega], (h2.cons p).trans (List.Perm.swap ..)⟩
theorem ShOkS.none {kv : List (ByteArray × Value)} {xs : List NdS} (h : ShOkS kv xs) {k : ByteArray} (hk : ∀ x ∈ xs, x.k ≠ k) : fndG kv k 0 = none := fnd_notS fun p hp => by
  obtain ⟨x, hx, e⟩ := List.mem_map.1 (h.perm.mem_iff.1 hp)
  rw [← e]; exact hk x hx
theorem ShOkS.keys {kv : List (ByteArray × Value)} {xs : List NdS} (h : ShOkS kv xs) : (kv.map (·.1)).Nodup := by
  have h1 := h.perm.map (fun p : ByteArray × Value => p.1)
  rw [h1.nodup_iff, List.map_map]
  exact h.nd
theorem ShOkS.some {kv : List (ByteArray × Value)} {l1 l2 : List NdS} {x : NdS} (h : ShOkS kv (l1 ++ x :: l2)) : ∃ i, fndG kv x.k 0 = Option.some (i, Value.pointer x.p) ∧ ShOkS (kv.eraseIdx i) (l1 ++ l2) := by
  obtain ⟨j, h1, h2⟩ := fnd_memS (i := 0) h.keys (h.perm.mem_iff.2 (List.mem_map.2 ⟨x, by simp, rfl⟩))
  rw [Nat.zero_add] at h1
  refine ⟨j, h1, ?_, ?_⟩
  · have h3 := h2.symm.trans h.perm
    rw [List.map_append, List.map_cons] at h3
    have h4 := h3.trans List.perm_middle
    rw [List.map_append]
    exact h4.cons_inv
  · have := h.nd
    rw [List.map_append, List.map_cons] at this
    rw [List.map_append]
    exact ((List.perm_middle.nodup_iff).1 this).of_cons
theorem ShOkS.move {kv : List (ByteArray × Value)} {l1 l2 : List NdS} {x y : NdS} (h : ShOkS kv (l1 ++ x :: l2)) (hk : y.k = x.k) (hb : y.b = x.b) : ShOkS kv (l1 ++ l2 ++ [y]) := by
  have hp : y.p = x.p := by unfold NdS.p; rw [hb]
  refine ⟨h.perm.trans ?_, ?_⟩
  · rw [List.map_append, List.map_cons, List.map_append, List.map_append, List.map_cons, List.map_nil, hk, hp]
    exact List.perm_middle.trans (List.perm_append_singleton ..).symm
  · have := h.nd
    rw [List.map_append, List.map_cons] at this
    rw [List.map_append, List.map_append, List.map_cons, List.map_nil, hk]
    exact ((List.perm_append_singleton ..).nodup_iff).2 ((List.perm_middle.nodup_iff).1 this)
theorem ShOkS.snoc {kv : List (ByteArray × Value)} {xs : List NdS} (h : ShOkS kv xs) {x : NdS} (hk : ∀ y ∈ xs, y.k ≠ x.k) : ShOkS (kv ++ [(x.k, Value.pointer x.p)]) (xs ++ [x]) := by
  refine ⟨?_, ?_⟩
  · rw [List.map_append, List.map_cons, List.map_nil]
    exact h.perm.append (.refl _)
  · rw [List.map_append, List.map_cons, List.map_nil]
    refine ((List.perm_append_singleton ..).nodup_iff).2 (List.nodup_cons.2 ⟨fun hm => ?_, h.nd⟩)
    obtain ⟨y, hy, e⟩ := List.mem_map.1 hm
    exact hk y hy e
theorem nd_splitS {xs : List NdS} {k : ByteArray} : (∃ l1 x l2, xs = l1 ++ x :: l2 ∧ x.k = k) ∨ ∀ x ∈ xs, x.k ≠ k := by
  by_cases h : ∃ x ∈ xs, x.k = k
  · obtain ⟨x, hx, e⟩ := h
    obtain ⟨l1, l2, h2⟩ := List.append_of_mem hx
    exact .inl ⟨l1, x, l2, h2, e⟩
  · exact .inr fun x hx e => h ⟨x, hx, e⟩

theorem segS_row2 {w0 : World} {F : List Atom} {T : Nat} {l1 l2 : List NdS} {x : NdS} {p n : Option Addr} (hm : SegS T p (l1 ++ x :: l2) n ∈ F) {o : Nat} {u v : Value} (hu : (ndCS x (lstPS l1 p) (fstPS l2 n))[o]? = some u) (hv : (ndCS x (lstPS l1 p) (fstPS l2 n))[o + 1]? = some v) : RowAt w0 F x.b o [u, v] := fun w hw j z hz => by
  match j, hz with
  | 0, hz => cases hz; exact segS_cell hm hu w hw
  | 1, hz => cases hz; exact segS_cell hm hv w hw
  | j + 2, hz => simp at hz
theorem fst_someS {xs : List NdS} (h : (!(fstPS xs none).isNone) = true) : ∃ x l, xs = x :: l := by
  cases xs with
  | nil => cases h
  | cons x l => exact ⟨x, l, rfl⟩
theorem fst_noneS {xs : List NdS} (h : (!(fstPS xs none).isNone) = false) : xs = [] := by
  cases xs with
  | nil => rfl
  | cons x l => cases h

structure NdQ where
  b : Nat
  k : (Int × Int)
  v : ByteArray
def NdQ.p (x : NdQ) : Option Addr := some ⟨x.b, 0, none⟩
def ndCQ (x : NdQ) (p n : Option Addr) : List Value := [Value.int .i64 x.k.1, .int .i64 x.k.2, .string x.v, .pointer p, .pointer n]
def fstPQ : List NdQ → Option Addr → Option Addr
  | [], d => d
  | x :: _, _ => x.p
def lstPQ : List NdQ → Option Addr → Option Addr
  | [], d => d
  | x :: xs, _ => lstPQ xs x.p
theorem fstPQ_nil (d : Option Addr) : fstPQ [] d = d := rfl
theorem fstPQ_cons (x : NdQ) (xs : List NdQ) (d : Option Addr) : fstPQ (x :: xs) d = x.p := rfl
theorem fstPQ_app : ∀ (l1 l2 : List NdQ) (d : Option Addr), fstPQ (l1 ++ l2) d = fstPQ l1 (fstPQ l2 d)
  | [], _, _ => rfl
  | _ :: _, _, _ => rfl
theorem lstPQ_app : ∀ (l1 l2 : List NdQ) (d : Option Addr), lstPQ (l1 ++ l2) d = lstPQ l2 (lstPQ l1 d)
  | [], _, _ => rfl
  | x :: l1, l2, _ => lstPQ_app l1 l2 x.p
def SegOkQ (T : Nat) (h : Nat → Option Obj) : Option Addr → List NdQ → Option Addr → Prop
  | _, [], _ => True
  | p, x :: xs, n => h x.b = some (.cells (ndCQ x p (fstPQ xs n)).toArray T (0, 0)) ∧ SegOkQ T h x.p xs n
theorem SegOkQ.app {T : Nat} {h : Nat → Option Obj} : ∀ {l1 l2 : List NdQ} {p n : Option Addr}, SegOkQ T h p (l1 ++ l2) n ↔ SegOkQ T h p l1 (fstPQ l2 n) ∧ SegOkQ T h (lstPQ l1 p) l2 n
  | [], l2, p, n => by simp [SegOkQ, lstPQ]
  | x :: l1, l2, p, n => by
    simp only [List.cons_append, SegOkQ, lstPQ, fstPQ_app]
    rw [SegOkQ.app (l1 := l1)]
    exact ⟨fun ⟨a, b, c⟩ => ⟨⟨a, b⟩, c⟩, fun ⟨⟨a, b⟩, c⟩ => ⟨a, b, c⟩⟩
theorem SegOkQ.loc {T : Nat} {h h' : Nat → Option Obj} : ∀ {xs : List NdQ} {p n : Option Addr}, (∀ b, (∃ x ∈ xs, x.b = b) → h b = h' b) → SegOkQ T h p xs n → SegOkQ T h' p xs n
  | [], _, _, _, _ => trivial
  | x :: xs, p, n, hh, ho => ⟨by rw [← hh x.b ⟨x, List.mem_cons_self .., rfl⟩]; exact ho.1, SegOkQ.loc (fun b ⟨y, hy, hb⟩ => hh b ⟨y, List.mem_cons_of_mem _ hy, hb⟩) ho.2⟩
/-- A part of a row: what stands ahead of it, what behind. -/
def SegQ (T : Nat) (p : Option Addr) (xs : List NdQ) (n : Option Addr) : Atom where
  fp b := ∃ x ∈ xs, x.b = b
  ok h := SegOkQ T h p xs n ∧ (xs.map NdQ.b).Nodup
  loc h h' hh ho := ⟨SegOkQ.loc hh ho.1, ho.2⟩
theorem segQ_cut {w0 : World} {F : List Atom} {w : World} {T : Nat} {l1 l2 : List NdQ} {p n : Option Addr} (h : Holds w0 (SegQ T p (l1 ++ l2) n :: F) w) : Holds w0 (SegQ T p l1 (fstPQ l2 n) :: SegQ T (lstPQ l1 p) l2 n :: F) w := by
  refine holds_cut h (fun ho => ?_) (fun b hb => ?_)
  · obtain ⟨h1, h2⟩ := ho
    rw [SegOkQ.app] at h1
    rw [List.map_append, List.nodup_append] at h2
    exact ⟨⟨h1.1, h2.1⟩, ⟨h1.2, h2.2.1⟩, fun b ⟨x, hx, e1⟩ ⟨y, hy, e2⟩ => h2.2.2 x.b (List.mem_map.2 ⟨x, hx, rfl⟩) y.b (List.mem_map.2 ⟨y, hy, rfl⟩) (e1.trans e2.symm)⟩
  · rcases hb with ⟨x, hx, e⟩ | ⟨x, hx, e⟩
    · exact ⟨x, List.mem_append_left _ hx, e⟩
    · exact ⟨x, List.mem_append_right _ hx, e⟩
theorem segQ_glue {w0 : World} {F : List Atom} {w : World} {T : Nat} {l1 l2 : List NdQ} {p n q r : Option Addr} (hq : q = fstPQ l2 n) (hr : r = lstPQ l1 p) (h : Holds w0 (SegQ T p l1 q :: SegQ T r l2 n :: F) w) : Holds w0 (SegQ T p (l1 ++ l2) n :: F) w := by
  subst hq hr
  refine holds_glue h (fun h1 h2 h3 => ⟨SegOkQ.app.2 ⟨h1.1, h2.1⟩, ?_⟩) (fun b ⟨x, hx, e⟩ => ?_)
  · rw [List.map_append, List.nodup_append]
    refine ⟨h1.2, h2.2, fun a ha b hb e => ?_⟩
    obtain ⟨x, hx, rfl⟩ := List.mem_map.1 ha
    obtain ⟨y, hy, rfl⟩ := List.mem_map.1 hb
    exact h3 x.b ⟨x, hx, rfl⟩ ⟨y, hy, e.symm⟩
  · rcases List.mem_append.1 hx with hx | hx
    · exact .inl ⟨x, hx, e⟩
    · exact .inr ⟨x, hx, e⟩
theorem segQ_one {w0 : World} {F : List Atom} {w : World} {T : Nat} {x : NdQ} {p n : Option Addr} : Holds w0 (SegQ T p [x] n :: F) w ↔ Holds w0 (Blk x.b (.cells (ndCQ x p n).toArray T (0, 0)) :: F) w := by
  constructor
  · intro h
    exact h.as (fun ho => ho.1.1) (fun b hb => ⟨x, List.mem_cons_self .., hb.symm⟩)
  · intro h
    exact h.as (fun ho => ⟨⟨ho, trivial⟩, by simp⟩) (fun b ⟨y, hy, e⟩ => by
      obtain rfl : y = x := by simpa using hy
      exact e.symm)
theorem segQ_nil {w0 : World} {F : List Atom} {w : World} {T : Nat} {p n : Option Addr} (h : Holds w0 F w) : Holds w0 (SegQ T p [] n :: F) w :=
  ⟨h.os, h.tape, h.output, fun A hA => by
    rcases List.mem_cons.1 hA with rfl | hA
    · exact ⟨trivial, List.nodup_nil⟩
    · exact h.ok A hA, fun A hA b hb => by
    rcases List.mem_cons.1 hA with rfl | hA
    · obtain ⟨x, hx, _⟩ := hb; cases hx
    · exact h.lt A hA b hb, List.pairwise_cons.2 ⟨fun A hA b ⟨x, hx, _⟩ => (by cases hx), h.sep⟩⟩
theorem segQ_at {w0 : World} {F : List Atom} {w : World} {T : Nat} {l1 l2 : List NdQ} {x : NdQ} {p n : Option Addr} (h : Holds w0 (SegQ T p (l1 ++ x :: l2) n :: F) w) : Holds w0 (SegQ T p l1 x.p :: Blk x.b (.cells (ndCQ x (lstPQ l1 p) (fstPQ l2 n)).toArray T (0, 0)) :: SegQ T x.p l2 n :: F) w := by
  have h1 := segQ_cut (l2 := x :: l2) h
  have h2 := segQ_cut (l1 := [x]) (l2 := l2) (h1.perm (List.Perm.swap ..))
  have h3 := segQ_one.1 h2
  exact h3.perm ((List.Perm.cons _ (List.Perm.swap ..)).trans (List.Perm.swap ..))
theorem segQ_to {w0 : World} {F : List Atom} {w : World} {T : Nat} {l1 l2 : List NdQ} {x : NdQ} {p n q r : Option Addr} (hq : q = lstPQ l1 p) (hr : r = fstPQ l2 n) (h : Holds w0 (SegQ T p l1 x.p :: Blk x.b (.cells (ndCQ x q r).toArray T (0, 0)) :: SegQ T x.p l2 n :: F) w) : Holds w0 (SegQ T p (l1 ++ x :: l2) n :: F) w := by
  subst hq hr
  have h1 := (h.perm (List.Perm.swap ..))
  have h2 := segQ_one.2 h1
  have h3 := h2.perm ((List.Perm.cons _ (List.Perm.swap ..)))
  have h4 : Holds w0 (SegQ T (lstPQ l1 p) (x :: l2) n :: SegQ T p l1 x.p :: F) w := segQ_glue (l1 := [x]) (l2 := l2) rfl rfl h3
  exact segQ_glue rfl rfl (h4.perm (List.Perm.swap ..))
theorem segQ_cell {w0 : World} {F : List Atom} {T : Nat} {l1 l2 : List NdQ} {x : NdQ} {p n : Option Addr} (hm : SegQ T p (l1 ++ x :: l2) n ∈ F) {o : Nat} {v : Value} (hv : (ndCQ x (lstPQ l1 p) (fstPQ l2 n))[o]? = some v) : CellAt w0 F x.b o v := fun w hw => by
  have h1 := (hw.ok _ hm).1
  rw [SegOkQ.app] at h1
  exact cell_of_has h1.2.1 hv
/-- The map holds just the things of the row. -/
structure ShOkQ (kv : List ((Int × Int) × Value)) (xs : List NdQ) : Prop where
  perm : kv.Perm (xs.map fun x => (x.k, Value.pointer x.p))
  nd : (xs.map NdQ.k).Nodup
theorem ShOkQ.nil : ShOkQ [] [] := ⟨by simp, by simp⟩
theorem ShOkQ.len {kv : List ((Int × Int) × Value)} {xs : List NdQ} (h : ShOkQ kv xs) : kv.length = xs.length := by simpa using h.perm.length_eq
theorem fnd_notQ : ∀ {kv : List ((Int × Int) × Value)} {k : (Int × Int)} {i : Nat}, (∀ p ∈ kv, p.1 ≠ k) → fndG kv k i = none
  | [], _, _, _ => rfl
  | p :: kv, k, i, h => by
    simp only [fndG]
    rw [if_neg (fun e => h p (List.mem_cons_self ..) e.symm)]
    exact fnd_notQ fun q hq => h q (List.mem_cons_of_mem _ hq)
theorem fnd_memQ : ∀ {kv : List ((Int × Int) × Value)} {k : (Int × Int)} {v : Value} {i : Nat}, (kv.map (·.1)).Nodup → (k, v) ∈ kv → ∃ j, fndG kv k i = some (i + j, v) ∧ kv.Perm ((k, v) :: kv.eraseIdx j)
  | [], _, _, _, _, h => by cases h
  | p :: kv, k, v, i, hn, h => by
    simp only [List.map_cons, List.nodup_cons] at hn
    simp only [fndG]
    by_cases hk : k = p.1
    · rcases List.mem_cons.1 h with e | h
      · exact ⟨0, by rw [if_pos hk, ← e]; rfl, by rw [← e]; exact .refl _⟩
      · exact absurd (List.mem_map.2 ⟨(k, v), h, hk⟩) hn.1
    · rcases List.mem_cons.1 h with e | h
      · exact absurd (by rw [← e]) hk
      · obtain ⟨j, h1, h2⟩ := fnd_memQ (i := i + 1) hn.2 h
        exact ⟨j + 1, by rw [if_neg hk, h1, show i + 1 + j = i + (j + 1) by omega], (h2.cons p).trans (List.Perm.swap ..)⟩
theorem ShOkQ.none {kv : List ((Int × Int) × Value)} {xs : List NdQ} (h : ShOkQ kv xs) {k : (Int × Int)} (hk : ∀ x ∈ xs, x.k ≠ k) : fndG kv k 0 = none := fnd_notQ fun p hp => by
  obtain ⟨x, hx, e⟩ := List.mem_map.1 (h.perm.mem_iff.1 hp)
  rw [← e]; exact hk x hx
theorem ShOkQ.keys {kv : List ((Int × Int) × Value)} {xs : List NdQ} (h : ShOkQ kv xs) : (kv.map (·.1)).Nodup := by
  have h1 := h.perm.map (fun p : (Int × Int) × Value => p.1)
  rw [h1.nodup_iff, List.map_map]
  exact h.nd
theorem ShOkQ.some {kv : List ((Int × Int) × Value)} {l1 l2 : List NdQ} {x : NdQ} (h : ShOkQ kv (l1 ++ x :: l2)) : ∃ i, fndG kv x.k 0 = Option.some (i, Value.pointer x.p) ∧ ShOkQ (kv.eraseIdx i) (l1 ++ l2) := by
  obtain ⟨j, h1, h2⟩ := fnd_memQ (i := 0) h.keys (h.perm.mem_iff.2 (List.mem_map.2 ⟨x, by simp, rfl⟩))
  rw [Nat.zero_add] at h1
  refine ⟨j, h1, ?_, ?_⟩
  · have h3 := h2.symm.trans h.perm
    rw [List.map_append, List.map_cons] at h3
    have h4 := h3.trans List.perm_middle
    rw [List.map_append]
    exact h4.cons_inv
  · have := h.nd
    rw [List.map_append, List.map_cons] at this
    rw [List.map_append]
    exact ((List.perm_middle.nodup_iff).1 this).of_cons
theorem ShOkQ.move {kv : List ((Int × Int) × Value)} {l1 l2 : List NdQ} {x y : NdQ} (h : ShOkQ kv (l1 ++ x :: l2)) (hk : y.k = x.k) (hb : y.b = x.b) : ShOkQ kv (l1 ++ l2 ++ [y]) := by
  have hp : y.p = x.p := by unfold NdQ.p; rw [hb]
  refine ⟨h.perm.trans ?_, ?_⟩
  · rw [List.map_append, List.map_cons, List.map_append, List.map_append, List.map_cons, List.map_nil, hk, hp]
    exact List.perm_middle.trans (List.perm_append_singleton ..).symm
  · have := h.nd
    rw [List.map_append, List.map_cons] at this
    rw [List.map_append, List.map_append, List.map_cons, List.map_nil, hk]
    exact ((List.perm_append_singleton ..).nodup_iff).2 ((List.perm_middle.nodup_iff).1 this)
theorem ShOkQ.snoc {kv : List ((Int × Int) × Value)} {xs : List NdQ} (h : ShOkQ kv xs) {x : NdQ} (hk : ∀ y ∈ xs, y.k ≠ x.k) : ShOkQ (kv ++ [(x.k, Value.pointer x.p)]) (xs ++ [x]) := by
  refine ⟨?_, ?_⟩
  · rw [List.map_append, List.map_cons, List.map_nil]
    exact h.perm.append (.refl _)
  · rw [List.map_append, List.map_cons, List.map_nil]
    refine ((List.perm_append_singleton ..).nodup_iff).2 (List.nodup_cons.2 ⟨fun hm => ?_, h.nd⟩)
    obtain ⟨y, hy, e⟩ := List.mem_map.1 hm
    exact hk y hy e
theorem nd_splitQ {xs : List NdQ} {k : (Int × Int)} : (∃ l1 x l2, xs = l1 ++ x :: l2 ∧ x.k = k) ∨ ∀ x ∈ xs, x.k ≠ k := by
  by_cases h : ∃ x ∈ xs, x.k = k
  · obtain ⟨x, hx, e⟩ := h
    obtain ⟨l1, l2, h2⟩ := List.append_of_mem hx
    exact .inl ⟨l1, x, l2, h2, e⟩
  · exact .inr fun x hx e => h ⟨x, hx, e⟩

theorem segQ_row2 {w0 : World} {F : List Atom} {T : Nat} {l1 l2 : List NdQ} {x : NdQ} {p n : Option Addr} (hm : SegQ T p (l1 ++ x :: l2) n ∈ F) {o : Nat} {u v : Value} (hu : (ndCQ x (lstPQ l1 p) (fstPQ l2 n))[o]? = some u) (hv : (ndCQ x (lstPQ l1 p) (fstPQ l2 n))[o + 1]? = some v) : RowAt w0 F x.b o [u, v] := fun w hw j z hz => by
  match j, hz with
  | 0, hz => cases hz; exact segQ_cell hm hu w hw
  | 1, hz => cases hz; exact segQ_cell hm hv w hw
  | j + 2, hz => simp at hz
theorem fst_someQ {xs : List NdQ} (h : (!(fstPQ xs none).isNone) = true) : ∃ x l, xs = x :: l := by
  cases xs with
  | nil => cases h
  | cons x l => exact ⟨x, l, rfl⟩
theorem fst_noneQ {xs : List NdQ} (h : (!(fstPQ xs none).isNone) = false) : xs = [] := by
  cases xs with
  | nil => rfl
  | cons x l => cases h

end Go.Proofs.YtjfibfbknfeflaaDoor.Fw
