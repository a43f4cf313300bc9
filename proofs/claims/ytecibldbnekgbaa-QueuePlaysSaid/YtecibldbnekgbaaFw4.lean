import Derived.Test.YtecibldbnekgbaaFw3
import Derived.Laws.AppendOwn
import Derived.Laws.MakeOwn
import Derived.Laws.OwnMore
namespace Go.Proofs.Ytecibldbnekgbaa.Fw
open Go
set_option linter.unusedVariables false
set_option linter.unusedSimpArgs false

theorem Holds.setAt {w0 F F' w w'} {A A' : Atom} {i : Nat} (h : Holds w0 F w) (hi : getO F i = some A) (hF : setO F i A' = some F') (ht : ∀ F1, Holds w0 (A :: F1) w → Holds w0 (A' :: F1) w') : Holds w0 F' w' := by
  obtain ⟨l', h1, h2⟩ := perm_set (a' := A') (getO_eq hi)
  have hF' := (setO_eq hF).2
  subst hF'
  exact (ht l' (h.perm h1)).perm h2.symm

/-- A row of the call's own: a slice's value v of n elements, of sz cells each. -/
def Own (E sz : Nat) (v : Value) (n : Nat) (xs : List Value) : Atom where
  fp b := v.ownBlock = some b
  ok h := xs.length = n * sz ∧ ((v = .slice none 0 0 ∧ n = 0) ∨ ∃ g cap cur, v = .slice (some ⟨g, 0, none⟩) n cap ∧ h g = some (.cells cur E (0, 0)) ∧ n ≤ cap ∧ cap ≤ maxLen ∧ cur.size = cap * sz ∧ cur.toList.take (n * sz) = xs)
  loc h h' hh ho := by
    refine ⟨ho.1, ?_⟩
    rcases ho.2 with hn | ⟨g, cap, cur, rfl, hg, r⟩
    · exact .inl hn
    · exact .inr ⟨g, cap, cur, rfl, (hh g rfl).symm.trans hg, r⟩
theorem Own.owns {E sz v n xs w} (h : (Own E sz v n xs).ok (hp w)) : w.ownsRow 0 E sz v n xs := by
  refine ⟨h.1, ?_⟩
  rcases h.2 with hn | ⟨g, cap, cur, hv, hg, r⟩
  · exact .inl hn
  · exact .inr ⟨g, cap, cur, hv, Nat.zero_le _, hg, r⟩
theorem Own.of_owns {E sz v n xs w b} (h : w.ownsRow b E sz v n xs) : (Own E sz v n xs).ok (hp w) := by
  refine ⟨h.1, ?_⟩
  rcases h.2 with hn | ⟨g, cap, cur, hv, _, hg, r⟩
  · exact .inl hn
  · exact .inr ⟨g, cap, cur, hv, hg, r⟩
theorem Own.lt {w0 E sz v n xs F w} (h : Holds w0 F w) (hm : Own E sz v n xs ∈ F) : n ≤ maxLen := by
  rcases (h.ok _ hm).2 with ⟨_, rfl⟩ | ⟨g, cap, cur, _, _, h1, h2, _⟩
  · exact Nat.zero_le _
  · exact Nat.le_trans h1 h2
theorem Own.len {w0 E sz v n xs F w} (h : Holds w0 F w) (hm : Own E sz v n xs ∈ F) : xs.length = n * sz := (h.ok _ hm).1

/-- A slice that holds nothing costs nothing. -/
theorem Holds.own_nil {w0 F w} (h : Holds w0 F w) (E sz : Nat) : Holds w0 (Own E sz (.slice none 0 0) 0 [] :: F) w := by
  refine ⟨h.os, h.tape, h.output, fun A hA => ?_, fun A hA b hb => ?_, List.pairwise_cons.2 ⟨fun A hA b hb => ?_, h.sep⟩⟩
  · rcases List.mem_cons.1 hA with rfl | hA
    · exact ⟨by simp, .inl ⟨rfl, rfl⟩⟩
    · exact h.ok A hA
  · rcases List.mem_cons.1 hA with rfl | hA
    · simp [Own, Value.ownBlock] at hb
    · exact h.lt A hA b hb
  · simp [Own, Value.ownBlock] at hb
/-- A part is told otherwise. -/
theorem Holds.as {w0 A A' F w} (h : Holds w0 (A :: F) w) (ha : A.ok (hp w) → A'.ok (hp w)) (hfp : ∀ b, A'.fp b → A.fp b) : Holds w0 (A' :: F) w :=
  h.turn rfl rfl rfl (Nat.le_refl _) (fun _ _ _ => rfl) (ha (h.ok _ (List.mem_cons_self ..))) (fun b hb => .inl (hfp b hb)) (fun b hb => h.lt _ (List.mem_cons_self ..) b (hfp b hb))
theorem Holds.blk_own {w0 F w b E sz} {c : List Value} {m cap : Nat} (h : Holds w0 (Blk b (.cells c.toArray E (0, 0)) :: F) w) (hc : c.length = cap * sz) (hm : m ≤ cap) (hl : cap ≤ maxLen) :
    Holds w0 (Own E sz (.slice (some ⟨b, 0, none⟩) m cap) m (c.take (m * sz)) :: F) w :=
  h.as (fun ho => ⟨by rw [List.length_take, hc]; exact Nat.min_eq_left (Nat.mul_le_mul_right _ hm), .inr ⟨b, cap, c.toArray, rfl, ho, hm, hl, by simpa using hc, by simp⟩⟩)
    (fun x hx => by simp only [Own, Value.ownBlock, Option.some.injEq] at hx; exact hx.symm)

/- Cells, whatever tells them. -/
def CellAt (w0 : World) (F : List Atom) (b o : Nat) (v : Value) : Prop := ∀ w, Holds w0 F w → w.cell? ⟨b, o, none⟩ = some v
def RowAt (w0 : World) (F : List Atom) (b o : Nat) (l : List Value) : Prop := ∀ w, Holds w0 F w → ∀ (j : Nat) u, l[j]? = some u → w.cell? ⟨b, o + j, none⟩ = some u
theorem CellAt.blk {w0 F b o v E fr} {c : List Value} (h : Has w0 F b (.cells c.toArray E fr)) (hv : c[o]? = some v) : CellAt w0 F b o v := fun w hw => cell_of_has (h w hw) hv
theorem CellAt.there {w0 A F b o v} (h : CellAt w0 F b o v) : CellAt w0 (A :: F) b o v := fun w hw => h w hw.tail
theorem RowAt.there {w0 A F b o l} (h : RowAt w0 F b o l) : RowAt w0 (A :: F) b o l := fun w hw => h w hw.tail
theorem RowAt.cell {w0 F b o l v} (h : RowAt w0 F b o l) {j : Nat} (hv : l[j]? = some v) : CellAt w0 F b (o + j) v := fun w hw => h w hw j v hv
theorem RowAt.mid {w0 F b o l} (h : RowAt w0 F b o l) (j m : Nat) : RowAt w0 F b (o + j) ((l.drop j).take m) := fun w hw i u hu => by
  rw [List.getElem?_take] at hu
  split at hu
  · rw [List.getElem?_drop] at hu
    have := h w hw (j + i) u hu
    rwa [← Nat.add_assoc] at this
  · cases hu
theorem RowAt.blk {w0 F b o E fr} {c l : List Value} {m : Nat} (h : Has w0 F b (.cells c.toArray E fr)) (hl : takeO c o m = some l) : RowAt w0 F b o l := fun w hw j u hu => by
  obtain ⟨h1, h2⟩ := takeO_eq hl
  refine cell_of_has (h w hw) ?_
  rw [h1, List.getElem?_take] at hu
  split at hu
  · rwa [List.getElem?_drop] at hu
  · cases hu
theorem RowAt.own {w0 F E sz b n cap xs} (h : Own E sz (.slice (some ⟨b, 0, none⟩) n cap) n xs ∈ F) : RowAt w0 F b 0 xs := fun w hw j u hu => by
  have := (Own.owns (hw.ok _ h)).cells (g := b) rfl j u hu
  rw [add_none] at this
  exact this
theorem RowAt.old {w0 w1 F b o l} (h : Old w1 ∈ F) (hl : ∀ (j : Nat) u, l[j]? = some u → w1.cell? ⟨b, o + j, none⟩ = some u) : RowAt w0 F b o l := fun w hw j u hu => by
  have hc := hl j u hu
  have hlt := World.block_lt_of_cell? w1 _ hc
  refine (World.cell?_of_block (w := w1) (w' := w) ?_).trans hc
  exact hw.ok _ h b hlt

/-- A slice's value that reads as these cells, wherever they lie. -/
def Reads (w0 : World) (F : List Atom) (v : Value) (n sz : Nat) (xs : List Value) : Prop :=
  xs.length = n * sz ∧ ((∃ b o cap, v = .slice (some ⟨b, o, none⟩) n cap ∧ RowAt w0 F b o xs) ∨ (v = .slice none 0 0 ∧ n = 0))
theorem Reads.there {w0 A F v n sz xs} (h : Reads w0 F v n sz xs) : Reads w0 (A :: F) v n sz xs :=
  ⟨h.1, h.2.imp (fun ⟨b, o, cap, hv, hr⟩ => ⟨b, o, cap, hv, hr.there⟩) id⟩
theorem Reads.own {w0 F E sz v n xs} (hl : xs.length = n * sz) (hv : (v = .slice none 0 0 ∧ n = 0) ∨ ∃ g cap, v = .slice (some ⟨g, 0, none⟩) n cap) (h : Own E sz v n xs ∈ F) : Reads w0 F v n sz xs := by
  refine ⟨hl, ?_⟩
  rcases hv with hv | ⟨g, cap, rfl⟩
  · exact .inr hv
  · exact .inl ⟨g, 0, cap, rfl, RowAt.own h⟩

/- Rows turned in the midst. -/
def spl {α : Type} (o : Nat) (vs c : List α) : List α := c.take o ++ vs ++ c.drop (o + vs.length)
theorem spl_length {α : Type} {o : Nat} {vs c : List α} (h : o + vs.length ≤ c.length) : (spl o vs c).length = c.length := by simp [spl]; omega
theorem setsO_spl {α : Type} : ∀ {vs : List α} {o : Nat} {c : List α}, o + vs.length ≤ c.length → setsO c o vs = some (spl o vs c)
  | [], o, c, h => by simp [setsO, spl]
  | v :: vs, o, c, h => by
    simp only [List.length_cons] at h
    simp only [setsO, setO_of (show o < c.length by omega)]
    rw [setsO_spl (by simp; omega)]
    simp only [spl, Option.some.injEq, List.length_cons]
    rw [List.drop_set_of_lt (by omega), show o + 1 + vs.length = o + (vs.length + 1) by omega]
    congr 1
    rw [List.take_add_one, List.take_set_of_le (Nat.le_refl _)]
    simp [show o < c.length by omega]
theorem spl_take {α : Type} {o k : Nat} {vs c : List α} (h : o + vs.length ≤ k) (hk : k ≤ c.length) : (spl o vs c).take k = spl o vs (c.take k) := by
  apply List.ext_getElem?
  intro i
  simp only [spl, List.getElem?_take, List.getElem?_append, List.length_append, List.length_take, List.getElem?_drop]
  repeat' split
  all_goals first | rfl | omega | (congr 1; omega) | skip
  all_goals (try (simp_all; omega))
theorem spl_get {α : Type} {o : Nat} {vs c : List α} (h : o + vs.length ≤ c.length) (i : Nat) : (spl o vs c)[i]? = if o ≤ i ∧ i < o + vs.length then vs[i - o]? else c[i]? := by
  simp only [spl, List.getElem?_append, List.length_append, List.length_take, List.getElem?_take, List.getElem?_drop]
  repeat' split
  all_goals first | rfl | omega | (congr 1; omega) | skip
theorem spl_one {α : Type} {o : Nat} {v : α} {c : List α} (h : o < c.length) : spl o [v] c = c.set o v := by
  have h1 := setsO_spl (vs := [v]) (o := o) (c := c) (by simp; omega)
  simp only [setsO, setO_of h] at h1
  injection h1 with h1
  exact h1.symm

theorem run_store_own {P : Program} {w0 w : World} {E sz g n cap o : Nat} {xs vs : List Value} {F : List Atom} (h : Holds w0 (Own E sz (.slice (some ⟨g, 0, none⟩) n cap) n xs :: F) w) (hs : vs.all scalar = true) (ho : o + vs.length ≤ xs.length) :
    ∃ w', (storeCells ⟨g, o, none⟩ vs).run P w = .ok () w' ∧ Holds w0 (Own E sz (.slice (some ⟨g, 0, none⟩) n cap) n (spl o vs xs) :: F) w' := by
  have hok := h.ok _ (List.mem_cons_self ..)
  obtain ⟨hlen, hh⟩ := hok
  rcases hh with ⟨hv, _⟩ | ⟨g', cap', cur, hv, hg, hnc, hcm, hcs, htk⟩
  · cases hv
  · cases hv
    obtain ⟨cl⟩ := cur
    have hcl : cl.length = cap * sz := by simpa using hcs
    have hle : n * sz ≤ cl.length := by rw [hcl]; exact Nat.mul_le_mul_right _ hnc
    obtain ⟨w', hr, h1, h2, h3, h4, h5, h6⟩ := run_storeCells (P := P) vs 0 o cl (spl o vs cl) w hg hs (setsO_spl (by omega))
    refine ⟨w', hr, h.turn h2 h3 h4 (Nat.le_of_eq h5.symm) (fun b hb hnb => h6 b (fun e => hnb (by subst e; rfl))) ?_ (fun b hb => .inl hb) (fun b hb => ?_)⟩
    · have htk' : cl.take (n * sz) = xs := htk
      refine ⟨by rw [spl_length ho]; exact hlen, .inr ⟨g, cap, _, rfl, h1, hnc, hcm, ?_, ?_⟩⟩
      · simp [spl_length (show o + vs.length ≤ cl.length by omega), hcl]
      · show (spl o vs cl).take (n * sz) = _
        rw [spl_take (by omega) hle, htk']
    · rw [h5]; exact h.lt _ (List.mem_cons_self ..) b hb

theorem run_value {P : Program} {s : Sem Value} {v : Value} {w w' : World} (h : s.run P w = .ok v w') : (do pure (Go.Next.value (← s)) : Sem Go.Next).run P w = .ok (.value v) w' := by
  simp [h, go_sem]
theorem run_loadCells_row {P : Program} {w : World} {b o : Nat} {l : List Value} (h : ∀ (j : Nat) u, l[j]? = some u → w.cell? ⟨b, o + j, none⟩ = some u) : (loadCells ⟨b, o, none⟩ l.length).run P w = .ok l.toArray w :=
  run_loadCells_list w ⟨b, o, none⟩ l (fun j v hv => by rw [add_none]; exact h j v hv)

section ops
variable {P : Program} {f : FuncId} {w0 : World} {K : Post} {n : Nat} {d : List Deferred} {ops : Array Oper} {rest : List Oper} {k : List Item} {e : Env} {F : List Atom}
variable {ty : TypeId} {pos : String} {aft : Array Edge}

/-- A load, whatever tells the cell. -/
theorem l_loadc {t x b o T v} (ht : Nat.ble (t + 1) n = true) (hA : ∀ w, (isAgg T).run P w = .ok false w) (hx : evO e x = some (.pointer (some ⟨b, o, none⟩)))
    (hv : CellAt w0 F b o v) (hk : GL P f w0 K n d ops rest k ((t, v) :: e) F) : GL P f w0 K n d ops (.mk (some t) (.load T x) ty pos aft none :: rest) k e F :=
  l_val ht (fun ρ w ha hw => by
    have hc := hv w hw
    simp [execOp, ha _ _ hx, Instr.loadAt, Instr.sureAddr, loadVar, hA, load, Sem.run, hc, go_sem]) hk
theorem l_loadr {t x b o T sz} {l : List Value} (ht : Nat.ble (t + 1) n = true) (hA : ∀ w, (isAgg T).run P w = .ok true w) (hS : ∀ w, (sizeOf T).run P w = .ok sz w) (hx : evO e x = some (.pointer (some ⟨b, o, none⟩)))
    (hl : l.length = sz) (hv : RowAt w0 F b o l) (hk : GL P f w0 K n d ops rest k ((t, .agg l.toArray) :: e) F) : GL P f w0 K n d ops (.mk (some t) (.load T x) ty pos aft none :: rest) k e F :=
  l_val ht (fun ρ w ha hw => by
    have hc := run_loadCells_row (P := P) (hv w hw)
    subst hl
    simp only [execOp, ha _ _ hx]
    refine run_value ?_
    simp only [Instr.loadAt, Instr.sureAddr, loadVar]
    simp only [loadCells] at hc
    simp [hA, hS, hc, go_sem]) hk
/-- A store into a row of the call's own. -/
theorem l_storeo {x y g o T u E sz m cap F'} {xs : List Value} (i : Nat) (hS : ∀ w, (sizeOf T).run P w = .ok 1 w) (hx : evO e x = some (.pointer (some ⟨g, o, none⟩))) (hy : evO e y = some u) (hs : scalar u = true)
    (hi : getO F i = some (Own E sz (.slice (some ⟨g, 0, none⟩) m cap) m xs)) (ho : o < xs.length) (hF : setO F i (Own E sz (.slice (some ⟨g, 0, none⟩) m cap) m (xs.set o u)) = some F')
    (hk : GL P f w0 K n d ops rest k e F') : GL P f w0 K n d ops (.mk none (.store T x y) ty pos aft none :: rest) k e F :=
  l_none (fun ρ w ha hw => by
    obtain ⟨l', h1, h2⟩ := perm_set (a' := Own E sz (.slice (some ⟨g, 0, none⟩) m cap) m (xs.set o u)) (getO_eq hi)
    have hF' := (setO_eq hF).2
    subst hF'
    have hcells : u.cells = #[u] := by cases u <;> simp_all [Value.cells, scalar]
    obtain ⟨w', hr, hw'⟩ := run_store_own (P := P) (vs := [u]) (o := o) (hw.perm h1) (by simp [hs]) (by simp; omega)
    rw [spl_one ho] at hw'
    refine ⟨undef, w', _, .inr ?_, hw'.perm h2.symm, hk⟩
    simp only [execOp, ha _ _ hx, ha _ _ hy, Instr.storeAt, Instr.sureAddr, storeVar, hcells]
    simp only [List.size_toArray, List.length_cons, List.length_nil]
    simp [storeCells, go_sem] at hr
    simp [hS, hr, go_sem])
theorem l_storeso {x y g o T E sz m cap F' sz2} {xs l : List Value} (i : Nat) (hS : ∀ w, (sizeOf T).run P w = .ok sz2 w) (hx : evO e x = some (.pointer (some ⟨g, o, none⟩))) (hy : evO e y = some (.agg l.toArray)) (hl : l.length = sz2) (hs : l.all scalar = true)
    (hi : getO F i = some (Own E sz (.slice (some ⟨g, 0, none⟩) m cap) m xs)) (ho : o + l.length ≤ xs.length) (hF : setO F i (Own E sz (.slice (some ⟨g, 0, none⟩) m cap) m (spl o l xs)) = some F')
    (hk : GL P f w0 K n d ops rest k e F') : GL P f w0 K n d ops (.mk none (.store T x y) ty pos aft none :: rest) k e F :=
  l_none (fun ρ w ha hw => by
    obtain ⟨l', h1, h2⟩ := perm_set (a' := Own E sz (.slice (some ⟨g, 0, none⟩) m cap) m (spl o l xs)) (getO_eq hi)
    have hF' := (setO_eq hF).2
    subst hF'
    obtain ⟨w', hr, hw'⟩ := run_store_own (P := P) (vs := l) (o := o) (hw.perm h1) hs ho
    refine ⟨undef, w', _, .inr ?_, hw'.perm h2.symm, hk⟩
    subst hl
    simp only [execOp, ha _ _ hx, ha _ _ hy, Instr.storeAt, Instr.sureAddr, storeVar, Value.cells]
    simp [hS, hr, go_sem])
/- Addresses. -/
theorem l_fieldAddr {t x b o S i off} (ht : Nat.ble (t + 1) n = true) (hf : ∀ a w, (Instr.fieldAt S (.pointer (some a)) i).run P w = .ok (.pointer (some (a.add off))) w) (hx : evO e x = some (.pointer (some ⟨b, o, none⟩)))
    (hk : GL P f w0 K n d ops rest k ((t, .pointer (some ⟨b, o + off, none⟩)) :: e) F) : GL P f w0 K n d ops (.mk (some t) (.fieldAddr S x i) ty pos aft none :: rest) k e F :=
  l_val ht (fun ρ w ha hw => by
    simp only [execOp, ha _ _ hx]
    exact run_value ((hf _ _).trans (by rw [add_none]))) hk
theorem l_field1 {t x S i v} {off : Nat} {l : List Value} (ht : Nat.ble (t + 1) n = true) (hf : ∀ (cs : Array Value) v w, cs[off]? = some v → (Instr.field S (.agg cs) i).run P w = .ok v w) (hx : evO e x = some (.agg l.toArray)) (hv : l[off]? = some v)
    (hk : GL P f w0 K n d ops rest k ((t, v) :: e) F) : GL P f w0 K n d ops (.mk (some t) (.field S x i) ty pos aft none :: rest) k e F :=
  l_val ht (fun ρ w ha hw => by
    have := hf l.toArray v w (by simpa using hv)
    simp only [execOp, ha _ _ hx]
    exact run_value this) hk
theorem l_fields {t x S i} {off sz : Nat} {l l' : List Value} (ht : Nat.ble (t + 1) n = true) (hf : ∀ (cs : Array Value) w, (Instr.field S (.agg cs) i).run P w = .ok (.agg (cs.extract off (off + sz))) w) (hx : evO e x = some (.agg l.toArray)) (hv : takeO l off sz = some l')
    (hk : GL P f w0 K n d ops rest k ((t, .agg l'.toArray) :: e) F) : GL P f w0 K n d ops (.mk (some t) (.field S x i) ty pos aft none :: rest) k e F :=
  l_val ht (fun ρ w ha hw => by
    have := hf l.toArray w
    obtain ⟨h1, _⟩ := takeO_eq hv
    have h2 : l.toArray.extract off (off + sz) = l'.toArray := by rw [h1]; simp [List.extract_eq_take_drop]
    rw [h2] at this
    simp only [execOp, ha _ _ hx]
    exact run_value this) hk
theorem l_ixs {t x y b o m cap T E sz} {kd : IntKind} {i : Int} (ht : Nat.ble (t + 1) n = true) (hT : P.underlying T = some (.slice E)) (hS : ∀ w, (sizeOf E).run P w = .ok sz w) (hx : evO e x = some (.slice (some ⟨b, o, none⟩) m cap)) (hy : evO e y = some (.int kd i))
    (h0 : 0 ≤ i) (h1 : i < m) (hk : GL P f w0 K n d ops rest k ((t, .pointer (some ⟨b, o + i.toNat * sz, none⟩)) :: e) F) : GL P f w0 K n d ops (.mk (some t) (.indexAddr T x y) ty pos aft none :: rest) k e F :=
  l_val ht (fun ρ w ha hw => by
    have hu : ∀ w, (underlying T).run P w = .ok (.slice E) w := fun w => by simp [underlying, hT, go_sem]
    simp only [execOp, ha _ _ hx, ha _ _ hy, Instr.indexAt, asIntOf]
    simp [hu, hS, h0, h1, add_none, go_sem]) hk
theorem l_len {t x a m cap T E} (ht : Nat.ble (t + 1) n = true) (hT : P.underlying T = some (.slice E)) (hx : evO e x = some (.slice a m cap))
    (hk : GL P f w0 K n d ops rest k ((t, .int .i64 (m : Int)) :: e) F) : GL P f w0 K n d ops (.mk (some t) (.call ⟨.builtin .len, #[x], #[T]⟩) ty pos aft none :: rest) k e F :=
  l_val ht (fun ρ w ha hw => by
    have hu : ∀ w, (underlying T).run P w = .ok (.slice E) w := fun w => by simp [underlying, hT, go_sem]
    simp only [execOp, resolve, List.map_toArray, List.map_cons, List.map_nil, ha _ _ hx]
    simp [invoke, builtin, Builtin.len_, hu, goInt, go_sem]) hk
theorem l_lens {t x s T} (ht : Nat.ble (t + 1) n = true) (hT : P.underlying T = some .string) (hx : evO e x = some (.string s))
    (hk : GL P f w0 K n d ops rest k ((t, .int .i64 (s.size : Int)) :: e) F) : GL P f w0 K n d ops (.mk (some t) (.call ⟨.builtin .len, #[x], #[T]⟩) ty pos aft none :: rest) k e F :=
  l_val ht (fun ρ w ha hw => by
    have hu : ∀ w, (underlying T).run P w = .ok .string w := fun w => by simp [underlying, hT, go_sem]
    simp only [execOp, resolve, List.map_toArray, List.map_cons, List.map_nil, ha _ _ hx]
    simp [invoke, builtin, Builtin.len_, hu, goInt, go_sem]) hk
end ops
end Go.Proofs.Ytecibldbnekgbaa.Fw
