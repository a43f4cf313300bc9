import Derived.Test.YthemlddepepekaaFw24
import Derived.ArgAppend
namespace Go.Proofs.Ythemlddepepekaa.Fw
open Go
set_option linter.unusedVariables false
set_option linter.unusedSimpArgs false

/- A list that is taken from in front: nil, or somewhere in a block of the call's own. -/
def Que (E : Nat) (a : Option Addr) (n cap : Nat) (xs : List Value) : Atom where
  fp b := ∃ o, a = some ⟨b, o, none⟩
  ok h := xs.length = n ∧ ((a = none ∧ n = 0 ∧ cap = 0) ∨ ∃ g o, ∃ cur : List Value, a = some ⟨g, o, none⟩ ∧ h g = some (.cells cur.toArray E (0, 0)) ∧ n ≤ cap ∧ cap ≤ maxLen ∧ o + cap ≤ cur.length ∧ (cur.drop o).take n = xs)
  loc h h' hh ho := by
    refine ⟨ho.1, ?_⟩
    rcases ho.2 with hn | ⟨g, o, cur, rfl, hg, r⟩
    · exact .inl hn
    · exact .inr ⟨g, o, cur, rfl, (hh g ⟨o, rfl⟩).symm.trans hg, r⟩
theorem Que.of_own {w0 : World} {F : List Atom} {w : World} {E n cap : Nat} {a : Option Addr} {xs : List Value} (h : Holds w0 (Own E 1 (.slice a n cap) n xs :: F) w) : Holds w0 (Que E a n cap xs :: F) w := by
  refine h.as (fun ho => ?_) (fun b hb => ?_)
  · obtain ⟨h1, h2⟩ := ho
    rw [Nat.mul_one] at h1
    refine ⟨h1, ?_⟩
    rcases h2 with ⟨hv, hn⟩ | ⟨g, cap2, cur, hv, hg, h3, h4, h5, h6⟩
    · cases hv; exact .inl ⟨rfl, hn, rfl⟩
    · cases hv
      rw [Nat.mul_one] at h6 h5
      exact .inr ⟨g, 0, cur.toList, rfl, by simpa using hg, h3, h4, by simp [h5], by simpa using h6⟩
  · obtain ⟨o, rfl⟩ := hb; rfl
theorem RowAt.que {w0 : World} {F : List Atom} {E g o n cap : Nat} {xs : List Value} (hm : Que E (some ⟨g, o, none⟩) n cap xs ∈ F) : RowAt w0 F g o xs := fun w hw j u hu => by
  obtain ⟨h1, h2⟩ := hw.ok _ hm
  rcases h2 with ⟨h, _⟩ | ⟨g2, o2, cur, hv, hg, h3, h4, h5, h6⟩
  · cases h
  · cases hv
    rw [← h6, List.getElem?_take] at hu
    split at hu
    · rw [List.getElem?_drop] at hu
      exact cell_of_has hg hu
    · cases hu
theorem Que.cases {w0 : World} {F : List Atom} {E n cap : Nat} {a : Option Addr} {xs : List Value} (hm : Que E a n cap xs ∈ F) (w : World) (hw : Holds w0 F w) : n ≤ cap ∧ cap ≤ maxLen ∧ (n = 0 ∨ ∃ g o, a = some ⟨g, o, none⟩) := by
  obtain ⟨h1, h2⟩ := hw.ok _ hm
  rcases h2 with ⟨_, h, h3⟩ | ⟨g2, o2, cur, hv, hg, h3, h4, h5, h6⟩
  · exact ⟨by omega, by omega, .inl h⟩
  · exact ⟨h3, h4, .inr ⟨g2, o2, hv⟩⟩
theorem Que.drop {w0 : World} {F : List Atom} {w : World} {E g o o' n cap : Nat} {xs : List Value} (h : Holds w0 (Que E (some ⟨g, o, none⟩) n cap xs :: F) w) (h1 : 1 ≤ n) (ho : (1 : Int) < cap ∧ o' = o + (1 : Int).toNat * 1 ∨ (cap : Int) ≤ 1 ∧ o' = o) : Holds w0 (Que E (some ⟨g, o', none⟩) (n - 1) (cap - 1) (xs.drop 1) :: F) w := by
  refine h.as (fun hk => ?_) (fun b hb => ?_)
  · obtain ⟨h2, h3⟩ := hk
    refine ⟨by rw [List.length_drop, h2], ?_⟩
    rcases h3 with ⟨h, _⟩ | ⟨g2, o2, cur, hv, hg, h4, h5, h6, h7⟩
    · cases h
    · cases hv
      refine .inr ⟨g, o', cur, rfl, hg, by omega, by omega, by omega, ?_⟩
      rw [← h7]
      rcases ho with ⟨h8, h9⟩ | ⟨h8, h9⟩
      · rw [h9, List.drop_take, List.drop_drop]
        rfl
      · have : n = 1 := by omega
        subst this
        simp
  · obtain ⟨o3, h3⟩ := hb
    cases h3
    exact ⟨o, rfl⟩
theorem run_que_append {P : Program} {w0 w : World} {T E by_ n cap c : Nat} {ty : TypeId} {z u : Value} {inf : TypeInfo} {xs : List Value} {a : Option Addr} {ad : Addr} {F : List Atom}
    (hT : P.underlying T = some (.slice E)) (hi : P.info? E = some inf) (hz : inf.zero = some z) (hsz : inf.size = 1) (hby : inf.bytes = by_) (hzs : z.cells.size = 1)
    (h : Holds w0 (Que E a n cap xs :: F) w) (hnews : w.cell? (ad.add 0) = some u) (h1 : scalar u = true) (hb : (n + 1) * by_ ≤ 140737488355328) (h63 : n + 1 ≤ maxLen) :
    ∃ a' cap' w', (Builtin.append_ #[T, T] ty #[.slice a n cap, .slice (some ad) 1 c]).run P w = .ok (.slice a' (n + 1) cap') w' ∧ Holds w0 (Que E a' (n + 1) cap' (xs ++ [u]) :: F) w' ∧ ∃ g o, a' = some ⟨g, o, none⟩ := by
  have hk := h.ok _ (List.mem_cons_self ..)
  have hfp := h.lt _ (List.mem_cons_self ..)
  obtain ⟨hl, hk2⟩ := hk
  have hnews' : ∀ (j : Nat) v, [u][j]? = some v → w.cell? (ad.add j) = some v := fun j v hj => by
    cases j with
    | zero => simp at hj; subst hj; exact hnews
    | succ j => simp at hj
  have hone : ∀ v ∈ [u], v.oneCell' = true := fun v hv => by simp at hv; subst hv; exact oneCell_of h1
  have fresh : ∀ {v' : Value} {w' : World}, w'.ownsRow w.heap.size E 1 v' (n + 1) (xs ++ [u]) → w.grownBy w' none → ∃ a' cap', v' = .slice a' (n + 1) cap' ∧ Holds w0 (Que E a' (n + 1) cap' (xs ++ [u]) :: F) w' ∧ ∃ g o, a' = some ⟨g, o, none⟩ := by
    intro v' w' ho hg
    rcases ho.2 with ⟨_, h0⟩ | ⟨g, cap', cur, hv, hge, hgg, h3, h4, h5, h6⟩
    · omega
    · subst hv
      refine ⟨some ⟨g, 0, none⟩, cap', rfl, ?_, ⟨g, 0, rfl⟩⟩
      refine h.turn hg.os hg.tape hg.output hg.size (fun b hb' _ => hg.block b hb' (fun e => by cases e)) ?_ ?_ ?_
      · refine ⟨by simp [hl], .inr ⟨g, 0, cur.toList, rfl, (show w'.heap[g]? = some (.cells cur.toList.toArray E (0, 0)) by rw [hgg]), h3, h4, by simp at h5 ⊢; omega, ?_⟩⟩
        rw [Nat.mul_one] at h6
        simpa using h6
      · rintro b ⟨o, hb'⟩; cases hb'; exact .inr hge
      · rintro b ⟨o, hb'⟩
        cases hb'
        rcases Nat.lt_or_ge g w'.heap.size with h' | h'
        · exact h'
        · simp [Array.getElem?_eq_none h'] at hgg
  rcases hk2 with ⟨rfl, h0, hc0⟩ | ⟨g, o, cur, rfl, hg, h3, h4, h5, h6⟩
  · have hown : w.ownsRow 0 E 1 (.slice none n cap) n xs := by
      subst h0 hc0
      exact ⟨by simpa using hl, .inl ⟨rfl, rfl⟩⟩
    subst h0 hc0
    have hxs : xs = [] := List.eq_nil_of_length_eq_zero hl
    subst hxs
    have hr2 := run_append_nil (P := P) w T ty E inf z hT hi hz ad 1 c [u] (by simp [hsz]) hnews' (by omega) (by simp only [maxLen] at h63; omega) (by subst hby; omega)
    obtain ⟨v', w', hr, ho, hgr, hn⟩ := run_append_own (P := P) w w.heap.size T ty E inf z 1 by_ hT hi hz hsz hby hzs (by omega) (.slice none 0 0) 0 [] ⟨by simp, .inl ⟨rfl, rfl⟩⟩ ad 1 c [u] (by simp) hnews' hone h63 hb (Nat.le_refl _)
    obtain ⟨a', cap', rfl, h7, h8⟩ := fresh ho ⟨hgr.os, hgr.tape, hgr.output, hgr.size, fun b hb' _ => hgr.block b hb' (fun e => by simp [Value.ownBlock] at e)⟩
    exact ⟨a', cap', w', hr, h7, h8⟩
  · replace hg : w.heap[g]? = some (.cells cur.toArray E (0, 0)) := hg
    by_cases hroom : n + 1 ≤ cap
    · have hin : o + n < cur.length := by omega
      have hcell : w.cell? ⟨g, o + n * inf.size + 0, none⟩ = some cur[o + n] := cell_of_has hg (by rw [hsz]; simp [hin])
      have hr := run_append_room_cells (P := P) w T ty E inf hT hi g o n cap ad 1 c [u] (by simp [hsz]) hnews' hone hroom (fun j hj => by
        obtain rfl : j = 0 := by simp at hj; exact hj
        rw [hcell]; rfl) (fun j hj => by simp [World.frozen?, hg])
      refine ⟨_, _, _, hr, ?_, ⟨g, o, rfl⟩⟩
      have hw' : w.setCells g (o + n * inf.size) [u] = w.setCell ⟨g, o + n, none⟩ u := by rw [hsz, Nat.mul_one]; rfl
      rw [hw']
      have hb1 := heap_setCell w g (o + n) u _ E (0, 0) hg
      have hlt := hfp g ⟨o, rfl⟩
      refine h.turn rfl rfl rfl (by simp [World.setCell]) (fun b _ hb' => RowKit.Below.heap_setCell _ _ _ _ (fun e => hb' ⟨o, by subst e; rfl⟩)) ?_ (fun b hb' => .inl hb') (fun b hb' => by
        obtain ⟨o2, h2⟩ := hb'
        cases h2
        simpa [World.setCell] using hlt)
      refine ⟨by simp [hl], .inr ⟨g, o, cur.set (o + n) u, rfl, ?_, hroom, h4, by rw [List.length_set]; exact h5, ?_⟩⟩
      · have e : (cur.toArray.setIfInBounds (o + n) u) = (cur.set (o + n) u).toArray := by simp
        rw [← e]; exact hb1
      · apply List.ext_getElem?
        intro i
        rw [List.getElem?_take, List.getElem?_drop, List.getElem?_set, List.getElem?_append]
        have hi2 : ∀ i, i < n → xs[i]? = cur[o + i]? := fun i hi => by rw [← h6, List.getElem?_take, if_pos hi, List.getElem?_drop]
        rcases Nat.lt_trichotomy i n with hlt2 | rfl | hgt
        · rw [if_pos (by omega), if_neg (by omega), if_pos (by omega), hi2 i hlt2]
        · rw [if_pos (by omega), if_pos rfl, if_pos hin, if_neg (by omega), hl]; simp
        · rw [if_neg (by omega), if_neg (by omega)]
          have : ¬ i - xs.length < 1 := by omega
          simp; omega
    · have holds : ∀ (j : Nat) v, xs[j]? = some v → w.cell? ((⟨g, o, none⟩ : Addr).add j) = some v := fun j v hj => by
        rw [add_none]
        rw [← h6, List.getElem?_take] at hj
        split at hj
        · rw [List.getElem?_drop] at hj
          exact cell_of_has hg hj
        · cases hj
      obtain ⟨v', w', hr, ho, hgr⟩ := run_append_arg_grows (P := P) w T ty E inf z 1 by_ hT hi hz hsz hby hzs (by omega) ⟨g, o, none⟩ n cap xs (by rw [hl, Nat.mul_one]) holds ad 1 c [u] (by simp) hnews' (by omega) h63 hb
      obtain ⟨a', cap', rfl, h7, h8⟩ := fresh ho hgr
      exact ⟨a', cap', w', hr, h7, h8⟩
section
variable {P : Program} {f : Fr} {w0 : World} {K : Post} {n : Nat} {d : List Deferred} {ops : Array Oper} {rest : List Oper} {k : List Item} {e : Env} {F : List Atom}
variable {ty : TypeId} {pos : String} {aft : Array Edge}
theorem l_append_que {t x y T E by_ m cap inf z u v} {a : Option Addr} {xs : List Value} {F1 : Option Addr → Nat → List Atom} (i : Nat) (ht : Nat.ble (t + 1) n = true) (hT : P.underlying T = some (.slice E)) (hi : P.info? E = some inf) (hz : inf.zero = some z) (hsz : inf.size = 1) (hby : inf.bytes = by_) (hzs : z.cells.size = 1)
    (hx : evO e x = some (.slice a m cap)) (hy : evO e y = some v) (hF : getO F i = some (Que E a m cap xs)) (hu : Reads w0 F v 1 1 [u]) (h1 : scalar u = true) (hb : (m + 1) * by_ ≤ 140737488355328) (h63 : m + 1 ≤ maxLen)
    (hset : ∀ a' cap', setO F i (Que E a' (m + 1) cap' (xs ++ [u])) = some (F1 a' cap'))
    (hk : ∀ a' cap', (∃ g o, a' = some ⟨g, o, none⟩) → GL P f w0 K n d ops rest k ((t, .slice a' (m + 1) cap') :: e) (F1 a' cap')) :
    GL P f w0 K n d ops (.mk (some t) (.call ⟨.builtin .append, #[x, y], #[T, T]⟩) ty pos aft none :: rest) k e F :=
  l_eff ht fun ρ w ha hw => by
    have hargs : (#[x, y] : Array Operand).map ρ = [.slice a m cap, v].toArray := kn_args (xs := [x, y]) ha (by simp [evL, hx, hy])
    rcases hu.2 with ⟨b, o, cap2, rfl, hrow⟩ | ⟨_, h0⟩
    · obtain ⟨l', h1', _⟩ := perm_set (a' := Que E a m cap xs) (getO_eq hF)
      obtain ⟨a', cap', w', hr, hw', hn⟩ := run_que_append (P := P) (ty := ty) (c := cap2) (ad := ⟨b, o, none⟩) hT hi hz hsz hby hzs (hw.perm h1') (by rw [add_none]; exact hrow w hw 0 u rfl) h1 hb h63
      obtain ⟨l2, h2, h3⟩ := perm_set (a' := Que E a' (m + 1) cap' (xs ++ [u])) (getO_eq hF)
      have he := (setO_eq (hset a' cap')).2
      refine ⟨_, w', F1 a' cap', run_builtin ρ hargs (by simp only [builtin]; exact run_value hr), ?_, hk a' cap' hn⟩
      rw [he]
      exact (hw'.perm ((((h1'.symm.trans h2).cons_inv).cons _))).perm h3.symm
    · omega
theorem g_que_nil (E : Nat) (h : G P f w0 K n d k e (Que E none 0 0 [] :: F)) : G P f w0 K n d k e F := g_own_nil E 1 (g_heap (fun w hw => Que.of_own hw) h)
end
end Go.Proofs.Ythemlddepepekaa.Fw
