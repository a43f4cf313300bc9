import Derived.Test.YthngpcaljljlaaaRApart
namespace Go.Proofs.Ythngpcaljljlaaa.Fw
open Go Go.Proofs
set_option linter.unusedVariables false
set_option linter.unusedSimpArgs false
set_option maxRecDepth 10000

/- What the reference's Deliver lays, against clearP and layP. -/
theorem wd_port (T : List Int) (wd : Int) : wdV true true T 3 wd = portW T wd := by
  unfold wdV portW wdB
  rw [if_pos rfl, if_pos ⟨rfl, rfl⟩]
  rfl
theorem held_some {l T : List Int} {h : Nat} (hh : heldV l h = some T) : (T = [] ∧ AllZ l) ∨ (¬ AllZ l ∧ l.getD 0 0 = 1 ∧ (h = 3 → l.getD 1 0 ≤ 1) ∧ MsgC l h ∧ T = (l.drop h).take (msgN l h)) := by
  unfold heldV at hh
  split at hh
  · rename_i hz; injection hh with hh; exact .inl ⟨hh.symm, hz⟩
  · rename_i hz
    split at hh
    · rename_i hc; injection hh with hh; exact .inr ⟨hz, hc.1, hc.2.1, hc.2.2, hh.symm⟩
    · cases hh
theorem wd_clear {l T : List Int} {wd : Int} (hl : l.length = (3 + wd).toNat) (w1 : 1 ≤ wd) (hU : W32s l) (hh : heldV l 3 = some T) : wdV (decide (0 < T.length)) false T 3 wd = l.set 1 0 := by
  rcases held_some hh with ⟨rfl, hz⟩ | ⟨hz, h0, h1, hM, hT⟩
  · refine getD_ext (by rw [List.length_set, hl]; simp [wdV]) fun j hj => ?_
    rw [List.length_set] at hj
    rw [set_getD (by omega), hz j hj]
    simp only [wdV, List.length_nil, Nat.lt_irrefl, decide_false, Bool.false_eq_true, if_false, rep_getD, ite_self]
  · obtain ⟨m1, m2, m3⟩ := hM
    obtain ⟨m, hm⟩ := Int.eq_ofNat_of_zero_le (hU (3 - 1)).1
    have hm2 : l.getD (3 - 1) 0 = (m : Int) := hm
    have hmn : msgN l 3 = m := by unfold msgN; rw [hm2]; rfl
    rw [hmn] at m1 m2 hT
    have hTl : T.length = m := by rw [hT, List.length_take, List.length_drop]; omega
    have hq := (wd_eq (l := l) (T := T) (fr := decide (l.getD 1 0 = 1)) (h := 3) (m := m) (wd := wd) (.inr rfl) hl w1 hm2 m1 (by omega) hT (by simp) hU).2 ⟨h0, h1, by rw [hmn]; exact m1, by rw [hmn]; exact m2, by rw [hmn]; rw [hmn] at m3; exact m3⟩
    rw [decide_eq_true (show 0 < T.length by omega)]
    refine getD_ext (by rw [List.length_set, hl]; unfold wdV; rw [if_pos rfl, spl_length (by rw [wdB_len]; omega), wdB_len]; rfl) fun j hj => ?_
    rw [List.length_set] at hj
    have e := hq j hj
    rw [wdV_getD (.inr rfl) (by omega) w1] at e ⊢
    rw [set_getD (by omega)]
    by_cases hj1 : j = 1
    · subst hj1
      rw [if_neg (by omega), if_neg (by omega), if_neg (by simp), if_neg (by omega), if_pos rfl]
    · rw [if_neg (show ¬ 1 = j by omega), ← e]
      split
      · rfl
      · split
        · rfl
        · rw [if_neg (show ¬ ((3 : Nat) = 3 ∧ false = true ∧ j = 1) by simp), if_neg (show ¬ ((3 : Nat) = 3 ∧ decide (l.getD 1 0 = 1) = true ∧ j = 1) from fun h => hj1 h.2.2)]
theorem spl_part_set {W : List Int} {p k x : Int} (h0 : 0 ≤ p) (hk : 2 ≤ k) (hp : p + k ≤ W.length) : spl p.toNat ((part W p k).set 1 x) W = W.set (p + 1).toNat x := by
  have hl : (part W p k).length = k.toNat := by unfold part; simp only [List.length_take, List.length_drop]; omega
  refine getD_ext (by rw [spl_length (by rw [List.length_set, hl]; omega), List.length_set]) fun j hj => ?_
  rw [List.length_set] at hj
  rw [spl_getD (by rw [List.length_set, hl]; omega), List.length_set, hl]
  split
  · rename_i hc
    rw [set_getD (show 1 < (part W p k).length by rw [hl]; omega), set_getD (show (p + 1).toNat < W.length by omega), part_getD (by omega)]
    by_cases h : (p + 1).toNat = j
    · rw [if_pos (by omega), if_pos h]
    · rw [if_neg (by omega), if_neg h]
      congr 1; omega
  · rw [set_getD (show (p + 1).toNat < W.length by omega), if_neg (by omega)]
def layQ (W P : List Int) (Y : Nat → List Int) : Nat → List Int
  | 0 => W
  | k + 1 => spl (pAt P k).toNat (Y k) (layQ W P Y k)
theorem layQ_const (W P Y : List Int) : ∀ k, layQ W P (fun _ => Y) k = layP W P Y k
  | 0 => rfl
  | k + 1 => by simp only [layQ, layP, layQ_const W P Y k]
theorem clear_part {W P : List Int} {n q : Nat} {st wd : Int} (hW : W.length = n) (w1 : 1 ≤ wd) (hin : ∀ i, i < q → inR n (pAt P i) (3 + wd)) (hap : ApartP st wd P q) : ∀ k, k ≤ q → ∀ i, k ≤ i → i < q → part (clearP W P k) (pAt P i) (3 + wd) = part W (pAt P i) (3 + wd)
  | 0, _, i, _, _ => rfl
  | k + 1, hk, i, hi, hiq => by
    have h1 := hin k (by omega)
    have h2 := hin i hiq
    have h3 := (hap i hiq).2 k (by omega)
    unfold inR at h1 h2
    simp only [clearP]
    rw [part_set_out (by rw [clearP_len, hW]; omega) (by omega)]
    exact clear_part hW w1 hin hap k (by omega) i (by omega) hiq
/-- Each port's word 1 cleared, by laying all its words. -/
theorem lay_clear {W P : List Int} {n q : Nat} {st wd : Int} {Y : Nat → List Int} (hW : W.length = n) (w1 : 1 ≤ wd) (hin : ∀ i, i < q → inR n (pAt P i) (3 + wd)) (hap : ApartP st wd P q) (hY : ∀ i, i < q → Y i = (part W (pAt P i) (3 + wd)).set 1 0) : ∀ k, k ≤ q → layQ W P Y k = clearP W P k
  | 0, _ => rfl
  | k + 1, hk => by
    have ih := lay_clear hW w1 hin hap hY k (by omega)
    have h1 := hin k (by omega)
    unfold inR at h1
    simp only [layQ, clearP]
    rw [ih, hY k (by omega), ← clear_part hW w1 hin hap k (by omega) k (Nat.le_refl _) (by omega)]
    exact spl_part_set (by omega) (by omega) (by rw [clearP_len, hW]; omega)

/- The reference's Deliver: rows of what ports hold, and what is laid. -/
structure HV where
  th : Bool
  fr : Bool
  a : Option Addr
  q : Nat
  c : Nat
  T : List Int
def hvV (o : HV) : List Value := [.bool o.th, .bool o.fr, .slice o.a o.q o.c]
def hv0 : HV := ⟨false, false, none, 0, 0, []⟩
def hat (L : List HV) (i : Nat) : HV := L.getD i hv0
def hvR (L : List HV) : List Value := (L.map hvV).flatten
theorem hv_len (L : List HV) : ∀ r ∈ L.map hvV, r.length = 3 := by
  intro r hr
  obtain ⟨o, _, rfl⟩ := List.mem_map.1 hr
  rfl
theorem hv_at {L : List HV} {i : Nat} (h : i < L.length) : (L.map hvV)[i]? = some (hvV (hat L i)) := by simp [hat, h]
theorem hvR_len (L : List HV) : (hvR L).length = L.length * 3 := by
  have := flat_len (rows := L.map hvV) (sz := 3) (fun r hr => hv_len L r hr)
  simpa [hvR] using this
theorem hvR_get {L : List HV} {j q : Nat} (hj : j < L.length) (hq : q < 3) : (hvR L)[j * 3 + q]? = (hvV (hat L j))[q]? := flat_get (rows := L.map hvV) (fun r hr => hv_len L r hr) j q (hvV (hat L j)) (hv_at hj) hq
theorem hvR_set {L : List HV} {j : Nat} {x : HV} (hj : j < L.length) : spl (0 + j * 3) (hvV x) (hvR L) = hvR (L.set j x) := by
  apply List.ext_getElem?
  intro i
  rw [spl_get (by rw [hvR_len]; simp [hvV]; omega)]
  have hl : (hvV x).length = 3 := rfl
  rw [hl]
  have h1 : i / 3 * 3 + i % 3 = i := by omega
  by_cases hi : i / 3 < L.length
  · have hr : (hvR (L.set j x))[i]? = (hvV (hat (L.set j x) (i / 3)))[i % 3]? := by
      conv => lhs; rw [← h1]
      exact hvR_get (by simpa using hi) (by omega)
    rw [hr]
    by_cases hij : i / 3 = j
    · rw [if_pos (by omega)]
      have : hat (L.set j x) (i / 3) = x := by rw [hij]; simp [hat, hj]
      rw [this]
      congr 1; omega
    · rw [if_neg (by omega)]
      have : hat (L.set j x) (i / 3) = hat L (i / 3) := by simp [hat, List.getD_eq_getElem?_getD, List.getElem?_set, show ¬ j = i / 3 from fun e => hij e.symm]
      rw [this]
      conv => lhs; rw [← h1]
      exact hvR_get hi (by omega)
  · rw [if_neg (by omega), List.getElem?_eq_none (by rw [hvR_len]; omega), List.getElem?_eq_none (by rw [hvR_len]; simp; omega)]
theorem hvR_zero : ∀ n : Nat, repL n [Value.bool false, Value.bool false, Value.slice none 0 0] = hvR (List.replicate n hv0)
  | 0 => rfl
  | n + 1 => by
    have ih := hvR_zero n
    show [Value.bool false, Value.bool false, Value.slice none 0 0] ++ repL n _ = _
    rw [ih, List.replicate_succ]; rfl
theorem hat_set {L : List HV} {i j : Nat} {x : HV} (h : i < L.length) : hat (L.set i x) j = if j = i then x else hat L j := by
  unfold hat
  simp only [List.getD_eq_getElem?_getD, List.getElem?_set]
  by_cases e : i = j
  · subst e; simp [h]
  · simp [e, show ¬ j = i from fun x => e x.symm]
theorem hv_row {w0 : World} {F : List Atom} {g n cap E : Nat} {L : List HV} [h : OwnIn F g E 3 n cap (hvR L)] {j : Nat} (hj : j < L.length) : RowAt w0 F g (0 + j * 3) (hvV (hat L j)) :=
  row_elem (rows := L.map hvV) (.own h.mem) (hv_len L) (hv_at hj)
theorem RowAt.subl {w0 : World} {F F1 : List Atom} {b o : Nat} {l : List Value} (h : RowAt w0 F b o l) (hs : F.Sublist F1) : RowAt w0 F1 b o l := fun w hw => h w (hw.sub hs)
theorem IR.subl {w0 : World} {F F1 : List Atom} {kd a n W} (h : IR w0 F kd a n W) (hs : F.Sublist F1) : IR w0 F1 kd a n W := ⟨h.1, h.2.imp id fun ⟨b, o, h1, h2⟩ => ⟨b, o, h1, h2.subl hs⟩⟩
theorem wdB_u {fr : Bool} {q h : Nat} {wd : Int} (hq : (q : Int) ≤ wd) (w2 : wd ≤ 16) : W32s (wdB fr q h wd) := by
  have h0 : ∀ n, W32s (List.replicate n (0 : Int)) := fun n => W32s.of fun x hx => by rw [List.eq_of_mem_replicate hx]; decide
  have hs : ∀ {X : List Int} {i : Nat} {x : Int}, W32s X → 0 ≤ x ∧ x ≤ 4294967295 → W32s (X.set i x) := by
    intro X i x hX hx j
    by_cases hi : i < X.length
    · rw [set_getD hi]; split
      · exact hx
      · exact hX j
    · rw [List.set_eq_of_length_le (by omega)]; exact hX j
  unfold wdB
  split
  · exact hs (hs (hs (h0 _) (by decide)) (by decide)) (by omega)
  · exact hs (hs (h0 _) (by decide)) (by omega)
theorem wdV_u {th fr : Bool} {T : List Int} {h : Nat} {wd : Int} (hT : W32s T) (w1 : 1 ≤ wd) (hq : (T.length : Int) ≤ wd) (w2 : wd ≤ 16) : W32s (wdV th fr T h wd) := by
  unfold wdV
  split
  · exact spl_u32 (by rw [wdB_len]; omega) hT (wdB_u hq w2)
  · exact W32s.of fun x hx => by rw [List.eq_of_mem_replicate hx]; decide
theorem wdV_len {th fr : Bool} {T : List Int} {h : Nat} {wd : Int} (w1 : 1 ≤ wd) (hq : (T.length : Int) ≤ wd) : (wdV th fr T h wd).length = ((h : Int) + wd).toNat := by
  unfold wdV
  split
  · rw [spl_length (by rw [wdB_len]; omega), wdB_len]
  · simp
def layY (t : Bool) (T : List Int) (o : HV) (wd : Int) : List Int := if t = true then wdV true true T 3 wd else wdV o.th false o.T 3 wd
theorem layQ_len {W P : List Int} {n : Nat} {Y : Nat → List Int} (hW : W.length = n) : ∀ k, (∀ i, i < k → (pAt P i).toNat + (Y i).length ≤ n) → (layQ W P Y k).length = n
  | 0, _ => hW
  | k + 1, h => by
    have ih := layQ_len (P := P) (Y := Y) hW k fun i hi => h i (by omega)
    have := h k (by omega)
    simp only [layQ]
    rw [spl_length (by omega)]; exact ih
theorem spl_same {W Z : List Int} {p k : Int} (hp : p.toNat + k.toNat ≤ W.length) (hZ : part W p k = Z) : spl p.toNat Z W = W := by
  have hl : Z.length = k.toNat := by rw [← hZ]; unfold part; rw [List.length_take, List.length_drop]; omega
  refine getD_ext (spl_length (by omega)) fun j hj => ?_
  rw [spl_getD (by omega)]
  split
  · rename_i h
    rw [← hZ, part_getD (by omega)]; congr 1; omega
  · rfl
theorem clear_stage {W P : List Int} {n q : Nat} {st wd : Int} (hW : W.length = n) (w1 : 1 ≤ wd) (hst : inR n st (2 + wd)) (hin : ∀ i, i < q → inR n (pAt P i) (3 + wd)) (hap : ApartP st wd P q) : ∀ k, k ≤ q → part (clearP W P k) st (2 + wd) = part W st (2 + wd)
  | 0, _ => rfl
  | k + 1, hk => by
    have h1 := hin k (by omega)
    have h3 := (hap k (by omega)).1
    unfold inR at h1 hst
    simp only [clearP]
    rw [part_set_out (by rw [clearP_len, hW]; omega) (by omega)]
    exact clear_stage hW w1 (by unfold inR; omega) hin hap k (by omega)
theorem allz_rep {l : List Int} {m : Nat} (hl : l.length = m) (h : AllZ l) : l = List.replicate m 0 := by
  refine getD_ext (by rw [hl]; simp) fun j hj => ?_
  rw [rep_getD, h j (by simp at hj; omega)]
theorem held_nil {l : List Int} {h : Nat} (hh : heldV l h = some []) : AllZ l := by
  unfold heldV at hh
  split at hh
  · rename_i hz; exact hz
  · split at hh
    · rename_i hc
      injection hh with hh
      have := congrArg List.length hh
      rw [List.length_take, List.length_drop] at this
      have h1 := hc.2.2.1
      have h2 := hc.2.2.2.1
      simp at this
      omega
    · cases hh
theorem del_191 {W P : List Int} {n q : Nat} {st wd : Int} (h : Rdy0 n st wd P q) (hb : heldV (part W st (2 + wd)) 2 = none ∨ ¬ ApartP st wd P q ∨ ∃ i, i < q ∧ heldV (part W (pAt P i) (3 + wd)) 3 = none) : DelG W n st wd P q W 191 := by
  refine .inl ⟨by decide, rfl, ?_⟩
  by_cases h1 : ApartP st wd P q ∧ ∀ i, i < q → ∃ T, heldV (part W (pAt P i) (3 + wd)) 3 = some T
  · refine .inr ⟨.inr (.inr (.inr ⟨rfl, h, h1⟩)), rfl, ?_⟩
    rcases hb with hb | hb | ⟨i, hi, hb⟩
    · exact hb
    · exact absurd h1.1 hb
    · obtain ⟨T, hT⟩ := h1.2 i hi
      rw [hT] at hb; cases hb
  · refine .inl (.inr (.inr (.inl ⟨rfl, h, ?_⟩)))
    by_cases ha : ApartP st wd P q
    · refine .inr (Classical.byContradiction fun hn => h1 ⟨ha, fun i hi => ?_⟩)
      rcases hh : heldV (part W (pAt P i) (3 + wd)) 3 with _ | T
      · exact absurd ⟨i, hi, hh⟩ hn
      · exact ⟨T, rfl⟩
    · exact .inl ha
theorem del_1 {W P : List Int} {n q : Nat} {st wd : Int} (h : ¬ CntOk wd q) : DelG W n st wd P q W 1 := .inl ⟨by decide, rfl, .inl (.inl ⟨rfl, h⟩)⟩
theorem del_51 {W P : List Int} {n q : Nat} {st wd : Int} (h : CntOk wd q) (hb : ¬ inR n st (2 + wd) ∨ ∃ i, i < q ∧ ¬ inR n (pAt P i) (3 + wd)) : DelG W n st wd P q W 51 := .inl ⟨by decide, rfl, .inl (.inr (.inl ⟨rfl, h, hb⟩))⟩
def HatOk (W P : List Int) (wd : Int) (L : List HV) (q : Nat) : Prop := ∀ i, i < q → heldV (part W (pAt P i) (3 + wd)) 3 = some (hat L i).T ∧ (hat L i).th = decide (0 < (hat L i).T.length)
theorem del_ok {W P T : List Int} {n q : Nat} {st wd : Int} {L : List HV} (hW : W.length = n) (hU : W32s W) (h : Rdy0 n st wd P q) (hap : ApartP st wd P q) (hL : HatOk W P wd L q) (hT : heldV (part W st (2 + wd)) 2 = some T) (t : Bool) (ht : t = decide (0 < T.length)) : DelG W n st wd P q (spl st.toNat (List.replicate (2 + wd).toNat 0) (layQ W P (fun i => layY t T (hat L i) wd) q)) 0 := by
  obtain ⟨⟨⟨w1, w2⟩, q1, q2⟩, hst, hin⟩ := id h
  refine .inr ⟨rfl, .inr (.inr (.inr ⟨rfl, h, hap, fun i hi => ⟨_, (hL i hi).1⟩⟩)), ?_⟩
  by_cases h0 : 0 < T.length
  · refine .inr ⟨T, hT, h0, ?_⟩
    have : (fun i => layY t T (hat L i) wd) = fun _ => portW T wd := by
      funext i
      unfold layY
      rw [ht, decide_eq_true h0, if_pos rfl, wd_port]
    rw [this, layQ_const]
  · have hT0 : T = [] := List.length_eq_zero_iff.1 (by omega)
    subst hT0
    refine .inl ⟨hT, ?_⟩
    have hc := lay_clear (W := W) (P := P) (Y := fun i => layY t [] (hat L i) wd) hW w1 hin hap (fun i hi => by
      show layY t [] (hat L i) wd = _
      unfold layY
      rw [ht, decide_eq_false h0, if_neg (by simp), (hL i hi).2]
      exact wd_clear (part_len hW (hin i hi)) w1 (hU.part _ _) (hL i hi).1) q (Nat.le_refl _)
    rw [hc]
    have hst2 := hst
    unfold inR at hst2
    refine spl_same (k := 2 + wd) (by rw [clearP_len, hW]; omega) ?_
    rw [clear_stage hW w1 hst hin hap q (Nat.le_refl _)]
    exact allz_rep (part_len hW hst) (held_nil hT)

end Go.Proofs.Ythngpcaljljlaaa.Fw
