import Derived.Test.YtecibldbnekgbaaFw17
namespace Go.Proofs.Ytecibldbnekgbaa.Fw
open Go
set_option linter.unusedVariables false
set_option linter.unusedSimpArgs false

/- Slices that may share memory: each reads as a beginning of one list. -/
def Fam (E sz : Nat) (Z : List Value) (vs : List (Value × Nat)) : Atom where
  fp b := ∃ p ∈ vs, p.1.ownBlock = some b
  ok h := ∀ p ∈ vs, p.2 * sz ≤ Z.length ∧ ((p.1 = .slice none 0 0 ∧ p.2 = 0) ∨ ∃ g cap, ∃ cur : List Value, p.1 = .slice (some ⟨g, 0, none⟩) p.2 cap ∧ h g = some (.cells cur.toArray E (0, 0)) ∧ p.2 ≤ cap ∧ cap ≤ maxLen ∧ cur.length = cap * sz ∧ ∀ i, i < p.2 * sz → cur[i]? = Z[i]?)
  loc h h' hh ho := by
    intro p hp
    obtain ⟨h1, h2⟩ := ho p hp
    refine ⟨h1, ?_⟩
    rcases h2 with h2 | ⟨g, cap, cur, hv, hg, r⟩
    · exact .inl h2
    · exact .inr ⟨g, cap, cur, hv, by rw [← hh g ⟨p, hp, by rw [hv]; rfl⟩]; exact hg, r⟩
theorem Fam.of_own {w0 : World} {F : List Atom} {w : World} {E sz : Nat} {v : Value} {n : Nat} {xs : List Value} (h : Holds w0 (Own E sz v n xs :: F) w) (Z : List Value) (hZ : ∀ i, i < n * sz → xs[i]? = Z[i]?) (hl : n * sz ≤ Z.length) : Holds w0 (Fam E sz Z [(v, n)] :: F) w := by
  refine h.as (fun ho => ?_) (fun b hb => ?_)
  · intro p hp
    simp only [List.mem_singleton] at hp
    subst hp
    refine ⟨hl, ?_⟩
    rcases ho.2 with hn | ⟨g, cap, cur, hv, hg, h1, h2, h3, h4⟩
    · exact .inl hn
    · refine .inr ⟨g, cap, cur.toList, hv, by simpa using hg, h1, h2, by simpa using h3, fun i hi => ?_⟩
      rw [← hZ i hi, ← h4, List.getElem?_take, if_pos hi]
  · obtain ⟨p, hp, hb⟩ := hb
    simp only [List.mem_singleton] at hp
    subst hp
    exact hb
theorem Fam.to_own {w0 : World} {F : List Atom} {w : World} {E sz : Nat} {Z : List Value} {vs : List (Value × Nat)} (h : Holds w0 (Fam E sz Z vs :: F) w) {v : Value} {n : Nat} (hm : (v, n) ∈ vs) : Holds w0 (Own E sz v n (Z.take (n * sz)) :: F) w := by
  refine h.as (fun ho => ?_) (fun b hb => ⟨_, hm, hb⟩)
  obtain ⟨h1, h2⟩ := ho _ hm
  refine ⟨by rw [List.length_take]; exact Nat.min_eq_left h1, ?_⟩
  rcases h2 with h2 | ⟨g, cap, cur, hv, hg, h3, h4, h5, h6⟩
  · exact .inl h2
  · refine .inr ⟨g, cap, cur.toArray, hv, hg, h3, h4, by simpa using h5, ?_⟩
    apply List.ext_getElem?
    intro i
    rw [List.getElem?_take, List.getElem?_take]
    split
    · exact h6 i (by assumption)
    · rfl
/-- What a member is: nil, or in a block. -/
theorem Fam.cases {w0 : World} {F : List Atom} {E sz : Nat} {Z : List Value} {vs : List (Value × Nat)} (hF : Fam E sz Z vs ∈ F) {v : Value} {n : Nat} (hm : (v, n) ∈ vs) (w : World) (h : Holds w0 F w) : n * sz ≤ Z.length ∧ n ≤ maxLen ∧ ((v = .slice none 0 0 ∧ n = 0) ∨ ∃ g cap, v = .slice (some ⟨g, 0, none⟩) n cap ∧ n ≤ cap) := by
  obtain ⟨h1, h2⟩ := h.ok _ hF _ hm
  rcases h2 with h2 | ⟨g, cap, cur, hv, hg, h3, h4, h5, h6⟩
  · exact ⟨h1, by have := h2.2; simp only at this; rw [this]; exact Nat.zero_le _, .inl h2⟩
  · exact ⟨h1, Nat.le_trans h3 h4, .inr ⟨g, cap, hv, h3⟩⟩
theorem Fam.row {w0 : World} {F : List Atom} {E sz : Nat} {Z : List Value} {vs : List (Value × Nat)} (hF : Fam E sz Z vs ∈ F) {g n cap : Nat} (hm : (Value.slice (some ⟨g, 0, none⟩) n cap, n) ∈ vs) : RowAt w0 F g 0 (Z.take (n * sz)) := fun w h j u hu => by
  obtain ⟨h1, h2⟩ := h.ok _ hF _ hm
  rcases h2 with h2 | ⟨g', cap', cur, hv, hg, h3, h4, h5, h6⟩
  · cases h2.1
  · cases hv
    rw [List.getElem?_take] at hu
    split at hu
    · rename_i hj
      rw [Nat.zero_add]
      exact cell_of_has hg ((h6 j hj).trans hu)
    · cases hu
theorem Fam.mono {w0 : World} {F : List Atom} {w : World} {E sz : Nat} {Z : List Value} {vs vs' : List (Value × Nat)} (h : Holds w0 (Fam E sz Z vs :: F) w) (hs : ∀ p ∈ vs', p ∈ vs) : Holds w0 (Fam E sz Z vs' :: F) w :=
  h.as (fun ho p hp => ho p (hs p hp)) (fun b ⟨p, hp, hb⟩ => ⟨p, hs p hp, hb⟩)
/-- An append onto a member: a member more. -/
theorem run_fam_append {P : Program} {w0 w : World} {T E sz by_ n m c : Nat} {ty : TypeId} {v z : Value} {inf : TypeInfo} {Z news : List Value} {vs : List (Value × Nat)} {a : Addr} {F : List Atom}
    (hT : P.underlying T = some (.slice E)) (hi : P.info? E = some inf) (hz : inf.zero = some z) (hsz : inf.size = sz) (hby : inf.bytes = by_) (hzs : z.cells.size = sz) (hpos : 0 < sz)
    (h : Holds w0 (Fam E sz Z vs :: F) w) (hm : (v, n) ∈ vs) (hl : news.length = m * sz) (hm0 : 0 < m) (hnews : ∀ (j : Nat) u, news[j]? = some u → w.cell? (a.add j) = some u) (h1 : news.all scalar = true)
    (hZ : ∀ j, j < news.length → news[j]? = Z[n * sz + j]?) (hZl : (n + m) * sz ≤ Z.length) (hb : (n + m) * by_ ≤ 140737488355328) (h63 : n + m ≤ maxLen) :
    ∃ v' w', (Builtin.append_ #[T, T] ty #[v, .slice (some a) m c]).run P w = .ok v' w' ∧ Holds w0 (Fam E sz Z ((v', n + m) :: vs) :: F) w' := by
  subst hsz hby
  have h1' : ∀ u ∈ news, u.oneCell' = true := fun u hu => oneCell_of (List.all_eq_true.1 h1 u hu)
  have hown := Own.owns ((Fam.to_own h hm).ok _ (List.mem_cons_self ..))
  obtain ⟨v', w', hr, ho, hg, hn⟩ := run_append_own (P := P) w 0 T ty E inf z inf.size inf.bytes hT hi hz rfl rfl hzs hpos v n _ hown a m c news hl hnews h1' h63 hb (Nat.zero_le _)
  refine ⟨v', w', hr, ?_⟩
  have hvs := h.ok _ (List.mem_cons_self ..)
  have hfp := h.lt _ (List.mem_cons_self ..)
  have hnl : n * inf.size + news.length = (n + m) * inf.size := by rw [hl, Nat.add_mul]
  -- the new member
  have hnew : ∀ {g cap : Nat} {cur : Array Value}, v' = .slice (some ⟨g, 0, none⟩) (n + m) cap → w'.heap[g]? = some (.cells cur E (0, 0)) → ∀ i, i < (n + m) * inf.size → cur.toList[i]? = Z[i]? := by
    intro g cap cur hv' hg' i hi'
    rcases ho.2 with ⟨hv2, _⟩ | ⟨g2, cap2, cur2, hv2, _, hg2, _, _, _, h4⟩
    · rw [hv'] at hv2; cases hv2
    · rw [hv'] at hv2; cases hv2
      rw [hg2] at hg'
      have hcc : cur2 = cur := by
        injection hg' with hg'
        injection hg'
      subst hcc
      have : (cur2.toList.take ((n + m) * inf.size))[i]? = (Z.take (n * inf.size) ++ news)[i]? := by rw [h4]
      rw [List.getElem?_take, if_pos hi'] at this
      rw [this]
      rw [List.getElem?_append]
      have hzl : (Z.take (n * inf.size)).length = n * inf.size := by rw [List.length_take]; exact Nat.min_eq_left (hvs _ hm).1
      split
      · rw [List.getElem?_take, if_pos (by omega)]
      · rw [hzl] at *
        rw [hZ _ (by omega)]
        congr 1; omega
  have hmem : (v', n + m) ∈ ((v', n + m) :: vs) := List.mem_cons_self ..
  -- where nothing old is changed
  have fresh : w.heap.size < w'.heap.size → v'.ownBlock = some w.heap.size → (∀ b, b < w.heap.size → w'.heap[b]? = w.heap[b]?) → Holds w0 (Fam E inf.size Z ((v', n + m) :: vs) :: F) w' := by
    intro hlt hv' hold
    refine h.turn hg.os hg.tape hg.output hg.size (fun b hb' _ => hold b hb') ?_ ?_ ?_
    · intro p hp
      rcases List.mem_cons.1 hp with rfl | hp
      · refine ⟨hZl, ?_⟩
        rcases ho.2 with hx | ⟨g2, cap2, cur2, hv2, _, hg2, h3, h4, h5, h6⟩
        · exact .inl hx
        · exact (.inr ⟨g2, cap2, cur2.toList, hv2, (show w'.heap[g2]? = some (.cells cur2.toList.toArray E (0, 0)) by rw [hg2]), h3, h4, by simpa using h5, hnew hv2 hg2⟩)
      · obtain ⟨hp1, hp2⟩ := hvs p hp
        refine ⟨hp1, ?_⟩
        rcases hp2 with hp2 | ⟨g2, cap2, cur2, hv2, hg2, r⟩
        · exact .inl hp2
        · refine .inr ⟨g2, cap2, cur2, hv2, ?_, r⟩
          have := hfp g2 ⟨p, hp, by rw [hv2]; rfl⟩
          exact (hold g2 this).trans hg2
    · rintro b ⟨p, hp, hb'⟩
      rcases List.mem_cons.1 hp with rfl | hp
      · right
        rw [hv'] at hb'
        injection hb' with hb'
        omega
      · exact .inl ⟨p, hp, hb'⟩
    · rintro b ⟨p, hp, hb'⟩
      rcases List.mem_cons.1 hp with rfl | hp
      · rw [hv'] at hb'
        injection hb' with hb'
        omega
      · have := hfp b ⟨p, hp, hb'⟩
        omega
  rcases (hvs _ hm).2 with ⟨hv0, hn0⟩ | ⟨g, cap, cur, hv0, hgg, hnc, hcm, hcs, hcz⟩
  · simp only at hv0 hn0
    subst hv0 hn0
    have hr2 := run_append_nil (P := P) w T ty E inf z hT hi hz a m c news hl hnews hm0 (by simp only [maxLen] at h63; omega) (by simp only [Nat.zero_add] at hb; omega)
    rw [hr2] at hr
    injection hr with hv hw
    subst hv hw
    refine fresh (by simp) rfl (fun b hb' => ?_)
    simp only [World.alloc, heap_drew, Array.getElem?_push]
    rw [if_neg (by omega)]
  · simp only at hv0 hnc hcz
    subst hv0
    by_cases hroom : n + m ≤ cap
    · have hfit : n * inf.size + news.length ≤ cur.toArray.size := by rw [hnl]; simp only [List.size_toArray, hcs]; exact Nat.mul_le_mul_right _ hroom
      have hr2 := run_append_room (P := P) w T ty E inf hT hi g n cap cur.toArray hgg a m c news hl hnews h1' hroom hfit
      rw [hr2] at hr
      injection hr with hv hw
      subst hv hw
      obtain ⟨cur', hcur'⟩ : ∃ cur', cur.take (n * inf.size) ++ news ++ cur.drop (n * inf.size + news.length) = cur' := ⟨_, rfl⟩
      have hsame : (w.setRow g (cur.toArray.toList.take (n * inf.size) ++ news ++ cur.toArray.toList.drop (n * inf.size + news.length)).toArray).heap[g]? = some (.cells cur'.toArray E (0, 0)) := by
        rw [setRow_heap w g _ _ E (0, 0) hgg]
        simp [← hcur']
      have hlen' : cur'.length = cap * inf.size := by
        rw [← hcur']
        simp only [List.size_toArray] at hfit
        simp only [List.length_append, List.length_take, List.length_drop]
        omega
      have hget : ∀ i, cur'[i]? = if i < n * inf.size then cur[i]? else if i < n * inf.size + news.length then news[i - n * inf.size]? else cur[i]? := by
        intro i
        simp only [List.size_toArray] at hfit
        rw [← hcur', List.getElem?_append, List.getElem?_append]
        simp only [List.length_append, List.length_take, List.getElem?_take, List.getElem?_drop]
        rw [Nat.min_eq_left (show n * inf.size ≤ cur.length by omega)]
        repeat' split
        all_goals first | rfl | omega | (congr 1; omega)
      refine h.turn hg.os hg.tape hg.output hg.size (fun b _ hb' => ?_) ?_ ?_ ?_
      · exact setRow_other w g b _ (fun e => hb' ⟨_, hm, by subst e; rfl⟩)
      · intro p hp
        rcases List.mem_cons.1 hp with rfl | hp
        · refine ⟨hZl, .inr ⟨g, cap, cur', rfl, hsame, hroom, hcm, hlen', ?_⟩⟩
          intro i hi'
          have := hnew (cap := cap) rfl hsame i hi'
          simpa using this
        · obtain ⟨hp1, hp2⟩ := hvs p hp
          refine ⟨hp1, ?_⟩
          rcases hp2 with hp2 | ⟨g2, cap2, cur2, hv2, hg2, h3, h4, h5, h6⟩
          · exact .inl hp2
          · by_cases hgg2 : g2 = g
            · subst hgg2
              rw [hgg] at hg2
              have hcc : cur2 = cur := by
                injection hg2 with hg2
                injection hg2 with hg2 _ _
                have := congrArg Array.toList hg2
                simpa using this.symm
              subst hcc
              refine .inr ⟨g2, cap2, cur', hv2, hsame, h3, h4, by rw [hlen', ← h5, hcs], fun i hi' => ?_⟩
              rw [hget]
              split
              · exact h6 i hi'
              · split
                · rw [hZ _ (by omega)]
                  congr 1; omega
                · exact h6 i hi'
            · exact .inr ⟨g2, cap2, cur2, hv2, (setRow_other w g g2 _ hgg2).trans hg2, h3, h4, h5, h6⟩
      · rintro b ⟨p, hp, hb'⟩
        rcases List.mem_cons.1 hp with rfl | hp
        · exact .inl ⟨_, hm, hb'⟩
        · exact .inl ⟨p, hp, hb'⟩
      · rintro b ⟨p, hp, hb'⟩
        rw [size_setRow]
        rcases List.mem_cons.1 hp with rfl | hp
        · exact hfp b ⟨_, hm, hb'⟩
        · exact hfp b ⟨p, hp, hb'⟩
    · have hxs : (Z.take (n * inf.size)).length = n * inf.size := hown.1
      have holds : ∀ (j : Nat) u, (Z.take (n * inf.size))[j]? = some u → w.cell? ((⟨g, 0, none⟩ : Addr).add j) = some u := hown.cells (g := g) rfl
      have hr2 := run_append_grow (P := P) w T ty E inf z hT hi hz ⟨g, 0, none⟩ n cap _ hxs holds a m c news hl hnews (by omega) (by simp only [maxLen] at h63; omega) (growslice_fits (by omega) hb)
      rw [hr2] at hr
      injection hr with hv hw
      subst hv hw
      refine fresh (by simp) rfl (fun b hb' => ?_)
      simp only [World.alloc, heap_drew, Array.getElem?_push]
      rw [if_neg (by omega)]
section
variable {P : Program} {f : FuncId} {w0 : World} {K : Post} {n : Nat} {d : List Deferred} {ops : Array Oper} {rest : List Oper} {k : List Item} {e : Env} {F : List Atom}
variable {ty : TypeId} {pos : String} {aft : Array Edge}
theorem l_append_fam {t x y T E sz by_ m m2 inf z v u} {Z news : List Value} {vs : List (Value × Nat)} {F1 : Value → List Atom} (i : Nat) (ht : Nat.ble (t + 1) n = true) (hT : P.underlying T = some (.slice E)) (hi : P.info? E = some inf) (hz : inf.zero = some z) (hsz : inf.size = sz) (hby : inf.bytes = by_) (hzs : z.cells.size = sz) (hpos : Nat.blt 0 sz = true)
    (hx : evO e x = some v) (hy : evO e y = some u) (hF : getO F i = some (Fam E sz Z vs)) (hm : (v, m) ∈ vs) (hu : Reads w0 F u m2 sz news) (hm2 : 0 < m2) (h1 : news.all scalar = true) (hZ : ∀ j, j < news.length → news[j]? = Z[m * sz + j]?) (hZl : (m + m2) * sz ≤ Z.length) (hb : (m + m2) * by_ ≤ 140737488355328) (h63 : m + m2 ≤ maxLen)
    (hset : ∀ v', setO F i (Fam E sz Z ((v', m + m2) :: vs)) = some (F1 v'))
    (hk : ∀ v', GL P f w0 K n d ops rest k ((t, v') :: e) (F1 v')) :
    GL P f w0 K n d ops (.mk (some t) (.call ⟨.builtin .append, #[x, y], #[T, T]⟩) ty pos aft none :: rest) k e F :=
  l_eff ht fun ρ w ha hw => by
    have hpos' : 0 < sz := Nat.le_of_ble_eq_true hpos
    have hargs : (#[x, y] : Array Operand).map ρ = [v, u].toArray := kn_args (xs := [x, y]) ha (by simp [evL, hx, hy])
    rcases hu.2 with ⟨b, o, cap, rfl, hrow⟩ | ⟨rfl, h0⟩
    · obtain ⟨l', h1', _⟩ := perm_set (a' := Fam E sz Z vs) (getO_eq hF)
      obtain ⟨v', w', hr, hw'⟩ := run_fam_append (P := P) (ty := ty) (c := cap) (a := ⟨b, o, none⟩) hT hi hz hsz hby hzs hpos' (hw.perm h1') hm hu.1 hm2 (fun j u hj => by rw [add_none]; exact hrow w hw j u hj) h1 hZ hZl hb h63
      obtain ⟨l2, h2, h3⟩ := perm_set (a' := Fam E sz Z ((v', m + m2) :: vs)) (getO_eq hF)
      have he := (setO_eq (hset v')).2
      refine ⟨v', w', F1 v', run_builtin ρ hargs (by simp only [builtin]; exact run_value hr), ?_, hk v'⟩
      rw [he]
      exact (hw'.perm ((((h1'.symm.trans h2).cons_inv).cons _))).perm h3.symm
    · omega
theorem l_fam {E sz v m xs} (Z : List Value) (hZ : ∀ i, i < m * sz → xs[i]? = Z[i]?) (hl : m * sz ≤ Z.length) (hk : GL P f w0 K n d ops rest k e (Fam E sz Z [(v, m)] :: F)) : GL P f w0 K n d ops rest k e (Own E sz v m xs :: F) := gl_heap (fun w hw => Fam.of_own hw Z hZ hl) hk
theorem g_fam {E sz v m xs} (Z : List Value) (hZ : ∀ i, i < m * sz → xs[i]? = Z[i]?) (hl : m * sz ≤ Z.length) (hk : G P f w0 K n d k e (Fam E sz Z [(v, m)] :: F)) : G P f w0 K n d k e (Own E sz v m xs :: F) := g_heap (fun w hw => Fam.of_own hw Z hZ hl) hk
theorem g_unfam {E sz v m vs} {Z : List Value} (hm : (v, m) ∈ vs) (hk : G P f w0 K n d k e (Own E sz v m (Z.take (m * sz)) :: F)) : G P f w0 K n d k e (Fam E sz Z vs :: F) := g_heap (fun w hw => Fam.to_own hw hm) hk
theorem g_famsub {E sz vs vs'} {Z : List Value} (hs : ∀ p ∈ vs', p ∈ vs) (hk : G P f w0 K n d k e (Fam E sz Z vs' :: F)) : G P f w0 K n d k e (Fam E sz Z vs :: F) := g_heap (fun w hw => Fam.mono hw hs) hk
end
end Go.Proofs.Ytecibldbnekgbaa.Fw
