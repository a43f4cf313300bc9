import Derived.Test.YtecibldbnekgbaaFw13
namespace Go.Proofs.Ytecibldbnekgbaa.Fw
open Go
set_option linter.unusedVariables false
set_option linter.unusedSimpArgs false

/- New rows, and rows that grow, in any order. -/
section
variable {P : Program} {f : FuncId} {w0 : World} {K : Post} {n : Nat} {d : List Deferred} {ops : Array Oper} {rest : List Oper} {k : List Item} {e : Env} {F : List Atom}
variable {ty : TypeId} {pos : String} {aft : Array Edge}
theorem does_buildSlice {t T E sz len z} {zl : List Value} {parts : List (Nat × Operand)} {ps : List (Nat × Value)} {c : List Value} (hT : P.underlying T = some (.slice E)) (hS : ∀ w, (sizeOf E).run P w = .ok sz w) (hz : ∀ w, (zeroValue E).run P w = .ok z w)
    (hzl : cellsO z = some zl) (hzn : zl.length = sz) (hpos : Nat.ble 1 sz = true) (hsmall : Nat.ble (len * sz) 16777216 = true) (hp : evP e parts = some ps) (hc : fillO sz (repL len zl) ps = some c) :
    Does P w0 (.mk (some t) (.buildSlice T len parts.toArray) ty pos aft none) e F (fun v F2 => ∃ b, v = .slice (some ⟨b, 0, none⟩) len len ∧ F2 = Own E sz (.slice (some ⟨b, 0, none⟩) len len) len c :: F) := by
  intro ρ w ha hw
  have hle := Nat.le_of_ble_eq_true hsmall
  have hp1 := Nat.le_of_ble_eq_true hpos
  have hlen : c.length = len * sz := by rw [fillO_len hc, repL_length, hzn]
  have hr := run_buildSlice (w := w) hT hS hz hzl hzn (by omega) hc
  have hw2 := (hw.new (.cells c.toArray E (0, 0))).blk_own (sz := sz) (m := len) (cap := len) hlen (Nat.le_refl _) (by
    have : len * 1 ≤ len * sz := Nat.mul_le_mul_left _ hp1
    simp only [maxLen]; omega)
  rw [List.take_of_length_le (by omega)] at hw2
  refine .inl ⟨_, _, _, .inl ?_, hw2, _, rfl, rfl⟩
  simp only [execOp, kn_parts ha hp]
  exact run_value hr
theorem does_append {t x y T E sz by_ m m2 inf z v u} {F1 : Value → List Atom} {xs news : List Value} (i : Nat) (hT : P.underlying T = some (.slice E)) (hi : P.info? E = some inf) (hz : inf.zero = some z) (hsz : inf.size = sz) (hby : inf.bytes = by_) (hzs : z.cells.size = sz) (hpos : Nat.blt 0 sz = true)
    (hx : evO e x = some v) (hy : evO e y = some u) (hF : getO F i = some (Own E sz v m xs)) (hu : Reads w0 F u m2 sz news) (h1 : news.all scalar = true) (hb : (m + m2) * by_ ≤ 140737488355328) (h63 : m + m2 ≤ maxLen)
    (hset : ∀ v', setO F i (Own E sz v' (m + m2) (xs ++ news)) = some (F1 v')) :
    Does P w0 (.mk (some t) (.call ⟨.builtin .append, #[x, y], #[T, T]⟩) ty pos aft none) e F (fun v' F2 => (v' = .slice none 0 0 ↔ v = .slice none 0 0 ∧ m2 = 0) ∧ F2 = F1 v') := by
  intro ρ w ha hw
  have hpos' : 0 < sz := Nat.le_of_ble_eq_true hpos
  have hargs : (#[x, y] : Array Operand).map ρ = [v, u].toArray := kn_args (xs := [x, y]) ha (by simp [evL, hx, hy])
  rcases hu.2 with ⟨b, o, cap, rfl, hrow⟩ | ⟨rfl, rfl⟩
  · obtain ⟨l', h1', _⟩ := perm_set (a' := Own E sz v m xs) (getO_eq hF)
    obtain ⟨v', w', hr, hw', hn⟩ := run_append_atom (P := P) (ty := ty) (c := cap) (a := ⟨b, o, none⟩) hT hi hz hsz hby hzs hpos' (hw.perm h1') hu.1 (fun j u hj => by rw [add_none]; exact hrow w hw j u hj) h1 hb h63
    obtain ⟨l2, h2, h3⟩ := perm_set (a' := Own E sz v' (m + m2) (xs ++ news)) (getO_eq hF)
    have he := (setO_eq (hset v')).2
    refine .inl ⟨v', w', F1 v', .inl (run_builtin ρ hargs (by simp only [builtin]; exact run_value hr)), ?_, hn, rfl⟩
    rw [he]
    exact (hw'.perm ((((h1'.symm.trans h2).cons_inv).cons _))).perm h3.symm
  · have hnil : news = [] := List.eq_nil_of_length_eq_zero (by simpa using hu.1)
    subst hnil
    have hown := Own.owns (hw.ok _ (List.mem_of_getElem? (getO_eq hF)))
    have hr := run_append_owned_none (P := P) w 0 T ty E inf sz hT hi v m xs hown
    have he := (setO_eq (hset v)).2
    refine .inl ⟨v, w, F1 v, .inl (run_builtin ρ hargs (by simp only [builtin]; exact run_value hr)), ?_, by simp, rfl⟩
    rw [he]
    have : F.set i (Own E sz v (m + 0) (xs ++ [])) = F := by
      have := getO_eq hF
      simp only [Nat.add_zero, List.append_nil]
      apply List.ext_getElem?
      intro q
      by_cases hq : i = q
      · subst hq
        obtain ⟨hlt, hval⟩ := List.getElem?_eq_some_iff.1 this
        rw [List.getElem?_set_self hlt, ← hval]
        simp [hlt]
      · rw [List.getElem?_set_ne hq]
    rw [this]
    exact hw
theorem any_after {D A : List Nat} {o : Oper} {Out : Value → List Atom → Prop} (c : Nat) (hi : opAt ops c = some o) (hreg : regOk ops = true) (hPA : ∀ i ∈ A, pairOk ops A i = true) (hpc : pairOk ops A c = true) (hac : acyc ops = true) (hAD : A.all (fun j => !D.contains j) = true) (hcn : (D ++ A).contains c = false) (hself : selfOk ops o = true) (hdn : dstOk n o.dst = true)
    (hblock : blockOk ops D A c = true) (hall : A.all (fun j => (edgesOn o).contains j) = true) (hpool : Pool P w0 n ops e F A) (hgt : GT ops e o true) (hdo : Does P w0 o e F Out) (hk : ∀ v F', Out v F' → GAny P f w0 K n d ops k (c :: (A ++ D)) [] (putE e o.dst v) F') : GAny P f w0 K n d ops k D A e F := by
  have hAD' : ∀ j ∈ A, j ∉ D := fun j hj hjD => by
    have := List.all_eq_true.1 hAD j hj
    simp [hjD] at this
  have hcn' : c ∉ D ∧ c ∉ A := by
    simp only [List.contains_eq_mem, decide_eq_false_iff_not, List.mem_append, not_or] at hcn
    exact hcn
  have hAs : ∀ j ∈ A, j < ops.size := fun j hj => by obtain ⟨_, _, _, hj', _⟩ := (hpool.at j hj).ex; exact opAt_lt hj'
  intro X hX fuel listed a w hs hL hf ha hw
  have hcs := opAt_lt hi
  have hcl : ∀ (X : List Nat) (listed : Array Bool), X ⊆ A → (∀ i, i < ops.size → (listed.getD i true = true ↔ i ∈ D ∨ i ∈ X)) → listed.getD c true = false := by
    intro X listed hX hL
    cases hb : listed.getD c true with
    | false => rfl
    | true =>
      rcases (hL c hcs).1 hb with h | h
      · exact absurd h hcn'.1
      · exact absurd (hX h) hcn'.2
  induction fuel generalizing X listed a with
  | zero =>
    have := full_count (show (listed.toList.filter id).length = listed.size by omega) c (by omega)
    rw [hcl X listed hX hL] at this; cases this
  | succ fuel ih =>
    refine ⟨fun hnil => absurd hnil (ready_ne hac hs hcs (hcl X listed hX hL)), fun i hir => ?_⟩
    obtain ⟨oi, hoi, his, hil, hie⟩ := ready_spec hir
    by_cases hiA : i ∈ A
    · exact any_step hreg hPA hAD' hpool hX hs hL (by omega) ha hw hiA hir (fun X listed a h1 h2 h3 h4 h5 => ih X h1 listed a h2 h3 h4 h5)
    · by_cases hic : i = c
      · subst hic
        rw [hi] at hoi; injection hoi with hoi; subst hoi
        obtain ⟨ρ, hkn, hex⟩ := exec_full ha hreg hpc hi hAs hAD' (selfOk_spec hself) hL hie
        have hcont : ∀ v F' w', Out v F' → Holds w0 F' w' → wpAny P .any ops (Next P f (RK w0 K) k) fuel (listed.setIfInBounds i true) (a.put o.dst v) w' := by
          intro v F' w' hout hw'
          have hAX : ∀ j ∈ A, j ∈ X := fun j hj => by
            have he := List.all_eq_true.1 hall j hj
            have hl := hie j (by simpa using he)
            have hjs := hAs j hj
            have hl' : listed.getD j true = true := by
              have : j < listed.size := by omega
              simp only [Array.getD, this, dite_true] at hl ⊢
              exact hl
            rcases (hL j hjs).1 hl' with h | h
            · exact absurd h (hAD' j hj)
            · exact h
          refine hk v F' hout [] (by simp) fuel _ _ w' (by simp [hs]) ?_ (by rw [count_set (by omega) hil]; omega) ?_ hw'
          · intro j hj
            rw [listed_set hs his hL j hj]
            simp only [List.mem_cons, List.mem_append, List.not_mem_nil, or_false]
            constructor
            · rintro (h | h | h)
              · exact .inl h
              · exact .inr (.inr h)
              · exact .inr (.inl (hX h))
            · rintro (h | h | h)
              · exact .inl h
              · exact .inr (.inr (hAX j h))
              · exact .inr (.inl h)
          · cases hdst : o.dst with
            | none => exact ⟨ha.size, ha.dfr, fun u x hx _ => ha.val u x hx fun j hj hjX => absurd (hAX j hj) hjX⟩
            | some t =>
              rw [hdst] at hdn
              have hlt : t < n := Nat.le_of_ble_eq_true hdn
              refine ⟨by simp [Act.put, ha.size], by simp [Act.put, ha.dfr], fun u x hx hp => ?_⟩
              simp only [putE, lk] at hx
              split at hx
              · rename_i hb
                have := Nat.eq_of_beq_eq_true hb; subst this
                injection hx with hx; subst hx
                simp [Act.put, Array.getElem?_setIfInBounds, ha.size, hlt]
              · rename_i hb
                have hne : ¬ t = u := fun h => by subst h; simp at hb
                simp only [Act.put]
                rw [Array.getElem?_setIfInBounds_ne hne]
                exact ha.val u x hx fun j hj hjX => absurd (hAX j hj) hjX
        have hi' : ops[i]? = some o := by simpa [opAt] using hi
        unfold wpOp
        simp only [hi']
        have hwt : Region.wanted o (yielded ops a.tmps) = true := hgt.wanted fun u hu x hx => ha.at hreg hpc hi hAs hAD' (selfOk_spec hself) hL hie (gslot_reads hu) hx
        simp only [hwt, if_true, Oper.wp, hex]
        refine .inl ?_
        rcases hdo ρ w hkn hw with ⟨v, w', F', hr, hw', hout⟩ | ⟨g, args, hr, hcalls⟩
        · rcases hr with hr | ⟨hr, rfl⟩
          · rw [hr]; exact hcont v F' w' hout hw'
          · rw [hr]; exact hcont _ F' w' hout hw'
        · rw [hr]
          refine hcalls.mono ?_
          rintro en w' ⟨v, F', rfl, hout, hw'⟩
          exact hcont v F' w' hout hw'
      · have hb := List.all_eq_true.1 hblock i (by simpa using his)
        have hiD : i ∉ D := fun h => by have := (hL i his).2 (.inl h); rw [hil] at this; cases this
        have hbeq : Nat.beq i c = false := by
          cases hq : Nat.beq i c
          · rfl
          · exact absurd (Nat.eq_of_beq_eq_true hq) hic
        rw [hoi] at hb
        simp only [List.contains_eq_mem, hiD, hiA, hbeq, decide_false, Bool.false_or, List.any_eq_true, Bool.not_eq_true', Bool.or_eq_false_iff, decide_eq_false_iff_not] at hb
        obtain ⟨x, hx, hxD, hxA⟩ := hb
        have hxl := hie x hx
        have hxs : x < ops.size := by
          rcases Nat.lt_or_ge x ops.size with h | h
          · exact h
          · simp [Array.getD, show ¬ x < listed.size by omega] at hxl
        have hxl' : listed.getD x true = true := by
          have : x < listed.size := by omega
          simp only [Array.getD, this, dite_true] at hxl ⊢
          exact hxl
        rcases (hL x hxs).1 hxl' with h | h
        · exact absurd h hxD
        · exact absurd (hX h) hxA

theorem QV.does {o : Oper} {v : Value} (h : QV P w0 o e F v) : Does P w0 o e F (fun v2 F2 => v2 = v ∧ F2 = F) := fun ρ w hk hw => .inl ⟨v, w, F, .inl (h ρ w hk hw), hw, rfl, rfl⟩
/-- What stands behind all of the pool. -/
theorem gp_after {D A : List Nat} {t : Tmp} {o : Oper} {v : Value} (c : Nat) (hi : opAt ops c = some o) (hd : o.dst = some t) (ht : Nat.ble (t + 1) n = true) (hAD : A.all (fun j => !D.contains j) = true) (hcn : (D ++ A).contains c = false) (hself : (selfOk ops o && pairOk ops A c) = true)
    (hblock : blockOk ops D A c = true) (hall : A.all (fun j => (edgesOn o).contains j) = true) (hq : QV P w0 o e F v) (hk : GP P f w0 K n d ops k (c :: (A ++ D)) [] ((t, v) :: e) F) (hg : o.guard = none := by rfl) : GP P f w0 K n d ops k D A e F := fun hreg hac hPA hp =>
  any_after c hi hreg hPA (Bool.and_eq_true_iff.1 hself).2 hac hAD hcn (Bool.and_eq_true_iff.1 hself).1 (by rw [hd]; exact ht) hblock hall hp (.none hg) hq.does fun v2 F' ⟨h1, h2⟩ => by
    rw [h1, h2, hd]
    exact hk hreg hac (by simp) .nil
theorem any_behind {D A A1 A2 : List Nat} {o : Oper} {Out : Value → List Atom → Prop} (c : Nat) (hi : opAt ops c = some o) (hreg : regOk ops = true) (hPA : ∀ i ∈ A, pairOk ops A i = true) (hpc : pairOk ops A c = true) (hac : acyc ops = true) (hAD : A.all (fun j => !D.contains j) = true) (hcn : (D ++ A).contains c = false) (hself : selfOk ops o = true) (hdn : dstOk n o.dst = true)
    (hblock : blockOk ops D A c = true) (h12 : ∀ j ∈ A, j ∈ A1 ∨ j ∈ A2) (h1e : ∀ j ∈ A1, j ∈ edgesOn o ∧ j ∈ A) (h2A : ∀ j ∈ A2, j ∈ A) (hpool : Pool P w0 n ops e F A) (hgt : GT ops e o true) (hdo : Does P w0 o e F Out) (hk : ∀ v F', Out v F' → GAny P f w0 K n d ops k (c :: (A1 ++ D)) A2 (putE e o.dst v) F') : GAny P f w0 K n d ops k D A e F := by
  have hAD' : ∀ j ∈ A, j ∉ D := fun j hj hjD => by
    have := List.all_eq_true.1 hAD j hj
    simp [hjD] at this
  have hcn' : c ∉ D ∧ c ∉ A := by
    simp only [List.contains_eq_mem, decide_eq_false_iff_not, List.mem_append, not_or] at hcn
    exact hcn
  have hAs : ∀ j ∈ A, j < ops.size := fun j hj => by obtain ⟨_, _, _, hj', _⟩ := (hpool.at j hj).ex; exact opAt_lt hj'
  intro X hX fuel listed a w hs hL hf ha hw
  have hcs := opAt_lt hi
  have hcl : ∀ (X : List Nat) (listed : Array Bool), X ⊆ A → (∀ i, i < ops.size → (listed.getD i true = true ↔ i ∈ D ∨ i ∈ X)) → listed.getD c true = false := by
    intro X listed hX hL
    cases hb : listed.getD c true with
    | false => rfl
    | true =>
      rcases (hL c hcs).1 hb with h | h
      · exact absurd h hcn'.1
      · exact absurd (hX h) hcn'.2
  induction fuel generalizing X listed a with
  | zero =>
    have := full_count (show (listed.toList.filter id).length = listed.size by omega) c (by omega)
    rw [hcl X listed hX hL] at this; cases this
  | succ fuel ih =>
    refine ⟨fun hnil => absurd hnil (ready_ne hac hs hcs (hcl X listed hX hL)), fun i hir => ?_⟩
    obtain ⟨oi, hoi, his, hil, hie⟩ := ready_spec hir
    by_cases hiA : i ∈ A
    · exact any_step hreg hPA hAD' hpool hX hs hL (by omega) ha hw hiA hir (fun X listed a h1 h2 h3 h4 h5 => ih X h1 listed a h2 h3 h4 h5)
    · by_cases hic : i = c
      · subst hic
        rw [hi] at hoi; injection hoi with hoi; subst hoi
        obtain ⟨ρ, hkn, hex⟩ := exec_full ha hreg hpc hi hAs hAD' (selfOk_spec hself) hL hie
        have hcont : ∀ v F' w', Out v F' → Holds w0 F' w' → wpAny P .any ops (Next P f (RK w0 K) k) fuel (listed.setIfInBounds i true) (a.put o.dst v) w' := by
          intro v F' w' hout hw'
          have hAX : ∀ j ∈ A1, j ∈ X := fun j hj => by
            have hl := hie j (h1e j hj).1
            have hjA := (h1e j hj).2
            have hjs := hAs j hjA
            have hl' : listed.getD j true = true := by
              have : j < listed.size := by omega
              simp only [Array.getD, this, dite_true] at hl ⊢
              exact hl
            rcases (hL j hjs).1 hl' with h | h
            · exact absurd h (hAD' j hjA)
            · exact h
          have hX' : ∀ j, j ∈ X.filter (fun j => A2.contains j) ↔ j ∈ X ∧ j ∈ A2 := by simp
          have hrest : ∀ {t : Tmp}, (∀ j ∈ A2, j ∉ X.filter (fun j => A2.contains j) → (opAt ops j).bind (·.dst) ≠ some t) → ∀ j ∈ A, j ∉ X → (opAt ops j).bind (·.dst) ≠ some t := fun hp j hj hjX => by
            rcases h12 j hj with h | h
            · exact absurd (hAX j h) hjX
            · exact hp j h (fun h2 => hjX ((hX' j).1 h2).1)
          refine hk v F' hout (X.filter (fun j => A2.contains j)) (fun j hj => ((hX' j).1 hj).2) fuel _ _ w' (by simp [hs]) ?_ (by rw [count_set (by omega) hil]; omega) ?_ hw'
          · intro j hj
            rw [listed_set hs his hL j hj]
            simp only [List.mem_cons, List.mem_append, hX']
            constructor
            · rintro (h | h | h)
              · exact .inl (.inl h)
              · exact .inl (.inr (.inr h))
              · rcases h12 j (hX h) with h1 | h1
                · exact .inl (.inr (.inl h1))
                · exact .inr ⟨h, h1⟩
            · rintro ((h | h | h) | h)
              · exact .inl h
              · exact .inr (.inr (hAX j h))
              · exact .inr (.inl h)
              · exact .inr (.inr h.1)
          · cases hdst : o.dst with
            | none => exact ⟨ha.size, ha.dfr, fun u x hx hp => ha.val u x hx (hrest hp)⟩
            | some t =>
              rw [hdst] at hdn
              have hlt : t < n := Nat.le_of_ble_eq_true hdn
              refine ⟨by simp [Act.put, ha.size], by simp [Act.put, ha.dfr], fun u x hx hp => ?_⟩
              simp only [putE, lk] at hx
              split at hx
              · rename_i hb
                have := Nat.eq_of_beq_eq_true hb; subst this
                injection hx with hx; subst hx
                simp [Act.put, Array.getElem?_setIfInBounds, ha.size, hlt]
              · rename_i hb
                have hne : ¬ t = u := fun h => by subst h; simp at hb
                simp only [Act.put]
                rw [Array.getElem?_setIfInBounds_ne hne]
                exact ha.val u x hx (hrest hp)
        have hi' : ops[i]? = some o := by simpa [opAt] using hi
        unfold wpOp
        simp only [hi']
        have hwt : Region.wanted o (yielded ops a.tmps) = true := hgt.wanted fun u hu x hx => ha.at hreg hpc hi hAs hAD' (selfOk_spec hself) hL hie (gslot_reads hu) hx
        simp only [hwt, if_true, Oper.wp, hex]
        refine .inl ?_
        rcases hdo ρ w hkn hw with ⟨v, w', F', hr, hw', hout⟩ | ⟨g, args, hr, hcalls⟩
        · rcases hr with hr | ⟨hr, rfl⟩
          · rw [hr]; exact hcont v F' w' hout hw'
          · rw [hr]; exact hcont _ F' w' hout hw'
        · rw [hr]
          refine hcalls.mono ?_
          rintro en w' ⟨v, F', rfl, hout, hw'⟩
          exact hcont v F' w' hout hw'
      · have hb := List.all_eq_true.1 hblock i (by simpa using his)
        have hiD : i ∉ D := fun h => by have := (hL i his).2 (.inl h); rw [hil] at this; cases this
        have hbeq : Nat.beq i c = false := by
          cases hq : Nat.beq i c
          · rfl
          · exact absurd (Nat.eq_of_beq_eq_true hq) hic
        rw [hoi] at hb
        simp only [List.contains_eq_mem, hiD, hiA, hbeq, decide_false, Bool.false_or, List.any_eq_true, Bool.not_eq_true', Bool.or_eq_false_iff, decide_eq_false_iff_not] at hb
        obtain ⟨x, hx, hxD, hxA⟩ := hb
        have hxl := hie x hx
        have hxs : x < ops.size := by
          rcases Nat.lt_or_ge x ops.size with h | h
          · exact h
          · simp [Array.getD, show ¬ x < listed.size by omega] at hxl
        have hxl' : listed.getD x true = true := by
          have : x < listed.size := by omega
          simp only [Array.getD, this, dite_true] at hxl ⊢
          exact hxl
        rcases (hL x hxs).1 hxl' with h | h
        · exact absurd h hxD
        · exact absurd (hX h) hxA

theorem pair_sub {A A2 : List Nat} (h : ∀ i ∈ A, pairOk ops A i = true) (h2 : ∀ j ∈ A2, j ∈ A) : ∀ i ∈ A2, pairOk ops A2 i = true := by
  intro i hi
  have := h i (h2 i hi)
  unfold pairOk at this ⊢
  split at this
  · cases this
  · simp only [List.all_eq_true] at this ⊢
    exact fun j hj => this j (h2 j hj)
/-- What is done behind some of the pool: these are settled, the others go on. -/
theorem gp_effa {D A : List Nat} {o : Oper} {Out : Value → List Atom → Prop} (c : Nat) (A1 A2 : List Nat) (hi : opAt ops c = some o) (hAD : A.all (fun j => !D.contains j) = true) (hcn : (D ++ A).contains c = false) (hself : (selfOk ops o && pairOk ops A c) = true) (hdn : dstOk n o.dst = true)
    (hblock : blockOk ops D A c = true) (hall : (A.all (fun j => A1.contains j || A2.contains j) && A1.all (fun j => (edgesOn o).contains j && A.contains j) && A2.all (fun j => A.contains j)) = true) (hdo : Does P w0 o e F Out) (hk : ∀ v F', Out v F' → Pool P w0 n ops (putE e o.dst v) F' A2 ∧ GP P f w0 K n d ops k (c :: (A1 ++ D)) A2 (putE e o.dst v) F') (hg : o.guard = none := by rfl) : GP P f w0 K n d ops k D A e F := fun hreg hac hPA hp => by
  simp only [Bool.and_eq_true, List.all_eq_true, Bool.or_eq_true, List.contains_eq_mem, decide_eq_true_eq] at hall
  obtain ⟨⟨h1, h2⟩, h3⟩ := hall
  exact any_behind c hi hreg hPA (Bool.and_eq_true_iff.1 hself).2 hac hAD hcn (Bool.and_eq_true_iff.1 hself).1 hdn hblock h1 h2 h3 hp (.none hg) hdo fun v F' ho => (hk v F' ho).2 hreg hac (pair_sub hPA h3) (hk v F' ho).1
end
end Go.Proofs.Ytecibldbnekgbaa.Fw
