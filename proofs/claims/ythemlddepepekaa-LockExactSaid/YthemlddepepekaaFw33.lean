import Derived.Test.YthemlddepepekaaFw32
namespace Go.Proofs.Ythemlddepepekaa.Fw
open Go
set_option linter.unusedVariables false
set_option linter.unusedSimpArgs false
set_option linter.unusedSectionVars false

/- In drawn regions: two things of which either may come first. -/
section
variable {P : Program} {f : Fr} {w0 : World} {K : Post} {n : Nat} {d : List Deferred} {ops : Array Oper} {rest : List Oper} {k : List Item} {e : Env} {F : List Atom}
/-- One of the things beside the pool that may come now. -/
structure Cand (P : Program) (f : Fr) (w0 : World) (K : Post) (n : Nat) (d : List Deferred) (ops : Array Oper) (k : List Item) (D A : List Nat) (e : Env) (F : List Atom) (c : Nat) : Prop where
  ex : ∃ (A1 A2 : List Nat) (o : Oper) (Out : Value → List Atom → Prop), opAt ops c = some o ∧ pairOk ops A c = true ∧ (D ++ A).contains c = false ∧ selfOk ops o = true ∧ dstOk n o.dst = true ∧ (∀ j ∈ A, j ∈ A1 ∨ j ∈ A2) ∧ (∀ j ∈ A1, j ∈ edgesOn o ∧ j ∈ A) ∧ (∀ j ∈ A2, j ∈ A) ∧ GT ops e o true ∧ Does P w0 o e F Out ∧ ∀ v F', Out v F' → GAny P f w0 K n d ops k (c :: (A1 ++ D)) A2 (putE e o.dst v) F'
def blockL (ops : Array Oper) (D A cs : List Nat) : Bool := (List.range ops.size).all fun j => D.contains j || A.contains j || cs.contains j || match opAt ops j with
  | none => false
  | some o => (edgesOn o).any fun x => !(D.contains x || A.contains x)
theorem any_cands {D A : List Nat} (cs : List Nat) (c0 : Nat) (hc0 : c0 ∈ cs) (hreg : regOk ops = true) (hPA : ∀ i ∈ A, pairOk ops A i = true) (hac : acyc ops = true) (hAD : A.all (fun j => !D.contains j) = true)
    (hblock : blockL ops D A cs = true) (hpool : Pool P w0 n ops e F A) (hcs : ∀ c ∈ cs, Cand P f w0 K n d ops k D A e F c) : GAny P f w0 K n d ops k D A e F := by
  have hAD' : ∀ j ∈ A, j ∉ D := fun j hj hjD => by
    have := List.all_eq_true.1 hAD j hj
    simp [hjD] at this
  have hcn' : c0 ∉ D ∧ c0 ∉ A := by
    obtain ⟨_, _, _, _, _, _, hcn, _⟩ := (hcs c0 hc0).ex
    simp only [List.contains_eq_mem, decide_eq_false_iff_not, List.mem_append, not_or] at hcn
    exact hcn
  have hAs : ∀ j ∈ A, j < ops.size := fun j hj => by obtain ⟨_, _, _, hj', _⟩ := (hpool.at j hj).ex; exact opAt_lt hj'
  intro X hX fuel listed a w hs hL hf ha hw
  have hcs0 : c0 < ops.size := by obtain ⟨_, _, _, _, hi, _⟩ := (hcs c0 hc0).ex; exact opAt_lt hi
  have hcl : ∀ (X : List Nat) (listed : Array Bool), X ⊆ A → (∀ i, i < ops.size → (listed.getD i true = true ↔ i ∈ D ∨ i ∈ X)) → listed.getD c0 true = false := by
    intro X listed hX hL
    cases hb : listed.getD c0 true with
    | false => rfl
    | true =>
      rcases (hL c0 hcs0).1 hb with h | h
      · exact absurd h hcn'.1
      · exact absurd (hX h) hcn'.2
  induction fuel generalizing X listed a with
  | zero =>
    have := full_count (show (listed.toList.filter id).length = listed.size by omega) c0 (by omega)
    rw [hcl X listed hX hL] at this; cases this
  | succ fuel ih =>
    refine ⟨fun hnil => absurd hnil (ready_ne hac hs hcs0 (hcl X listed hX hL)), fun i hir => ?_⟩
    obtain ⟨oi, hoi, his, hil, hie⟩ := ready_spec hir
    by_cases hiA : i ∈ A
    · exact any_step hreg hPA hAD' hpool hX hs hL (by omega) ha hw hiA hir (fun X listed a h1 h2 h3 h4 h5 => ih X h1 listed a h2 h3 h4 h5)
    · by_cases hic : i ∈ cs
      · obtain ⟨A1, A2, o, Out, hi, hpc, _, hself, hdn, h12, h1e, h2A, hgt, hdo, hk⟩ := (hcs i hic).ex
        rw [hi] at hoi; injection hoi with hoi; subst hoi
        obtain ⟨ρ, hkn, hex⟩ := exec_full ha hreg hpc hi hAs hAD' (selfOk_spec hself) hL hie
        have hcont : ∀ v F' w', Out v F' → Holds w0 F' w' → wpAny P .any ops (Next P f (RK w0 K) k) fuel (listed.setIfInBounds i true) (a.put o.dst v) w' := by
          intro v F' w' hout hw'
          have hAX : ∀ j ∈ A1, j ∈ X := fun j hj => by
            have hl := hie j (h1e j hj).1
            have hjA := (h1e j hj).2
            have hjs := hAs j hjA
            have hl' : listed.getD j true = true := by
              have : j < listed.size := by omega
              simp only [Array.getD, this, dite_true] at hl ⊢
              exact hl
            rcases (hL j hjs).1 hl' with h | h
            · exact absurd h (hAD' j hjA)
            · exact h
          have hX' : ∀ j, j ∈ X.filter (fun j => A2.contains j) ↔ j ∈ X ∧ j ∈ A2 := by simp
          have hrest : ∀ {t : Tmp}, (∀ j ∈ A2, j ∉ X.filter (fun j => A2.contains j) → (opAt ops j).bind (·.dst) ≠ some t) → ∀ j ∈ A, j ∉ X → (opAt ops j).bind (·.dst) ≠ some t := fun hp j hj hjX => by
            rcases h12 j hj with h | h
            · exact absurd (hAX j h) hjX
            · exact hp j h (fun h2 => hjX ((hX' j).1 h2).1)
          refine hk v F' hout (X.filter (fun j => A2.contains j)) (fun j hj => ((hX' j).1 hj).2) fuel _ _ w' (by simp [hs]) ?_ (by rw [count_set (by omega) hil]; omega) ?_ hw'
          · intro j hj
            rw [listed_set hs his hL j hj]
            simp only [List.mem_cons, List.mem_append, hX']
            constructor
            · rintro (h | h | h)
              · exact .inl (.inl h)
              · exact .inl (.inr (.inr h))
              · rcases h12 j (hX h) with h1 | h1
                · exact .inl (.inr (.inl h1))
                · exact .inr ⟨h, h1⟩
            · rintro ((h | h | h) | h)
              · exact .inl h
              · exact .inr (.inr (hAX j h))
              · exact .inr (.inl h)
              · exact .inr (.inr h.1)
          · cases hdst : o.dst with
            | none => exact ⟨ha.size, ha.dfr, fun u x hx hp => ha.val u x hx (hrest hp)⟩
            | some t =>
              rw [hdst] at hdn
              have hlt : t < n := Nat.le_of_ble_eq_true hdn
              refine ⟨by simp [Act.put, ha.size], by simp [Act.put, ha.dfr], fun u x hx hp => ?_⟩
              simp only [putE, lk] at hx
              split at hx
              · rename_i hb
                have := Nat.eq_of_beq_eq_true hb; subst this
                injection hx with hx; subst hx
                simp [Act.put, Array.getElem?_setIfInBounds, ha.size, hlt]
              · rename_i hb
                have hne : ¬ t = u := fun h => by subst h; simp at hb
                simp only [Act.put]
                rw [Array.getElem?_setIfInBounds_ne hne]
                exact ha.val u x hx (hrest hp)
        have hi' : ops[i]? = some o := by simpa [opAt] using hi
        unfold wpOp
        simp only [hi']
        have hwt : Region.wanted o (yielded ops a.tmps) = true := hgt.wanted fun u hu x hx => ha.at hreg hpc hi hAs hAD' (selfOk_spec hself) hL hie (gslot_reads hu) hx
        simp only [hwt, if_true, Oper.wp, hex]
        refine .inl ?_
        rcases hdo ρ w hkn hw with ⟨v, w', F', hr, hw', hout⟩ | ⟨g, args, hr, hcalls⟩
        · rcases hr with hr | ⟨hr, rfl⟩
          · rw [hr]; exact hcont v F' w' hout hw'
          · rw [hr]; exact hcont _ F' w' hout hw'
        · rw [hr]
          refine hcalls.mono ?_
          rintro en w' ⟨v, F', rfl, hout, hw'⟩
          exact hcont v F' w' hout hw'
      · have hb := List.all_eq_true.1 hblock i (by simpa using his)
        have hiD : i ∉ D := fun h => by have := (hL i his).2 (.inl h); rw [hil] at this; cases this
        rw [hoi] at hb
        simp only [List.contains_eq_mem, hiD, hiA, hic, decide_false, Bool.false_or, List.any_eq_true, Bool.not_eq_true', Bool.or_eq_false_iff, decide_eq_false_iff_not] at hb
        obtain ⟨x, hx, hxD, hxA⟩ := hb
        have hxl := hie x hx
        have hxs : x < ops.size := by
          rcases Nat.lt_or_ge x ops.size with h | h
          · exact h
          · simp [Array.getD, show ¬ x < listed.size by omega] at hxl
        have hxl' : listed.getD x true = true := by
          have : x < listed.size := by omega
          simp only [Array.getD, this, dite_true] at hxl ⊢
          exact hxl
        rcases (hL x hxs).1 hxl' with h | h
        · exact absurd h hxD
        · exact absurd (hX h) hxA

def cOk (ops : Array Oper) (n : Nat) (D A A1 A2 : List Nat) (c : Nat) (o : Oper) : Bool := !((D ++ A).contains c) && selfOk ops o && pairOk ops A c && dstOk n o.dst && A.all (fun j => A1.contains j || A2.contains j) && A1.all (fun j => (edgesOn o).contains j && A.contains j) && A2.all (fun j => A.contains j)
theorem Cand.mk2 {D A A1 A2 : List Nat} {c : Nat} {o : Oper} {Out : Value → List Atom → Prop} (hreg : regOk ops = true) (hac : acyc ops = true) (hPA : ∀ i ∈ A, pairOk ops A i = true) (hi : opAt ops c = some o) (h : cOk ops n D A A1 A2 c o = true) (hg : o.guard = none) (hdo : Does P w0 o e F Out) (hk : ∀ v F', Out v F' → Pool P w0 n ops (putE e o.dst v) F' A2 ∧ GP P f w0 K n d ops k (c :: (A1 ++ D)) A2 (putE e o.dst v) F') : Cand P f w0 K n d ops k D A e F c := by
  unfold cOk at h
  simp only [Bool.and_eq_true, List.all_eq_true, Bool.or_eq_true, List.contains_eq_mem, decide_eq_true_eq, Bool.not_eq_true', decide_eq_false_iff_not] at h
  obtain ⟨⟨⟨⟨⟨⟨h1, h2⟩, h3⟩, h4⟩, h5⟩, h6⟩, h7⟩ := h
  exact ⟨A1, A2, o, Out, hi, h3, by simpa using h1, h2, h4, h5, h6, h7, .none hg, hdo, fun v F' ho => (hk v F' ho).2 hreg hac (pair_sub hPA h7) (hk v F' ho).1⟩
/-- Two things that may come now, in either order. -/
theorem gp_two {D A : List Nat} {o1 o2 : Oper} {Out1 Out2 : Value → List Atom → Prop} (c1 : Nat) (A11 A12 : List Nat) (c2 : Nat) (A21 A22 : List Nat) (hi1 : opAt ops c1 = some o1) (hi2 : opAt ops c2 = some o2) (hAD : A.all (fun j => !D.contains j) = true) (h1 : cOk ops n D A A11 A12 c1 o1 = true) (h2 : cOk ops n D A A21 A22 c2 o2 = true) (hblock : blockL ops D A [c1, c2] = true)
    (hdo1 : Does P w0 o1 e F Out1) (hdo2 : Does P w0 o2 e F Out2) (hk1 : ∀ v F', Out1 v F' → Pool P w0 n ops (putE e o1.dst v) F' A12 ∧ GP P f w0 K n d ops k (c1 :: (A11 ++ D)) A12 (putE e o1.dst v) F') (hk2 : ∀ v F', Out2 v F' → Pool P w0 n ops (putE e o2.dst v) F' A22 ∧ GP P f w0 K n d ops k (c2 :: (A21 ++ D)) A22 (putE e o2.dst v) F')
    (hg1 : o1.guard = none := by rfl) (hg2 : o2.guard = none := by rfl) : GP P f w0 K n d ops k D A e F := fun hreg hac hPA hp =>
  any_cands [c1, c2] c1 (List.mem_cons_self ..) hreg hPA hac hAD hblock hp fun c hc => by
    rcases List.mem_cons.1 hc with rfl | hc
    · exact Cand.mk2 hreg hac hPA hi1 h1 hg1 hdo1 hk1
    · obtain rfl := List.mem_singleton.1 hc
      exact Cand.mk2 hreg hac hPA hi2 h2 hg2 hdo2 hk2
theorem g_unroll {c : Code} (h : G P f w0 K n d (.code c :: .inLoop c :: k) e F) : G P f w0 K n d (.code (.loop c) :: k) e F := fun a w ha hw => .head (fun b cs => stepR_loop) (h a w ha hw)
theorem g_more {c : Code} (h : G P f w0 K n d (.code c :: .inLoop c :: k) e F) : G P f w0 K n d (.inLoop c :: k) e F := fun a w ha hw => .head (fun b cs => stepR_inLoop) (h a w ha hw)
theorem g_join {X : Type} {c c1 c2 : Code} (B : Env) (hB : Sub e B) (I : X → Prop) (E : X → Env) (H : X → List Atom) (rest : ∀ x, I x → G P f w0 K n d (.code c2 :: k) (E x ++ B) (H x))
    (now : (∀ x, I x → G P f w0 K n d (.code c2 :: k) (E x ++ B) (H x)) → G P f w0 K n d (.code c :: .code (.seq c1 c2) :: k) e F) : G P f w0 K n d (.code c :: .code (.seq c1 c2) :: k) e F := now rest
theorem g_join0 {X : Type} {i1 i2 : Item} (B : Env) (hB : Sub e B) (I : X → Prop) (E : X → Env) (H : X → List Atom) (rest : ∀ x, I x → G P f w0 K n d k (E x ++ B) (H x)) (now : (∀ x, I x → G P f w0 K n d k (E x ++ B) (H x)) → G P f w0 K n d (i1 :: i2 :: k) e F) : G P f w0 K n d (i1 :: i2 :: k) e F := now rest
theorem does_appendS {ty : TypeId} {pos : String} {aft : Array Edge} {t x y T E sz by_ m m2 m3 inf z v u} {F1 : Option Addr → Nat → List Atom} {xs news X3 : List Value} (i : Nat) (hT : P.underlying T = some (.slice E)) (hi : P.info? E = some inf) (hz : inf.zero = some z) (hsz : inf.size = sz) (hby : inf.bytes = by_) (hzs : z.cells.size = sz) (hpos : Nat.blt 0 sz = true)
    (hx : evO e x = some v) (hy : evO e y = some u) (hF : getO F i = some (Own E sz v m xs)) (hu : Reads w0 F u m2 sz news) (h1 : news.all scalar = true) (hb : (m + m2) * by_ ≤ 140737488355328) (h63 : m + m2 ≤ maxLen) (hm3 : m + m2 = m3) (hV3 : xs ++ news = X3)
    (hset : ∀ a c, setO F i (Own E sz (.slice a m3 c) m3 X3) = some (F1 a c)) :
    Does P w0 (.mk (some t) (.call ⟨.builtin .append, #[x, y], #[T, T]⟩) ty pos aft none) e F (fun v' F2 => ∃ a c, (m3 = 0 ∨ ∃ g, a = some ⟨g, 0, none⟩) ∧ v' = .slice a m3 c ∧ F2 = F1 a c) := by
  subst hm3 hV3
  have hlt : i < F.length := (List.getElem?_eq_some_iff.1 (getO_eq hF)).1
  intro ρ w ha hw
  rcases does_append (P := P) (w0 := w0) (ty := ty) (pos := pos) (aft := aft) (t := t) i hT hi hz hsz hby hzs hpos hx hy hF hu h1 hb h63 (fun v' => setO_of hlt) ρ w ha hw with ⟨v', w', F', hr, hw', hn, rfl⟩ | ⟨g, args, hr, hc⟩
  · have hmem : Own E sz v' (m + m2) (xs ++ news) ∈ F.set i (Own E sz v' (m + m2) (xs ++ news)) := List.mem_set hlt _
    obtain ⟨a, c, rfl, h1⟩ := own_slice hmem w' hw'
    have := (setO_eq (hset a c)).2
    exact .inl ⟨_, w', _, hr, by rw [← this] at hw'; exact hw', a, c, h1, rfl, rfl⟩
  · refine .inr ⟨g, args, hr, hc.mono ?_⟩
    rintro en w' ⟨v', F', rfl, ⟨hn, rfl⟩, hw'⟩
    have hmem : Own E sz v' (m + m2) (xs ++ news) ∈ F.set i (Own E sz v' (m + m2) (xs ++ news)) := List.mem_set hlt _
    obtain ⟨a, c, rfl, h1⟩ := own_slice hmem w' hw'
    have := (setO_eq (hset a c)).2
    exact ⟨_, _, rfl, ⟨a, c, h1, rfl, rfl⟩, by rw [← this] at hw'; exact hw'⟩
/-- A fact that is not looked at. -/
structure Hid (p : Prop) : Prop where
  out : p
end
end Go.Proofs.Ythemlddepepekaa.Fw
